/- Part of a proof of a law of this seat: the machine of plain values, its simulation, and the contracts of the functions that the law reaches. Conditions: none beyond the given row. -/
import Derived.Test.YtdcpehdijdllpaaGreatM2
import Derived.Sort.AssemblyPlain
open Int renaming reduceLT → j2, reduceLE → j3, reduceBEq → j4, reduceBNe → j5, reduceEq → j6
open Nat renaming reduceAdd → j7, reduceLeDiff → j8, reduceLT → j9, reduceEqDiff → y1
set_option linter.unusedSimpArgs false
set_option linter.unusedVariables false
set_option linter.unnecessarySimpa false
set_option maxHeartbeats 4000000
section
namespace Go.Proofs.YtdcpehdijdllpaaGreat.St
open Go.Rmp Go.Proofs.YtdcpehdijdllpaaGreat.Ir
set_option maxRecDepth 10000
theorem v7 {l:List Nat}:yC l↔l.Pairwise (· < ·):=by
 rw[List.pairwise_iff_getElem]
 constructor
 ·intro h i j hi hj sB
  exact h i j _ _ sB (List.getElem?_eq_getElem hi) (List.getElem?_eq_getElem hj)
 ·intro h i j a b sB ha hb
  obtain⟨hi,e1⟩:=List.getElem?_eq_some_iff.1 ha
  obtain⟨hj,e2⟩:=List.getElem?_eq_some_iff.1 hb
  have:=h i j hi hj sB
  rw[e1,e2]at this;exact this
theorem Hu {l:List Nat}{i x:Nat}(h:yC l)(hx:x∉l)(h1:∀p a,p<i→l[p]?=some a→a<x)(h2:∀p a,i≤p→l[p]?=some a→x≤a):yC (l.take i++x :: l.drop i):=by
 rw[v7]at h ⊢
 have m1:∀a∈l.take i,a<x:=fun a ha=>by
  obtain⟨p,hp,e⟩:=List.getElem_of_mem ha
  have xg:p<i∧p<l.length:=by simp -implicitDefEqProofs only[List.length_take]at hp;omega
  exact h1 p a xg.1 (by rw[←e];simp[List.getElem?_eq_getElem xg.2])
 have m2:∀a∈l.drop i,x<a:=fun a ha=>by
  obtain⟨p,hp,e⟩:=List.getElem_of_mem ha
  have xg:i+p<l.length:=by simp -implicitDefEqProofs only[List.length_drop]at hp;omega
  have h3:=h2 (i+p) a (by omega) (by rw[←e];simp[List.getElem?_eq_getElem xg])
  have:a≠x:=by rintro rfl;exact hx (List.mem_of_mem_drop ha)
  omega
 rw[List.pairwise_append]
 refine⟨h.sublist (List.take_sublist _ _),?_,fun a ha b hb=>?_⟩
 ·rw[List.pairwise_cons]
  exact⟨m2,h.sublist (List.drop_sublist _ _)⟩
 ·have:=m1 a ha
  rcases List.mem_cons.1 hb with rfl|hb
  ·exact this
  ·have:=m2 b hb;omega
theorem Ll {l:List Nat}{i x a:Nat}:a∈l.take i++x :: l.drop i↔a=x∨a∈l:=by
 conv=>rhs;rw[←List.take_append_drop i l]
 simp -implicitDefEqProofs only[List.mem_append,List.mem_cons]
 constructor
 ·rintro (h|h|h)
  ·exact .inr (.inl h)
  ·exact .inl h
  ·exact .inr (.inr h)
 ·rintro (h|h|h)
  ·exact .inr (.inl h)
  ·exact .inl h
  ·exact .inr (.inr h)
theorem qX {o:Option T}{c off len m:Nat}(h:jK o (.sl .nil []) false=.aC c off len m):eG o=some c:=by
 cases o with
 | none=>cases h
 | some t=>have h:t=_:=h;subst h;rfl
def dH.put (s:dH)(k:ByteArray)(n:Nat)(h:Hd)(l:List Nat):dH:=⟨cD s.vs (k,n) h,s.ls,fun k'=>if k'=k then l else s.ids k',fun n'=>if n'=n then s.dM n++[k]else s.dM n',s.n+1⟩
theorem gV.put {s:dH}(hi:gV s){k:ByteArray}{n:Nat}{h:Hd}(fI:aj s.vs (k,n)=none)(hk:gI h.kk h.keys∧h.keys.length≤1024){i:Nat}(h1:∀p a,p<i→(s.ids k)[p]?=some a→a<n)(h2:∀p a,i≤p→(s.ids k)[p]?=some a→n≤a):gV (s.put k n h ((s.ids k).take i++n :: (s.ids k).drop i)):=by
 have hx:n∉s.ids k:=fun hm=>by rw[hi.Jp,fI]at hm;cases hm
 have hp:k∉s.dM n:=fun hm=>by rw[hi.Lk,fI]at hm;cases hm
 refine⟨fun k'=>?_,fun k' n'=>?_,fun n'=>?_,fun n' k'=>?_,dp hi.nd _ _,fun m h' hm=>?_,fun k'=>?_,fun n'=>?_,hi.Aa⟩
 ·simp -implicitDefEqProofs only[dH.put];split
  ·exact Hu (hi.yD k) hx h1 h2
  ·exact hi.yD k'
 ·simp -implicitDefEqProofs only[dH.put,bq]
  by_cases e:k'=k
  ·subst e
   simp -implicitDefEqProofs only[if_true,Ll,hi.Jp,Prod.mk.injEq,true_and]
   by_cases e2:n'=n<;>simp[e2]
  ·simp[e,hi.Jp]
 ·simp -implicitDefEqProofs only[dH.put];split
  ·rw[List.nodup_append];exact⟨hi.Qu n,by simp,fun a ha c hc=>by simp at hc;subst hc;rintro rfl;exact hp ha⟩
  ·exact hi.Qu n'
 ·simp -implicitDefEqProofs only[dH.put,bq]
  by_cases e:n'=n
  ·subst e
   simp -implicitDefEqProofs only[if_true,List.mem_append,List.mem_singleton,hi.Lk,Prod.mk.injEq,and_true]
   by_cases e2:k'=k<;>simp[e2]
  ·simp[e,hi.Lk]
 ·simp -implicitDefEqProofs only[dH.put,bq]at hm
  split at hm
  ·cases hm;exact hk
  ·exact hi.VI m h' hm
 ·have:=hi.bi k'
  simp -implicitDefEqProofs only[dH.put];split
  ·rename_i e;subst e;simp -implicitDefEqProofs only[List.length_append,List.length_take,List.length_cons,List.length_drop];omega
  ·omega
 ·have:=hi.bp n'
  simp -implicitDefEqProofs only[dH.put];split
  ·rename_i e;subst e;simp -implicitDefEqProofs only[List.length_append,List.length_singleton];omega
  ·omega
theorem Nu (b:Bk)(s:dH)(F:Nat→Prop)(k:ByteArray)(n:Nat)(h:Hd)(H:af)(hs:SH H b s F)(hi:gV s)(fI:aj s.vs (k,n)=none)(hn:s.n≤8000000)(hk:gI h.kk h.keys∧h.keys.length≤1024) :
  W env (.call 68 [.ptr b.s 0,kN (k,n),fC h]) H (fun o H'=>o=.val (.bC [])∧∃s' F',SH H' b s' F'∧gV s'∧s'.vs=cD s.vs (k,n) h∧s'.ls=s.ls∧s'.n=s.n+1∧a6 F H H'∧∀c,F' c→F c∨(H.length≤c∧c<H'.length)):=by
 obtain⟨im,pm,sa⟩:=hs
 obtain⟨sv,si,sp,sl⟩:=sa.ne
 have l0:=aQ sa.hs
 have lv:=aQ sa.hv
 have li:=aQ sa.hi
 have lp:=aQ sa.hp
 have ll:=aQ sa.hl
 obtain⟨t,ht⟩:∃t,jK (aj im k) (.sl .nil []) false=t:=⟨_,rfl⟩
 have BR:=(sa.oi k).mut
 rw[ht]at BR
 have qY:=fun Hx v=>vT vZ Hx b.v (eE s.vs) (k,n) v
 simp -implicitDefEqProofs only[kN,eN]at qY
 refine W.bA rfl rfl rfl ?_
 simp -implicitDefEqProofs only[P2,kN,eN,fC,op,ef,cl,sq,reduceIte,j2,j3,j4,j5,j6,j7,j8,j9,y1,S1,S2,S3,List.length_set,sa.hs,sa.hv,l0,lv,qY,sv,li,sa.hi,sa.vi,fZ,ht]
 generalize qF:H.set b.v (B.map (bl kN (cD (eE s.vs) (k,n) (T.agg [T.str h.value,T.sl h.kk (h.keys.map eS),T.int IntKind.i64 h.a9]))))++[B.cells [T.str k,T.int IntKind.u64 n]]++[B.cells [T.str h.value,T.sl h.kk (h.keys.map eS),T.int IntKind.i64 h.a9]]=H1
 have acs:H1.length=H.length+2:=by rw[←qF];simp
 have iv:∀{c x},c≠b.v→H[c]?=some x→H1[c]?=some x:=fun hc hx=>by
  have:=aQ hx
  rw[←qF,aR (by simp;omega),aR (by simpa using this),bm (Ne.symm hc)];exact hx
 have c1:H1[H.length]?=some (.cells [T.str k,T.int IntKind.u64 n]):=by rw[←qF,aR (by simp),aE (by simp)]
 have v1:H1[b.v]?=some (.map (bl kN (eE (cD s.vs (k,n) h)))):=by
  rw[←qF,aR (by simp;omega),aR (by simpa using lv),bQ lv]
  congr 3;exact oS fC s.vs (k,n) h
 have s1:=iv (Ne.symm sv) sa.hs
 have i1:=iv (Ne.symm sa.vi) sa.hi
 have p1:=iv (Ne.symm sa.vp) sa.hp
 have w1:=iv (Ne.symm sa.vl) sa.hl
 have VJ:lB eU 1 0 H1 t (s.ids k):=by
  have:=((sa.oi k).eJ (F':=F) (H':=H1) (fun c x hc hx=>iv (sa.jL hc).2.1 hx) (fun _ _ h=>h)).mut
  rwa[ht]at this
 refine ae _ _ _ _ _ _ _ _ (acm 0 t (s.ids k) n H1 VJ (by have:=hi.bi k;omega) (hi.yD k)) ?_
 rintro u H2⟨i,fd,hu,rfl,C9,hi2,VK⟩
 cases hu
 have l10:b.s<H2.length:=aQ s1
 have Ys:H.length<H2.length:=aQ c1
 have l12:b.i<H2.length:=aQ i1
 have l13:b.p<H2.length:=aQ p1
 simp -implicitDefEqProofs only[op,ef,cl,sq,reduceIte,j2,j3,j4,j5,j6,j7,j8,j9,y1,S1,S2,S3,s1,c1,i1,l10,Ys,l12,fZ,ht]
 have tne:∀c,(∀c',eG (aj im k)=some c'→c'≠c)→∀off len m,t≠.aC c off len m:=fun c hc off len m he=>hc c (qX (ht.trans he)) rfl
 have Bh:∀y:B,Ext H2 (H2++[y]):=fun y=>⟨_,rfl⟩
 have h60:=VH t (s.ids k) i n H2.length _ (VJ.ext (Bh (.cells [.int .u64 n]))) (aE rfl) (fun off len m he=>by have:=(sa.jL (qX (ht.trans he))).2.2.2.2.2.2;omega) C9 (by have:=hi.bi k;omega)
 obtain⟨ys,Sv⟩:∃ys,ys=(s.ids k).take i++n :: (s.ids k).drop i:=⟨_,rfl⟩
 rw[←Sv]at h60
 refine ae _ _ _ _ _ _ _ _ h60 ?_
 rintro u H3⟨b',hu,jN,_,cW,av⟩
 cases hu
 have gW:∀{c x},H2[c]?=some x→(∀c',eG (aj im k)=some c'→c'≠c)→H3[c]?=some x:=fun hx hc=>cW.get _ _ ((Bh _).get hx) (tne _ hc)
 have s3:=gW s1 fun c' hc=>(sa.jL hc).1
 have v3:=gW v1 fun c' hc=>(sa.jL hc).2.1
 have i3:=gW i1 fun c' hc=>(sa.jL hc).2.2.1
 have p3:=gW p1 fun c' hc=>(sa.jL hc).2.2.2.1
 have w3:=gW w1 fun c' hc=>(sa.jL hc).2.2.2.2.1
 have c3:=gW c1 fun c' hc=>by have:=(sa.jL hc).2.2.2.2.2.2;omega
 have l30:=aQ s3
 have l31:=aQ c3
 have l32:=aQ i3
 have l33:=aQ p3
 have acv:H2.length+1≤H3.length:=by have:=cW.len;simpa using this
 have bH:b.i≠H.length:=by omega
 obtain⟨t2,Yd⟩:∃t2,jK (aj pm n) (.sl .nil []) false=t2:=⟨_,rfl⟩
 obtain⟨H4,Yt⟩:∃H4,H4=H3.set b.i (.map (bl T.str (cD im k (.aC b' 0 ys.length 1)))):=⟨_,rfl⟩
 have gX:∀{c x},H3[c]?=some x→c≠b.i→H4[c]?=some x:=fun hx hc=>by rw[Yt,bm (Ne.symm hc)];exact hx
 have s4:=gX s3 (Ne.symm si)
 have c4:=gX c3 (Ne.symm bH)
 have p4:=gX p3 (Ne.symm sa.ip)
 have v4:=gX v3 sa.vi
 have w4:=gX w3 (Ne.symm sa.il)
 have i4:H4[b.i]?=some (.map (bl T.str (cD im k (.aC b' 0 ys.length 1)))):=by rw[Yt,bQ l32]
 have kP:∀n' c x,eG (aj pm n')=some c→H[c]?=some x→H4[c]?=some x:=fun n' c x hc hx=>by
  obtain⟨e1,e2,e3,e4,e5,_,e6⟩:=sa.lK hc
  exact gX (gW (iv e2 hx) fun c' ir e=>sa.sx k n' c (e▸ir) hc) e3
 have Lm:lB eS 1 0 H4 t2 (s.dM n):=by
  have:=((sa.op n).eJ (F':=F) (H':=H4) (fun c x hc hx=>kP n c x hc hx) (fun _ _ h=>h)).mut
  rwa[Yd]at this
 have Gs:xv t2=t2:=by
  rcases Lm with⟨_,rfl⟩|⟨_,rfl,_⟩<;>rfl
 obtain⟨t3,H5,kx,VL,Dc⟩:=mU (enc:=eS) (n:=1) (n0:=0) (bytes:=16) (fun _=>rfl) [k] Lm (Nat.zero_le _) (by simp) (sA (by have:=hi.bp n;simp;omega) (by omega))
 simp -implicitDefEqProofs only[List.map_cons,List.map_nil,eS]at kx
 have acw:∀c,(∀c',eG (aj pm n)=some c'→c'≠c)→∀off len m,t2≠.aC c off len m:=fun c hc off len m he=>hc c (qX (Yd.trans he)) rfl
 have gr:∀{c x},H4[c]?=some x→(∀c',eG (aj pm n)=some c'→c'≠c)→H5[c]?=some x:=fun hx hc=>Dc.get _ _ hx (acw _ hc)
 have s5:=gr s4 fun c' hc=>(sa.lK hc).1
 have v5:=gr v4 fun c' hc=>(sa.lK hc).2.1
 have i5:=gr i4 fun c' hc=>(sa.lK hc).2.2.1
 have p5:=gr p4 fun c' hc=>(sa.lK hc).2.2.2.1
 have w5:=gr w4 fun c' hc=>(sa.lK hc).2.2.2.2.1
 have c5:=gr c4 fun c' hc=>by have:=(sa.lK hc).2.2.2.2.2.2;omega
 simp -implicitDefEqProofs only[op,ef,cl,sq,reduceIte,j2,j3,j4,j5,j6,j7,j8,j9,y1,S1,S2,s3,c3,i3,nX,←Yt,s4,c4,p4,s5,c5,p5,my,Yd,Gs,kx,sk]
 have A4:s.dM n++[k]≠[]:=by simp
 obtain⟨b3,rfl,DZ,_⟩:∃b3,t3=.aC b3 0 (s.dM n++[k]).length 1∧H5[b3]?=some (.cells (aP eS (s.dM n++[k])))∧0≤b3:=by
  rcases VL with⟨h,_⟩|h
  ·exact absurd h A4
  ·exact h
 have DX:H4.length≤b3:=qV kx (by simp)
 have ah0:H4.length=H3.length:=by rw[Yt];simp
 have lb':=aQ jN
 have lb3:=aQ DZ
 have nb:H.length≤b'∨eG (aj im k)=some b':=by
  rcases av with h|⟨off,len,m,h⟩
  ·rw[List.length_append]at h;exact .inl (by omega)
  ·exact .inr (qX (ht.trans h))
 have nbS:∀{c},c<H.length→(∀c',eG (aj im k)=some c'→c'≠c)→b'≠c:=fun hc hh=>nb.elim (fun h=>by omega) fun h=>hh _ h
 have oT:∀{c x},H5[c]?=some x→c≠b.p→(H5.set b.p (.map (bl kU (cD pm n (.aC b3 0 (s.dM n++[k]).length 1)))))[c]?=some x:=fun hx hc=>by rw[bm (Ne.symm hc)];exact hx
 have kI:∀k' c x,k'≠k→eG (aj im k')=some c→H[c]?=some x→(H5.set b.p (.map (bl kU (cD pm n (.aC b3 0 (s.dM n++[k]).length 1)))))[c]?=some x:=fun k' c x hk hc hx=>by
  obtain⟨e1,e2,e3,e4,e5,_,e6⟩:=sa.jL hc
  exact oT (gr (gX (gW (iv e2 hx) fun c' ir e=>hk (sa.si k' k c hc (e▸ir))) e3) fun c' ir e=>sa.sx k' n c hc (e▸ir)) e4
 refine⟨rfl,s.put k n h ys,fun c=>F c∨(H.length≤c∧c<H5.length),⟨cD im k (.aC b' 0 ys.length 1),cD pm n (.aC b3 0 (s.dM n++[k]).length 1),?_⟩,by rw[Sv];exact hi.put fI hk hi2 VK,rfl,rfl,rfl,?_,fun c h=>h⟩
 ·refine⟨oT s5 (Ne.symm sp),oT v5 sa.vp,oT i5 sa.ip,bQ (aQ p5),oT w5 (Ne.symm sa.pl),sa.vi,sa.vp,sa.vl,sa.ip,sa.il,sa.pl,⟨.inl sa.F0.1,.inl sa.F0.2.1,.inl sa.F0.2.2.1,.inl sa.F0.2.2.2.1,.inl sa.F0.2.2.2.2⟩,fun k'=>?_,fun n'=>?_,fun k1 k2 c h1 h2=>?_,fun n1 n2 c h1 h2=>?_,fun k1 n1 c h1 h2=>?_,dp sa.np _ _⟩
  ·simp -implicitDefEqProofs only[dH.put,bq]
   by_cases e:k'=k
   ·simp -implicitDefEqProofs only[e,if_true]
    refine⟨b',rfl,oT (gr (gX jN (nbS li fun c' ir=>(sa.jL ir).2.2.1)) fun c' ir e'=>?_) (nbS lp fun c' ir=>(sa.jL ir).2.2.2.1),nb.elim (fun h=>.inr ⟨h,by have:=Dc.len;omega⟩) fun h=>.inl (sa.jL h).2.2.2.2.2.1⟩
    subst e'
    exact nb.elim (fun h=>by have:=(sa.lK ir).2.2.2.2.2.2;omega) fun h=>sa.sx k n _ h ir
   ·simp -implicitDefEqProofs only[e,if_false]
    exact(sa.oi k').eJ (fun c x hc hx=>kI k' c x e hc hx) fun c _ h=>.inl h
  ·simp -implicitDefEqProofs only[dH.put,bq]
   by_cases e:n'=n
   ·simp -implicitDefEqProofs only[e,if_true]
    exact⟨b3,rfl,oT DZ (by omega),.inr ⟨by omega,lb3⟩⟩
   ·simp -implicitDefEqProofs only[e,if_false]
    refine(sa.op n').eJ (fun c x hc hx=>oT (gr (kP n' c x hc hx) fun c' ir e'=>e (sa.sp n' n c hc (e'▸ir))) (sa.lK hc).2.2.2.1) fun c _ h=>.inl h
  ·simp -implicitDefEqProofs only[bq]at h1 h2
   by_cases e1:k1=k
   ·by_cases e2:k2=k
    ·rw[e1,e2]
    ·simp -implicitDefEqProofs only[e1,if_true,eG,Option.some.injEq]at h1
     simp -implicitDefEqProofs only[e2,if_false]at h2
     subst h1
     exact absurd (nb.elim (fun h=>by have:=(sa.jL h2).2.2.2.2.2.2;omega) fun h=>sa.si _ _ _ h2 h) e2
   ·by_cases e2:k2=k
    ·simp -implicitDefEqProofs only[e2,if_true,eG,Option.some.injEq]at h2
     simp -implicitDefEqProofs only[e1,if_false]at h1
     subst h2
     exact absurd (nb.elim (fun h=>by have:=(sa.jL h1).2.2.2.2.2.2;omega) fun h=>sa.si _ _ _ h1 h) e1
    ·simp -implicitDefEqProofs only[e1,e2,if_false]at h1 h2
     exact sa.si _ _ _ h1 h2
  ·simp -implicitDefEqProofs only[bq]at h1 h2
   by_cases e1:n1=n
   ·by_cases e2:n2=n
    ·rw[e1,e2]
    ·simp -implicitDefEqProofs only[e1,if_true,eG,Option.some.injEq]at h1
     simp -implicitDefEqProofs only[e2,if_false]at h2
     have:=(sa.lK h2).2.2.2.2.2.2;omega
   ·by_cases e2:n2=n
    ·simp -implicitDefEqProofs only[e2,if_true,eG,Option.some.injEq]at h2
     simp -implicitDefEqProofs only[e1,if_false]at h1
     have:=(sa.lK h1).2.2.2.2.2.2;omega
    ·simp -implicitDefEqProofs only[e1,e2,if_false]at h1 h2
     exact sa.sp _ _ _ h1 h2
  ·simp -implicitDefEqProofs only[bq]at h1 h2
   by_cases e1:k1=k
   ·simp -implicitDefEqProofs only[e1,if_true,eG,Option.some.injEq]at h1
    by_cases e2:n1=n
    ·simp -implicitDefEqProofs only[e2,if_true,eG,Option.some.injEq]at h2
     omega
    ·simp -implicitDefEqProofs only[e2,if_false]at h2
     subst h1
     exact nb.elim (fun h=>by have:=(sa.lK h2).2.2.2.2.2.2;omega) fun h=>sa.sx _ _ _ h h2
   ·simp -implicitDefEqProofs only[e1,if_false]at h1
    by_cases e2:n1=n
    ·simp -implicitDefEqProofs only[e2,if_true,eG,Option.some.injEq]at h2
     have:=(sa.jL h1).2.2.2.2.2.2;omega
    ·simp -implicitDefEqProofs only[e2,if_false]at h2
     exact sa.sx _ _ _ h1 h2
 ·refine⟨by have:=Dc.len;rw[List.length_set];omega,fun c hc hF=>?_⟩
  obtain⟨x,hx⟩:=bM hc
  have ne:∀{c'},F c'→c≠c':=fun h e=>hF (e▸h)
  rw[hx]
  exact oT (gr (gX (gW (iv (ne sa.F0.2.1) hx) fun c' ir=>Ne.symm (ne (sa.jL ir).2.2.2.2.2.1)) (ne sa.F0.2.2.1)) fun c' ir=>Ne.symm (ne (sa.lK ir).2.2.2.2.2.1)) (ne sa.F0.2.2.2.1)
def dH.emp:dH:=⟨[],[],fun _=>[],fun _=>[],0⟩
theorem gV.emp:gV dH.emp:=⟨fun _ i j a b _ h=>by simp[dH.emp]at h,fun k n=>by simp[dH.emp,eg],fun _=>by simp[dH.emp],fun n k=>by simp[dH.emp,eg],by simp[dH.emp],fun m h hm=>by simp[dH.emp,eg]at hm,fun _=>by simp[dH.emp],fun _=>by simp[dH.emp],by simp[dH.emp]⟩
theorem acx (H:af):W env (.call 28 []) H (fun o H'=>Ext H H'∧∃b F,o=.val (.ptr b.s 0)∧SH H' b dH.emp F∧∀c,F c→H.length≤c∧c<H'.length):=by
 refine W.bA rfl rfl rfl ?_
 simp -implicitDefEqProofs only[Pt,op,ef,cl,sq,reduceIte,j2,j3,j4,j5,j6,j7,j8,j9,y1,S1,S3]
 refine⟨(((((Ext.rfl'.app _).app _).app _).app _).app _),⟨H.length+4,H.length,H.length+1,H.length+2,H.length+3⟩,fun c=>H.length≤c∧c<H.length+5,rfl,⟨[],[],?_⟩,fun c h=>⟨h.1,by have:=h.2;simp;omega⟩⟩
 refine⟨?_,?_,?_,?_,?_,by simp,by simp,by simp,by simp,by simp,by simp,by simp,fun _=>rfl,fun _=>rfl,fun k k' c h=>by simp[eg,eG]at h,fun k k' c h=>by simp[eg,eG]at h,fun k k' c h=>by simp[eg,eG]at h,by simp⟩
 ·rw[aE (by simp)]
 ·rw[aR (by simp<;>omega),aR (by simp<;>omega),aR (by simp<;>omega),aR (by simp),aE (by simp)];rfl
 ·rw[aR (by simp),aR (by simp),aR (by simp),aE (by simp)];rfl
 ·rw[aR (by simp),aR (by simp),aE (by simp)];rfl
 ·rw[aR (by simp),aE (by simp)];rfl
def qG (o:Option Hd):Hd:=o.getD ⟨⟨#[]⟩,.nil,[],0⟩
theorem Ac (vs:List (Nm×Hd))(n:Nm):jK (aj (eE vs) n) (.agg [.str ⟨#[]⟩,.sl .nil [],.int .i64 0]) false=fC (qG (aj vs n)):=by
 unfold eE;rw[gE]
 cases aj vs n<;>rfl
def VM (k:ByteArray)(n:Nat)(v:ByteArray)(kk:SK)(keys:List ByteArray):List T:=[.str k,.int .u64 n,.str v,.sl kk (keys.map eS)]
def acy (H:af)(k:ByteArray)(n:Nat)(h:Hd):Out→af→Prop:=fun o H'=>Ext H H'∧∃kk,gI kk h.keys∧o=.val (.agg (VM k n h.value kk h.keys))
theorem Dd (b:Bk)(s:dH)(F:Nat→Prop)(k:ByteArray)(n:Nat)(H:af)(hs:SH H b s F)(hi:gV s):W env (.call 62 [.ptr b.s 0,kN (k,n)]) H (acy H k n (qG (aj s.vs (k,n)))):=by
 obtain⟨im,pm,sa⟩:=hs
 have l0:=aQ sa.hs
 have lv:=aQ sa.hv
 have nj:=fun Hx z ok=>mw vZ z ok Hx (eE s.vs) (k,n)
 simp -implicitDefEqProofs only[kN,eN]at nj
 have hh:=Ac s.vs (k,n)
 obtain⟨h,um⟩:∃h,h=qG (aj s.vs (k,n)):=⟨_,rfl⟩
 have jP:gI h.kk h.keys∧h.keys.length≤1024:=by
  rw[um]
  cases e:aj s.vs (k,n)with
  | none=>exact⟨fun _=>rfl,by simp[qG]⟩
  | some h=>exact hi.VI _ _ e
 rw[←um]at hh ⊢
 refine W.bA rfl rfl rfl ?_
 simp -implicitDefEqProofs only[PY,kN,eN,op,ef,cl,sq,reduceIte,j2,j3,j4,j5,j6,j7,j8,j9,y1,S1,S2,S3,List.length_set,sa.hs,sa.hv,l0,lv,nj,hh,fC]
 refine ae _ _ _ _ _ _ _ _ (qW h.kk h.keys _ jP.1 (by omega)) ?_
 rintro u H2⟨hx,kk,bT,hu⟩
 cases hu
 have c0:H2[H.length]?=some (.cells [.str k,.int .u64 n]):=hx.get (by rw[aR (by simp<;>omega),aR (by simp),aE rfl])
 have c1:H2[H.length+1]?=some (.cells [.str ⟨#[]⟩,.int .u64 0,.str ⟨#[]⟩,.sl .nil []]):=hx.get (by rw[aR (by simp),aE (by simp)])
 have c2:H2[H.length+2]?=some (.cells [.str h.value,.sl h.kk (h.keys.map eS),.int .i64 h.a9]):=hx.get (by rw[aE (by simp)])
 have k1:=aQ c1
 simp -implicitDefEqProofs only[op,ef,cl,sq,reduceIte,j2,j3,j4,j5,j6,j7,j8,j9,y1,S1,c0,c1,c2,S2,k1]
 exact⟨((((Ext.rfl'.app _).app _).app _).trans hx).set (by omega) _,kk,bT,rfl⟩
theorem Ad (ls:List (ByteArray×Nat))(k:ByteArray):aj (lJ ls) k=(aj ls k).map fun n:Nat=>T.int .u64 n:=gE (fun n:Nat=>T.int .u64 n) ls k
def bU (s:dH)(k:ByteArray):Nat:=(aj s.ls k).getD 0
theorem oU (s:dH)(k:ByteArray):jK (aj (lJ s.ls) k) (.int .u64 0) false=.int .u64 (bU s k):=by
 unfold bU;rw[Ad]
 cases aj s.ls k<;>rfl
structure lL (s s':dH)(n:Nat)(l:List (ByteArray×ByteArray))(ks:List ByteArray)(now:Int)(fr:Bool):Prop where
 other:∀m:Nm,(m.2≠n∨m.1∉l.map (·.1))→aj s'.vs m=aj s.vs m
 kC:∀p∈l,∀h,aj s.vs (p.1,n)=some h→aj s'.vs (p.1,n)=some h
 new:∀p∈l,aj s.vs (p.1,n)=none→∃kk,gI kk ks∧aj s'.vs (p.1,n)=some ⟨p.2,kk,ks,if n<bU s p.1 then now else -1⟩
 fresh:fr=true↔∃p∈l,aj s.vs (p.1,n)=none
 ls:s'.ls=s.ls
theorem lL.nil (s:dH)(n:Nat)(ks:List ByteArray)(now:Int):lL s s n [] ks now false:=⟨fun _ _=>rfl,by simp,by simp,by simp,rfl⟩
theorem lL.there {s s':dH}{n:Nat}{l:List (ByteArray×ByteArray)}{ks:List ByteArray}{now:Int}{fr:Bool}(h:lL s s' n l ks now fr){p:ByteArray×ByteArray}{hd:Hd}(hp:p.1∉l.map (·.1))(ht:aj s'.vs (p.1,n)=some hd):lL s s' n (l++[p]) ks now fr:=by
 have e:=h.other (p.1,n) (.inr hp)
 rw[ht]at e
 refine⟨fun m hm=>h.other m ?_,fun q hq h' hh=>?_,fun q hq hn=>?_,?_,h.ls⟩
 ·simp -implicitDefEqProofs only[List.map_append,List.mem_append,not_or]at hm
  exact hm.imp id (·.1)
 ·rcases List.mem_append.1 hq with hq|hq
  ·exact h.kC q hq h' hh
  ·simp at hq;subst hq;rw[←e]at hh;rw[ht];exact hh
 ·rcases List.mem_append.1 hq with hq|hq
  ·exact h.new q hq hn
  ·simp at hq;subst hq;rw[←e]at hn;cases hn
 ·rw[h.fresh]
  constructor
  ·rintro⟨q,hq,hn⟩;exact⟨q,List.mem_append_left _ hq,hn⟩
  ·rintro⟨q,hq,hn⟩
   rcases List.mem_append.1 hq with hq|hq
   ·exact⟨q,hq,hn⟩
   ·simp at hq;subst hq;rw[←e]at hn;cases hn
theorem lL.add {s s' s2:dH}{n:Nat}{l:List (ByteArray×ByteArray)}{ks:List ByteArray}{now:Int}{fr:Bool}(h:lL s s' n l ks now fr){p:ByteArray×ByteArray}{kk:SK}(hp:p.1∉l.map (·.1))(bT:gI kk ks)(ht:aj s'.vs (p.1,n)=none)
  (hv:s2.vs=cD s'.vs (p.1,n) ⟨p.2,kk,ks,if n<bU s p.1 then now else -1⟩) (hl:s2.ls=s'.ls):lL s s2 n (l++[p]) ks now true:=by
 have e:=h.other (p.1,n) (.inr hp)
 rw[ht]at e
 have key:∀q∈l,(q.1,n)≠(p.1,n):=fun q hq hh=>hp (List.mem_map.2 ⟨q,hq,(Prod.mk.inj hh).1⟩)
 refine⟨fun m hm=>?_,fun q hq h' hh=>?_,fun q hq hn=>?_,⟨fun _=>⟨p,by simp,e.symm⟩,fun _=>rfl⟩,hl.trans h.ls⟩
 ·simp -implicitDefEqProofs only[List.map_append,List.mem_append,not_or]at hm
  rw[hv,bq,if_neg]
  ·exact h.other m (hm.imp id (·.1))
  ·rintro rfl
   rcases hm with hm|hm
   ·exact hm rfl
   ·exact hm.2 (by simp)
 ·rw[hv,bq]
  rcases List.mem_append.1 hq with hq|hq
  ·rw[if_neg (key q hq)];exact h.kC q hq h' hh
  ·simp at hq;subst hq;rw[←e]at hh;cases hh
 ·rw[hv,bq]
  rcases List.mem_append.1 hq with hq|hq
  ·rw[if_neg (key q hq)];exact h.new q hq hn
  ·simp at hq;subst hq;rw[if_pos rfl];exact⟨kk,bT,rfl⟩
theorem sD {n:Nat}{l:List (ByteArray×ByteArray)}{ks:List ByteArray}(h:ni n l ks):∀(i j:Nat) p q,i<j→l[i]?=some p→l[j]?=some q→strLt p.1 q.1=true
 | i,0,_,_,sB,_,_=>by omega
 | i,j+1,p,q,sB,hp,hq=>by
  have hj:=(List.getElem?_eq_some_iff.1 hq).1
  obtain⟨r,hr⟩:=bM (l:=l) (i:=j) (by omega)
  have h1:=(h.2.2.2 (j+1) hj q hq).1 (by omega) r (by simpa using hr)
  by_cases e:i=j
  ·subst e;rw[hp]at hr;cases hr;exact h1
  ·exact eb (sD h i j p r (by omega) hp hr) h1
def a7 (n:Int):Prop:=0≤n∧n≤1099511627776
def acz (b:Bk)(s:dH)(F:Nat→Prop)(n:Nat)(l:List (ByteArray×ByteArray))(ks:List ByteArray)(now:Int)(H:af):Out→af→Prop:=fun o H' =>
 ∃s' F' fr,o=.val (.bC [.bool fr,.int .i64 0])∧SH H' b s' F'∧gV s'∧lL s s' n l ks now fr∧s'.n≤s.n+l.length∧a6 F H H'∧∀c,F' c→F c∨(H.length≤c∧c<H'.length)
theorem VN (b:Bk)(s:dH)(F:Nat→Prop)(n:Nat)(k k':SK)(l:List (ByteArray×ByteArray))(ks:List ByteArray)(now:Int)(H:af)(hs:SH H b s F)(hi:gV s)(hn:s.n+l.length≤8000000)(jP:gI k' ks)(hm:ni n l ks)(ht:a7 now) :
  W env (.call 23 [.ptr b.s 0,.int .u64 n,.sl k (l.map eP),.sl k' (ks.map eS),.int .i64 now]) H (acz b s F n l ks now H):=by
 have MI:=hm.2.1.2.2
 refine W.bA rfl rfl rfl ?_
 simp -implicitDefEqProofs only[K9,op,ef,cl,sq,reduceIte,j2,j3,j4,j5,j6,j7,j8,j9,y1,S1]
 refine ae _ _ _ _ _ _ _ _ (Nt n k k' l ks _ (by omega) (by omega)) ?_
 rintro u H1⟨dB,bb,hu,hb⟩
 have C1:bb=true:=hb.2 hm
 subst C1
 cases hu
 simp -implicitDefEqProofs only[op,ef,cl,sq,reduceIte,j2,j3,j4,j5,j6,j7,j8,j9,y1,S1]
 refine ae _ _ _ _ _ _ _ _ (sz now _) ?_
 rintro u H1⟨hu,rfl⟩
 have v8:(decide (0≤now)&&decide (now≤1099511627776))=true:=by simp[ht.1,ht.2]
 rw[v8]at hu
 cases hu
 simp -implicitDefEqProofs only[op,ef,cl,sq,reduceIte,j2,j3,j4,j5,j6,j7,j8,j9,y1,S1,List.length_map]
 refine W.cO (fun (i:Nat) R H'=>At H' (fun H'=>∃s' F' fr,R 12=.bool fr∧SH H' b s' F'∧gV s'∧lL s s' n (l.take i) ks now fr∧s'.n≤s.n+i∧a6 F H H'∧∀c,F' c→F c∨(H.length≤c∧c<H'.length))∧R 0=.ptr b.s 0∧R 1=.int .u64 n∧R 3=.sl k' (ks.map eS)∧R 4=.int .i64 now∧R 29=.sl k (l.map eP)∧R 30=.int .i64 l.length∧R 31=.int .i64 i∧i≤l.length) (fun i=>l.length-i) 0 ?_ ?_
 ·obtain⟨im,pm,sa⟩:=hs
  refine⟨.i ⟨s,F,false,rfl,⟨im,pm,sa.hO (aB (F:=fun _=>False) dB) (fun _ _ _ h=>h)⟩,hi,by rw[List.take_zero];exact lL.nil s n ks now,Nat.le_refl _,aB dB,fun c h=>.inl h⟩,rfl,rfl,rfl,rfl,rfl,rfl,rfl,Nat.zero_le _⟩
 rintro i R H2⟨⟨s',F',fr,aD,E3,hiv,nk,tG,av,hF⟩,h0,h1,h3,h4,h29,Yu,Yv,mc⟩
 by_cases aq:i<l.length
 ·obtain⟨p,hp⟩:=bM aq
  have ws:=aw (show i<9223372036854775807 by omega)
  have xm:=dt (e:=eP) (n:=2) (fun _=>rfl) (by decide) (k:=k) hp
  have Yj:p.1∉(l.take i).map (·.1):=fun hh=>by
   obtain⟨q,hq,e⟩:=List.mem_map.1 hh
   obtain⟨j,hj,e2⟩:=List.getElem_of_mem hq
   have Ln:j<i∧j<l.length:=by simp -implicitDefEqProofs only[List.length_take]at hj;omega
   have hqj:l[j]?=some q:=by rw[←e2];simp[List.getElem?_eq_getElem Ln.2]
   have:=sD hm j i q p Ln.1 hqj hp
   rw[e,fA]at this;cases this
  obtain⟨im,pm,sa⟩:=E3
  have l0:=aQ sa.hs
  have lv:=aQ sa.hv
  have ll:=aQ sa.hl
  have Nv:b.s<H2.length+1:=by omega
  have Yw:b.s<H2.length+2:=by omega
  have Yx:b.l<H2.length+1:=by omega
  have Yy:b.l<H2.length+2:=by omega
  have lv1:b.v<H2.length+1:=by omega
  have nj:=fun Hx z ok=>mw vZ z ok Hx (eE s'.vs) (p.1,n)
  simp -implicitDefEqProofs only[kN,eN]at nj
  have pY:jK (aj (eE s'.vs) (p.1,n)) (.agg [.str ⟨#[]⟩,.sl .nil [],.int .i64 0]) true=.bC [fC (qG (aj s'.vs (p.1,n))),.bool (aj s'.vs (p.1,n)).isSome]:=by
   unfold eE;rw[gE]
   cases aj s'.vs (p.1,n)<;>rfl
  have rI:=oU s' p.1
  have De:∀k,bU s' k=bU s k:=fun k=>by simp -implicitDefEqProofs only[bU,nk.ls]
  rw[De]at rI
  cases e:aj s'.vs (p.1,n)with
  | some h =>
   rw[e]at pY
   simp -implicitDefEqProofs only[Option.isSome_some]at pY
   simp -implicitDefEqProofs only[op,ef,cl,sq,reduceIte,j2,j3,j4,j5,j6,j7,j8,j9,y1,S1,S2,S3,List.length_set,h0,h1,h3,h4,h29,Yu,Yv,aq,aa,xm,eP,sa.hs,sa.hv,l0,lv,nj,pY,fC,ws]
   exact⟨i+1,by omega,.i ⟨s',F',fr,aD,⟨im,pm,sa.hO (aB (F:=fun _=>False) (((Ext.rfl'.app _).app _).app _)) (fun _ _ _ h=>h)⟩,hiv,by rw[b6 hp];exact nk.there Yj e,by omega,((av.app _).app _).app _,fun c h=>(hF c h).imp id fun h=>⟨h.1,by have:=h.2;simp;omega⟩⟩,rfl,by omega⟩
  | none =>
   rw[e]at pY
   simp -implicitDefEqProofs only[Option.isSome_none]at pY
   by_cases fU:n<bU s p.1
   all_goals
    simp -implicitDefEqProofs only[op,ef,cl,sq,reduceIte,j2,j3,j4,j5,j6,j7,j8,j9,y1,S1,S2,S3,List.length_set,h0,h1,h3,h4,h29,Yu,Yv,aq,aa,xm,eP,sa.hs,sa.hv,sa.hl,l0,Nv,Yw,lv,lv1,ll,Yx,Yy,nj,pY,fC,fZ,rI,fU]
    refine ae _ _ _ _ _ _ _ _ (qW k' ks _ jP (by omega)) ?_
    rintro u H3⟨hx,kk,bT,hu⟩
    cases hu
    have c0:H3[H2.length]?=some (.cells [.str p.1,.str p.2]):=hx.get (by rw[aR (by simp<;>omega),aR (by simp),aE rfl])
    have c1:H3[H2.length+1]?=some (.cells [.str p.1,.int .u64 n]):=hx.get (by rw[aR (by simp),aE (by simp)])
    have tt:Ext H2 H3:=((((Ext.rfl'.app _).app _).app _).trans hx)
    simp -implicitDefEqProofs only[op,ef,cl,sq,reduceIte,j2,j3,j4,j5,j6,j7,j8,j9,y1,S1,c0,c1]
    refine ae _ _ _ _ _ _ _ _ (Nu b s' F' p.1 n ⟨p.2,kk,ks,_⟩ _ ⟨im,pm,sa.hO (aB (F:=fun _=>False) tt) (fun _ _ _ h=>h)⟩ hiv e (by omega) ⟨bT,by omega⟩) ?_
    rintro u H4⟨hu,s2,F2,acC,acD,jq,Js,DU,lf,hF2⟩
    cases hu
    have hpa:lL s s2 n (l.take i++[p]) ks now true:=nk.add (kk:=kk) Yj bT e (by first|rw[if_pos fU];exact jq|rw[if_neg fU];exact jq) Js
    rw[←b6 hp]at hpa
    simp -implicitDefEqProofs only[op,ef,cl,sq,reduceIte,j2,j3,j4,j5,j6,j7,j8,j9,y1,S1,h0,h1,h3,h4,h29,Yu,Yv,ws]
    exact⟨i+1,by omega,.i ⟨s2,F2,true,rfl,acC,acD,hpa,by omega,(av.trans (aB (F:=fun _=>False) tt) (fun c h=>h.elim)).trans lf (fun c h=>(hF c h).imp id (·.1)),fun c h=>by
     have q1:=av.1
     have q2:=tt.len
     have q3:=lf.1
     rcases hF2 c h with h|h
     ·rcases hF c h with h|h
      ·exact .inl h
      ·exact .inr ⟨h.1,by omega⟩
     ·exact .inr ⟨by omega,h.2⟩⟩,rfl,by omega⟩
 ·have nY:i=l.length:=by omega
  subst nY
  rw[List.take_length]at nk
  simp -implicitDefEqProofs only[op,ef,cl,sq,reduceIte,j2,j3,j4,j5,j6,j7,j8,j9,y1,S1,aD,Yu,Yv,aq]
  exact⟨s',F',fr,rfl,E3,hiv,nk,tG,av,hF⟩
theorem u2.acE {H:af}{b:Bk}{im:List (ByteArray×T)}{pm:List (Nat×T)}{s:dH}{F:Nat→Prop}(h:u2 H b im pm s F)(vs:List (Nm×Hd)):u2 (H.set b.v (.map (bl kN (eE vs)))) b im pm { s with vs:=vs } F:=by
 obtain⟨n1,n2,n3,n4⟩:=h.ne
 have k:∀{c x},c≠b.v→H[c]?=some x→(H.set b.v (.map (bl kN (eE vs))))[c]?=some x:=fun hc hx=>by rw[bm (Ne.symm hc)];exact hx
 exact⟨k (Ne.symm n1) h.hs,bQ (aQ h.hv),k (Ne.symm h.vi) h.hi,k (Ne.symm h.vp) h.hp,k (Ne.symm h.vl) h.hl,h.vi,h.vp,h.vl,h.ip,h.il,h.pl,h.F0,
  fun q=>(h.oi q).eJ (fun c x hc hx=>k (h.jL hc).2.1 hx) (fun _ _ h=>h),fun q=>(h.op q).eJ (fun c x hc hx=>k (h.lK hc).2.1 hx) (fun _ _ h=>h),h.si,h.sp,h.sx,h.np⟩
theorem u2.VO {H:af}{b:Bk}{im:List (ByteArray×T)}{pm:List (Nat×T)}{s:dH}{F:Nat→Prop}(h:u2 H b im pm s F)(ls:List (ByteArray×Nat)):u2 (H.set b.l (.map (bl T.str (lJ ls)))) b im pm { s with ls:=ls } F:=by
 obtain⟨n1,n2,n3,n4⟩:=h.ne
 have k:∀{c x},c≠b.l→H[c]?=some x→(H.set b.l (.map (bl T.str (lJ ls))))[c]?=some x:=fun hc hx=>by rw[bm (Ne.symm hc)];exact hx
 exact⟨k (Ne.symm n4) h.hs,k h.vl h.hv,k h.il h.hi,k h.pl h.hp,bQ (aQ h.hl),h.vi,h.vp,h.vl,h.ip,h.il,h.pl,h.F0,
  fun q=>(h.oi q).eJ (fun c x hc hx=>k (h.jL hc).2.2.2.2.1 hx) (fun _ _ h=>h),fun q=>(h.op q).eJ (fun c x hc hx=>k (h.lK hc).2.2.2.2.1 hx) (fun _ _ h=>h),h.si,h.sp,h.sx,h.np⟩
def stamped (h:Hd)(now:Int):Hd:={ h with a9:=now }
def VS (v v':List (Nm×Hd))(now:Int)(S:Nm→Prop):Prop:=(v'.map (·.1)).Nodup∧∀m,(aj v m=none→aj v' m=none)∧∀h,aj v m=some h→(S m∧h.a9=-1→aj v' m=some (stamped h now))∧(¬(S m∧h.a9=-1)→aj v' m=some h)
theorem VS.some {v v':List (Nm×Hd)}{now:Int}{S:Nm→Prop}(h:VS v v' now S)(m:Nm):(aj v' m).isSome=(aj v m).isSome:=by
 obtain⟨h1,h2⟩:=h.2 m
 cases e:aj v m with
 | none=>rw[h1 e]
 | some x =>
  by_cases hc:S m∧x.a9=-1
  ·rw[(h2 x e).1 hc];rfl
  ·rw[(h2 x e).2 hc]
theorem VS.inv {s:dH}(hi:gV s){v':List (Nm×Hd)}{now:Int}{S:Nm→Prop}(h:VS s.vs v' now S)(ls:List (ByteArray×Nat))(Js:(ls.map (·.1)).Nodup):gV { s with vs:=v',ls:=ls }:=by
 refine⟨hi.yD,fun k n=>?_,hi.Qu,fun n k=>?_,h.1,fun m x hm=>?_,hi.bi,hi.bp,Js⟩
 ·show n∈s.ids k↔(aj v' (k,n)).isSome=true
  rw[h.some];exact hi.Jp k n
 ·show k∈s.dM n↔(aj v' (k,n)).isSome=true
  rw[h.some];exact hi.Lk n k
 ·have hm:aj v' m=.some x:=hm
  obtain⟨h1,h2⟩:=h.2 m
  cases e:aj s.vs m with
  | none=>rw[h1 e]at hm;cases hm
  | some y =>
   have hy:=hi.VI m y e
   by_cases hc:S m∧y.a9=-1
   ·rw[(h2 y e).1 hc]at hm;cases hm;exact hy
   ·rw[(h2 y e).2 hc]at hm;cases hm;exact hy
theorem VS.nil {v:List (Nm×Hd)}(hn:(v.map (·.1)).Nodup){now:Int}:VS v v now (fun _=>False):=⟨hn,fun m=>⟨id,fun h e=>⟨fun hh=>hh.1.elim,fun _=>e⟩⟩⟩
theorem VS.mono {v v':List (Nm×Hd)}{now:Int}{S S':Nm→Prop}(h:VS v v' now S)(hs:∀m,(aj v m).isSome=true→(S m↔S' m)):VS v v' now S':=⟨h.1,fun m=>⟨(h.2 m).1,fun x e=>by
 have:=hs m (by rw[e];rfl)
 rw[←this];exact(h.2 m).2 x e⟩⟩
theorem VS.add {v v':List (Nm×Hd)}{now:Int}{S:Nm→Prop}(h:VS v v' now S){m:Nm}{x:Hd}(hx:aj v' m=.some x)(hc:x.a9=-1)(hS:¬S m):VS v (cD v' m (stamped x now)) now (fun m'=>S m'∨m'=m):=by
 refine⟨dp h.1 _ _,fun m'=>?_⟩
 rw[bq]
 by_cases e:m'=m
 ·subst e
  simp -implicitDefEqProofs only[if_true]
  have e2:=h.some m'
  rw[hx]at e2
  refine⟨fun hn=>(by rw[hn]at e2;cases e2),fun y hy=>?_⟩
  have:y=x:=by
   have:=((h.2 m').2 y hy).2 fun hh=>hS hh.1
   rw[hx]at this;exact(Option.some.inj this).symm
  subst this
  exact⟨fun _=>rfl,fun hh=>absurd ⟨.inr trivial,hc⟩ hh⟩
 ·simp -implicitDefEqProofs only[e,if_false,or_false]
  exact h.2 m'
theorem VS.skip {v v':List (Nm×Hd)}{now:Int}{S:Nm→Prop}(h:VS v v' now S){m:Nm}{x:Hd}(hx:aj v' m=.some x)(hc:x.a9≠-1)(hS:¬S m):VS v v' now (fun m'=>S m'∨m'=m):=by
 refine⟨h.1,fun m'=>⟨(h.2 m').1,fun y hy=>?_⟩⟩
 by_cases e:m'=m
 ·subst e
  have:=((h.2 m').2 y hy).2 fun hh=>hS hh.1
  have e2:y=x:=by rw[hx]at this;exact(Option.some.inj this).symm
  subst e2
  exact⟨fun hh=>absurd hh.2 hc,fun _=>hx⟩
 ·simp -implicitDefEqProofs only[e,or_false]
  exact(h.2 m').2 y hy
structure tV (s s':dH)(n:Nat)(now:Int)(D:List ByteArray):Prop where
 vs:VS s.vs s'.vs now (fun m=>m.1∈D∧bU s m.1<n∧m.2<n)
 on:∀k,k∈D→bU s k<n→aj s'.ls k=.some n
 off:∀k,¬(k∈D∧bU s k<n)→aj s'.ls k=aj s.ls k
 Aa:(s.ls.map (·.1)).Nodup→(s'.ls.map (·.1)).Nodup
def acF (b:Bk)(s:dH)(F:Nat→Prop)(n:Nat)(now:Int)(H:af):Out→af→Prop:=fun o H'=>∃s',o=.val (.bC [.int .i64 (s.dM n).length,.int .i64 0])∧SH H' b s' F∧gV s'∧tV s s' n now (s.dM n)∧s'.n=s.n∧s'.dM=s.dM∧s'.ids=s.ids∧a6 F H H'
theorem tV.skip {s s':dH}{n:Nat}{now:Int}{D:List ByteArray}(h:tV s s' n now D){k:ByteArray}(hk:n≤bU s k):tV s s' n now (D++[k]):=by
 have key:∀k',k'∈D++[k]∧bU s k'<n→k'∈D:=fun k' hh=>by
  rcases List.mem_append.1 hh.1 with h|h
  ·exact h
  ·simp at h;subst h;omega
 exact⟨h.vs.mono fun m _=>⟨fun hh=>⟨List.mem_append_left _ hh.1,hh.2⟩,fun hh=>⟨key _ ⟨hh.1,hh.2.1⟩,hh.2⟩⟩,fun k' h1 h2=>h.on k' (key _ ⟨h1,h2⟩) h2,fun k' hh=>h.off k' fun h'=>hh ⟨List.mem_append_left _ h'.1,h'.2⟩,h.Aa⟩
theorem tV.add {s s' s2:dH}{n:Nat}{now:Int}{D:List ByteArray}(h:tV s s' n now D){k:ByteArray}(hk:bU s k<n)(hl:s2.ls=cD s'.ls k n)
  (hv:VS s.vs s2.vs now (fun m=>(m.1∈D∧bU s m.1<n∧m.2<n)∨(m.1=k∧m.2<n))):tV s s2 n now (D++[k]):=by
 refine⟨hv.mono fun m _=>?_,fun k' h1 h2=>?_,fun k' hh=>?_,fun hh=>by rw[hl];exact dp (h.Aa hh) _ _⟩
 ·simp -implicitDefEqProofs only[List.mem_append,List.mem_singleton]
  constructor
  ·rintro (⟨a,b,c⟩|⟨a,c⟩)
   ·exact⟨.inl a,b,c⟩
   ·exact⟨.inr a,by rw[a];exact hk,c⟩
  ·rintro⟨a|a,b,c⟩
   ·exact .inl ⟨a,b,c⟩
   ·exact .inr ⟨a,c⟩
 ·rw[hl,bq]
  by_cases e:k'=k
  ·rw[if_pos e]
  ·rw[if_neg e];exact h.on k' (by simpa[e]using h1) h2
 ·rw[hl,bq,if_neg]
  ·exact h.off k' fun h'=>hh ⟨List.mem_append_left _ h'.1,h'.2⟩
  ·rintro rfl;exact hh ⟨by simp,hk⟩
theorem Hv (b:Bk)(s:dH)(F:Nat→Prop)(n:Nat)(now:Int)(H:af)(hs:SH H b s F)(hi:gV s)(hn:s.n≤8000000)(Lo:65536≤n)(ht:a7 now) :
  W env (.call 24 [.ptr b.s 0,.int .u64 n,.int .i64 now]) H (acF b s F n now H):=by
 obtain⟨im,pm,sa⟩:=hs
 have acG:¬(n<65536):=by omega
 obtain⟨t,v8⟩:∃t,jK (aj pm n) (.sl .nil []) false=t:=⟨_,rfl⟩
 have aq:=((sa.op n).mut).len
 rw[v8]at aq
 have hbp:=hi.bp n
 refine W.bA rfl rfl rfl ?_
 simp -implicitDefEqProofs only[Gv,op,ef,cl,sq,reduceIte,j2,j3,j4,j5,j6,j7,j8,j9,y1,S1,acG]
 refine ae _ _ _ _ _ _ _ _ (sz now _) ?_
 rintro u H⟨hu,rfl⟩
 have Ht:(decide (0≤now)&&decide (now≤1099511627776))=true:=by simp[ht.1,ht.2]
 rw[Ht]at hu
 cases hu
 simp -implicitDefEqProofs only[op,ef,cl,sq,reduceIte,j2,j3,j4,j5,j6,j7,j8,j9,y1,S1,sa.hs,sa.hp,my,v8]
 have hl:=fun Hx (h:lB eS 1 0 Hx t (s.dM n))=>h.len
 have hlH:∀Hx,jG Hx .sl t=some (s.dM n).length:=fun Hx=>by
  have:=(sa.op n).mut
  rw[v8]at this
  rcases this with⟨e,rfl⟩|⟨c,rfl,_,_⟩
  ·rw[e];rfl
  ·rfl
 simp -implicitDefEqProofs only[op,ef,cl,sq,reduceIte,j2,j3,j4,j5,j6,j7,j8,j9,y1,S1,hlH]
 refine W.cO (fun (i:Nat) R H'=>At H' (fun H'=>∃s',u2 H' b im pm s' F∧s'.n=s.n∧s'.dM=s.dM∧s'.ids=s.ids∧tV s s' n now ((s.dM n).take i)∧a6 F H H')∧R 0=.ptr b.s 0∧R 1=.int .u64 n∧R 2=.int .i64 now∧R 25=t∧R 26=.int .i64 (s.dM n).length∧R 27=.int .i64 i∧i≤(s.dM n).length) (fun i=>(s.dM n).length-i) 0 ?_ ?_
 ·refine⟨.i ⟨s,sa,rfl,rfl,rfl,⟨(VS.nil hi.nd).mono fun m _=>⟨fun h=>h.elim,fun h=>by simp at h⟩,by simp,fun _ _=>rfl,id⟩,a6.refl _ _⟩,?_,?_,?_,?_,?_,?_,Nat.zero_le _⟩
  all_goals (simp -implicitDefEqProofs only[op,ef,cl,sq,reduceIte,j2,j3,j4,j5,j6,j7,j8,j9,y1,S1];try rfl)
 rintro i R H2⟨⟨s',Jt,zj,A4,Lp,rJ,av⟩,h0,h1,h2,h25,Yz,YA,mc⟩
 by_cases aq:i<(s.dM n).length
 ·obtain⟨k,hk⟩:=bM aq
  have ws:=aw (show i<9223372036854775807 by omega)
  have BR:lB eS 1 0 H2 t (s.dM n):=by
   have:=(Jt.op n).mut
   rwa[v8,A4]at this
  obtain⟨c,g1,g2,g3⟩:=pX (enc:=eS) (fun _=>rfl) BR hk
  have pZ:k∉(s.dM n).take i:=fun hh=>by
   obtain⟨j,hj,e2⟩:=List.getElem_of_mem hh
   have Ln:j<i∧j<(s.dM n).length:=by simp -implicitDefEqProofs only[List.length_take]at hj;omega
   have Un:(s.dM n)[j]?=some k:=by rw[←e2];simp[List.getElem?_eq_getElem Ln.2]
   have:=(List.getElem?_inj Ln.2 (hi.Qu n)).1 (Un.trans hk.symm)
   omega
  have nj:=oU s' k
  have Js:bU s' k=bU s k:=by unfold bU;rw[rJ.off k fun h=>pZ h.1]
  rw[Js]at nj
  by_cases eQ:n≤bU s k
  ·simp -implicitDefEqProofs only[op,ef,cl,sq,reduceIte,j2,j3,j4,j5,j6,j7,j8,j9,y1,S1,h0,h1,h2,h25,Yz,YA,aq,aa,g1,g2,g3,eS,Jt.hs,Jt.hl,fZ,nj,eQ,ws]
   exact⟨i+1,by omega,.i ⟨s',Jt,zj,A4,Lp,by rw[b6 hk];exact rJ.skip eQ,av⟩,rfl,by omega⟩
  ·have acI:bU s k<n:=by omega
   have acJ:∀Hx,yk (.sc .str) Hx b.l (some (.map (bl T.str (lJ s'.ls)))) (.str k) (.int .u64 n)=some (cf,Hx.set b.l (.map (bl T.str (lJ (cD s'.ls k n))))):=fun Hx=>by
    rw[nX];congr 4;exact congrArg (bl T.str) (oS (fun n:Nat=>T.int .u64 n) s'.ls k n)
   have BS:=Jt.VO (cD s'.ls k n)
   obtain⟨t2,Qv⟩:∃t2,jK (aj im k) (.sl .nil []) false=t2:=⟨_,rfl⟩
   have VP:∀Hx,jG Hx .sl t2=some (s.ids k).length:=fun Hx=>by
    have:=(sa.oi k).mut
    rw[Qv]at this
    rcases this with⟨e,rfl⟩|⟨c,rfl,_,_⟩
    ·rw[e];rfl
    ·rfl
   simp -implicitDefEqProofs only[op,ef,cl,sq,reduceIte,j2,j3,j4,j5,j6,j7,j8,j9,y1,S1,h0,h1,h2,h25,Yz,YA,aq,aa,g1,g2,g3,eS,Jt.hs,Jt.hl,fZ,nj,eQ,acJ,BS.hs,BS.hi,Qv,VP]
   refine W.cV 2 (fun (j:Nat) R H'=>At H' (fun H'=>∃v',u2 H' b im pm { s' with vs:=v',ls:=cD s'.ls k n } F∧VS s.vs v' now (fun m=>(m.1∈(s.dM n).take i∧bU s m.1<n∧m.2<n)∨(m.1=k∧m.2∈(s.ids k).take j))∧a6 F H H')∧R 0=.ptr b.s 0∧R 1=.int .u64 n∧R 2=.int .i64 now∧R 9=.str k∧R 25=t∧R 26=.int .i64 (s.dM n).length∧R 27=.int .i64 i∧R 50=t2∧R 51=.int .i64 (s.ids k).length∧R 52=.int .i64 j∧j≤(s.ids k).length∧∀p a,p<j→(s.ids k)[p]?=some a→a<n) (fun j=>(s.ids k).length-j) 0
    (fun R H'=>At H' (fun H'=>∃v',u2 H' b im pm { s' with vs:=v',ls:=cD s'.ls k n } F∧VS s.vs v' now (fun m=>(m.1∈(s.dM n).take i∧bU s m.1<n∧m.2<n)∨(m.1=k∧m.2<n))∧a6 F H H')∧R 0=.ptr b.s 0∧R 1=.int .u64 n∧R 2=.int .i64 now∧R 25=t∧R 26=.int .i64 (s.dM n).length∧R 27=.int .i64 i) ?_ ?_ ?_
   ·refine⟨.i ⟨s'.vs,BS,rJ.vs.mono fun m _=>⟨.inl,fun h=>h.elim id fun h=>by simp at h⟩,av.set (.inl sa.F0.2.2.2.2) _⟩,?_,?_,?_,?_,?_,?_,?_,?_,?_,?_,Nat.zero_le _,fun p a h=>by omega⟩
    all_goals (simp -implicitDefEqProofs only[op,ef,cl,sq,reduceIte,j2,j3,j4,j5,j6,j7,j8,j9,y1,S1,h0,h1,h2,h25,Yz,YA,VP];try rfl)
   ·rintro j R H3⟨⟨v',Df,jq,Dg⟩,q0,q1,q2,q9,SW,SX,SY,YB,YC,YD,SA,bD⟩
    by_cases hj:j<(s.ids k).length
    ·obtain⟨o,ho⟩:=bM hj
     have wj:=aw (show j<9223372036854775807 by have:=hi.bi k;omega)
     have Lm:lB eU 1 0 H3 t2 (s.ids k):=by
      have:=(Df.oi k).mut
      simp -implicitDefEqProofs only[Lp]at this
      rwa[Qv]at this
     obtain⟨c2,e1,e2,e3⟩:=pX (enc:=eU) (fun _=>rfl) Lm ho
     by_cases SB:n≤o
     ·simp -implicitDefEqProofs only[op,ef,cl,sq,reduceIte,j2,j3,j4,j5,j6,j7,j8,j9,y1,S1,q0,q1,q2,q9,SW,SX,SY,YB,YC,YD,hj,aa,e1,e2,e3,eU,SB]
      refine⟨v',Df,jq.mono fun m hm=>?_,Dg⟩
      refine or_congr Iff.rfl ⟨fun ⟨a1,a2⟩=>⟨a1,?_⟩,fun ⟨a1,a2⟩=>⟨a1,?_⟩⟩
      ·obtain⟨p,hp,e⟩:=List.getElem_of_mem a2
       have xg:p<j∧p<(s.ids k).length:=by simp -implicitDefEqProofs only[List.length_take]at hp;omega
       exact bD p m.2 xg.1 (by rw[←e];simp[List.getElem?_eq_getElem xg.2])
      ·have iI:=(hi.Jp k m.2).2 (by rw[←a1];exact hm)
       obtain⟨p,hp,e⟩:=List.getElem_of_mem iI
       have SZ:(s.ids k)[p]?=some m.2:=by rw[List.getElem?_eq_getElem hp,e]
       rcases Nat.lt_trichotomy p j with h|h|h
       ·exact List.mem_of_getElem? (i:=p) (by rw[List.getElem?_take,if_pos h];exact SZ)
       ·subst h;rw[ho]at SZ;cases SZ;omega
       ·have:=hi.yD k j p o m.2 h ho SZ;omega
     ·have zT:=(hi.Jp k o).1 (List.mem_of_getElem? ho)
      rw[←jq.some]at zT
      obtain⟨x,hx⟩:=Option.isSome_iff_exists.1 zT
      have pY:=Ac v' (k,o)
      rw[hx]at pY
      have Qw:=fun Hx z ok=>mw vZ z ok Hx (eE v') (k,o)
      simp -implicitDefEqProofs only[kN,eN]at Qw
      have hnS:¬(((k,o):Nm).1∈(s.dM n).take i∧bU s ((k,o):Nm).1<n∧((k,o):Nm).2<n∨((k,o):Nm).1=k∧((k,o):Nm).2∈(s.ids k).take j):=by
       rintro (hh|⟨_,hh⟩)
       ·exact pZ hh.1
       ·obtain⟨p,hp,e⟩:=List.getElem_of_mem hh
        have xg:p<j∧p<(s.ids k).length:=by simp -implicitDefEqProofs only[List.length_take]at hp;omega
        have e:((s.ids k).take j)[p]=o:=e
        have SZ:(s.ids k)[p]?=some o:=by rw[←e];simp[List.getElem?_eq_getElem xg.2]
        have:=hi.yD k p j o o xg.1 SZ ho;omega
      have hSS:∀m:Nm,(((m.1∈(s.dM n).take i∧bU s m.1<n∧m.2<n)∨(m.1=k∧m.2∈(s.ids k).take j))∨m=(k,o))↔((m.1∈(s.dM n).take i∧bU s m.1<n∧m.2<n)∨(m.1=k∧m.2∈(s.ids k).take (j+1))):=fun m=>by
       rw[b6 ho,List.mem_append,List.mem_singleton,or_assoc]
       refine or_congr Iff.rfl ?_
       constructor
       ·rintro (⟨a1,a2⟩|rfl)
        ·exact⟨a1,.inl a2⟩
        ·exact⟨rfl,.inr rfl⟩
       ·rintro⟨a1,a2|a2⟩
        ·exact .inl ⟨a1,a2⟩
        ·exact .inr (Prod.ext a1 a2)
      have nv:∀p a,p<j+1→(s.ids k)[p]?=some a→a<n:=fun p a hp ha=>by
       by_cases e:p=j
       ·subst e;rw[ho]at ha;cases ha;omega
       ·exact bD p a (by omega) ha
      have l0:=aQ Df.hs
      have lv:=aQ Df.hv
      have qY:=fun Hx v=>vT vZ Hx b.v (eE v') (k,o) v
      simp -implicitDefEqProofs only[kN,eN]at qY
      by_cases cW:x.a9=-1
      ·simp -implicitDefEqProofs only[op,ef,cl,sq,reduceIte,j2,j3,j4,j5,j6,j7,j8,j9,y1,S1,S2,S3,List.length_set,q0,q1,q2,q9,SW,SX,SY,YB,YC,YD,hj,aa,e1,e2,e3,eU,SB,Df.hs,Df.hv,Qw,pY,qG,Option.getD_some,fC,cW,l0,lv,qY,wj]
       have e:cD (eE v') (k,o) (T.agg [T.str x.value,T.sl x.kk (x.keys.map eS),T.int IntKind.i64 now])=eE (cD v' (k,o) (stamped x now)):=oS fC v' (k,o) (stamped x now)
       rw[e]
       exact⟨j+1,by omega,.i ⟨_,(Df.acE (cD v' (k,o) (stamped x now))).hO (aB (F:=fun _=>False) (Ext.rfl'.app _)) (fun _ _ _ h=>h),(jq.add hx cW hnS).mono fun m _=>hSS m,(Dg.set (.inl sa.F0.2.1) _).app _⟩,rfl,by omega,nv⟩
      ·have Dh:(x.a9==-1)=false:=by simpa using cW
       simp -implicitDefEqProofs only[op,ef,cl,sq,reduceIte,j2,j3,j4,j5,j6,j7,j8,j9,y1,S1,S2,S3,List.length_set,q0,q1,q2,q9,SW,SX,SY,YB,YC,YD,hj,aa,e1,e2,e3,eU,SB,Df.hs,Df.hv,Qw,pY,qG,Option.getD_some,fC,Dh,l0,lv,wj]
       exact⟨j+1,by omega,.i ⟨v',Df.hO (aB (F:=fun _=>False) (Ext.rfl'.app _)) (fun _ _ _ h=>h),(jq.skip hx cW hnS).mono fun m _=>hSS m,Dg.app _⟩,rfl,by omega,nv⟩
    ·have Hw:j=(s.ids k).length:=by omega
     subst Hw
     simp -implicitDefEqProofs only[op,ef,cl,sq,reduceIte,j2,j3,j4,j5,j6,j7,j8,j9,y1,S1,q0,q1,q2,q9,SW,SX,SY,YB,YC,YD,hj]
     refine⟨v',Df,jq.mono fun m hm=>?_,Dg⟩
     rw[List.take_length]
     refine or_congr Iff.rfl ⟨fun ⟨a1,a2⟩=>⟨a1,?_⟩,fun ⟨a1,a2⟩=>⟨a1,(hi.Jp k m.2).2 (by rw[←a1];exact hm)⟩⟩
     obtain⟨p,hp,e⟩:=List.getElem_of_mem a2
     exact bD p m.2 hp (by rw[List.getElem?_eq_getElem hp,e])
   ·rintro R H3⟨⟨v',Df,jq,Dg⟩,q0,q1,q2,SW,SX,SY⟩
    simp -implicitDefEqProofs only[op,ef,cl,sq,reduceIte,j2,j3,j4,j5,j6,j7,j8,j9,y1,S1,q0,q1,q2,SW,SX,SY,ws]
    exact⟨i+1,by omega,.i ⟨_,Df,zj,A4,Lp,by rw[b6 hk];exact rJ.add acI rfl jq,Dg⟩,rfl,by omega⟩
 ·have nY:i=(s.dM n).length:=by omega
  subst nY
  rw[List.take_length]at rJ
  simp -implicitDefEqProofs only[op,ef,cl,sq,reduceIte,j2,j3,j4,j5,j6,j7,j8,j9,y1,S1,h0,h1,Yz,YA,aq,Jt.hs,Jt.hp,my,v8,hlH]
  exact⟨s',rfl,⟨im,pm,Jt⟩,(rJ.vs.inv hi s'.ls (rJ.Aa hi.Aa)) |> fun h=>(by have e:s'={ s with vs:=s'.vs,ls:=s'.ls }:=(by cases s';cases s;simp_all);rw[e];exact h),rJ,zj,A4,Lp,av⟩
section
variable {α β γ:Type} [DecidableEq α]
theorem p0 (e:α×β)(es:List (α×β))(k:α):ng (e :: es) k=if k=e.1 then es else e :: ng es k:=by
 unfold ng
 rw[List.findIdx?_cons]
 by_cases hk:k=e.1
 ·simp[hk]
 ·simp -implicitDefEqProofs only[hk,decide_false,if_false,Bool.false_eq_true]
  cases List.findIdx? (fun e=>decide (k=e.1)) es<;>simp
theorem Hz (f:β→γ)(es:List (α×β))(k:α):ng (es.map fun e=>(e.1,f e.2)) k=(ng es k).map fun e=>(e.1,f e.2):=by
 induction es with
 | nil=>rfl
 | cons e es ih=>simp -implicitDefEqProofs only[List.map_cons,p0,ih];split<;>simp
theorem ke {es:List (α×β)}(h:(es.map (·.1)).Nodup)(k k':α):aj (ng es k) k'=if k'=k then none else aj es k':=by
 induction es with
 | nil=>simp[ng,eg]
 | cons e es ih =>
  rw[List.map_cons,List.nodup_cons]at h
  rw[p0]
  by_cases hk:k=e.1
  ·subst hk
   by_cases kv:k'=e.1
   ·subst kv;simp -implicitDefEqProofs only[if_true];exact cz.2 h.1
   ·simp[bK,kv]
  ·simp -implicitDefEqProofs only[hk,if_false,bK,ih h.2]
   by_cases kv:k'=e.1
   ·subst kv;simp[Ne.symm hk]
   ·simp[kv]
theorem Ae {es:List (α×β)}(h:(es.map (·.1)).Nodup)(k:α):((ng es k).map (·.1)).Nodup:=by
 induction es with
 | nil=>simp[ng]
 | cons e es ih =>
  rw[List.map_cons,List.nodup_cons]at h
  rw[p0];split
  ·exact h.2
  ·rw[List.map_cons,List.nodup_cons]
   refine⟨fun hm=>h.1 ?_,ih h.2⟩
   have:aj (ng es k) e.1≠none:=fun hn=>cz.1 hn hm
   rw[ke h.2]at this
   split at this
   ·exact absurd rfl this
   ·exact Classical.byContradiction fun hh=>this (cz.2 hh)
end
theorem yE {α:Type}[DecidableEq α]{l:List α}{x a:α}:a∈eX l x↔a∈l∧a≠x:=by simp[eX]
theorem yF {α:Type}[DecidableEq α](l:List α)(x:α):(eX l x).length≤l.length:=List.length_filter_le ..
def dH.drop (s:dH)(k:ByteArray)(n:Nat):dH:=⟨ng s.vs (k,n),s.ls,fun k'=>if k'=k then eX (s.ids k) n else s.ids k',fun n'=>if n'=n then eX (s.dM n) k else s.dM n',s.n⟩
theorem gV.drop {s:dH}(hi:gV s)(k:ByteArray)(n:Nat):gV (s.drop k n):=by
 refine⟨fun k'=>?_,fun k' n'=>?_,fun n'=>?_,fun n' k'=>?_,Ae hi.nd _,fun m h hm=>?_,fun k'=>?_,fun n'=>?_,hi.Aa⟩
 ·simp -implicitDefEqProofs only[dH.drop];split
  ·exact v7.2 ((v7.1 (hi.yD k)).sublist List.filter_sublist)
  ·exact hi.yD k'
 ·simp -implicitDefEqProofs only[dH.drop,ke hi.nd]
  by_cases e:k'=k
  ·subst e
   simp -implicitDefEqProofs only[if_true,yE,hi.Jp,Prod.mk.injEq,true_and]
   by_cases e2:n'=n<;>simp[e2]
  ·simp[e,hi.Jp]
 ·simp -implicitDefEqProofs only[dH.drop];split
  ·exact(hi.Qu n).sublist List.filter_sublist
  ·exact hi.Qu n'
 ·simp -implicitDefEqProofs only[dH.drop,ke hi.nd]
  by_cases e:n'=n
  ·subst e
   simp -implicitDefEqProofs only[if_true,yE,hi.Lk,Prod.mk.injEq,and_true]
   by_cases e2:k'=k<;>simp[e2]
  ·simp[e,hi.Lk]
 ·simp -implicitDefEqProofs only[dH.drop,ke hi.nd]at hm
  split at hm
  ·cases hm
  ·exact hi.VI m h hm
 ·have:=hi.bi k'
  simp -implicitDefEqProofs only[dH.drop];split
  ·rename_i e;subst e;exact Nat.le_trans (yF _ _) this
  ·exact this
 ·have:=hi.bp n'
  simp -implicitDefEqProofs only[dH.drop];split
  ·rename_i e;subst e;exact Nat.le_trans (yF _ _) this
  ·exact this
def VQ (b:Bk)(s:dH)(F:Nat→Prop)(k:ByteArray)(n:Nat)(H:af):Out→af→Prop:=fun o H' =>
 (aj s.vs (k,n)=none∧o=.val (.int .i64 110)∧Ext H H')∨(∃h,aj s.vs (k,n)=some h∧h.a9=-1∧o=.val (.int .i64 1)∧Ext H H') ∨
 ∃h,aj s.vs (k,n)=some h∧h.a9≠-1∧o=.val (.int .i64 0)∧SH H' b (s.drop k n) F∧a6 F H H'
theorem Qy (b:Bk)(s:dH)(F:Nat→Prop)(k:ByteArray)(n:Nat)(H:af)(hs:SH H b s F)(hi:gV s)(hn:s.n≤8000000) :
  W env (.call 25 [.ptr b.s 0,.str k,.int .u64 n]) H (VQ b s F k n H):=by
 obtain⟨im,pm,sa⟩:=hs
 have l0:=aQ sa.hs
 have lv:=aQ sa.hv
 have Nv:b.s<H.length+1:=by omega
 have nj:=fun Hx z ok=>mw vZ z ok Hx (eE s.vs) (k,n)
 simp -implicitDefEqProofs only[kN,eN]at nj
 have pY:jK (aj (eE s.vs) (k,n)) (.agg [.str ⟨#[]⟩,.sl .nil [],.int .i64 0]) true=.bC [fC (qG (aj s.vs (k,n))),.bool (aj s.vs (k,n)).isSome]:=by
  unfold eE;rw[gE]
  cases aj s.vs (k,n)<;>rfl
 refine W.bA rfl rfl rfl ?_
 cases e:aj s.vs (k,n)with
 | none =>
  rw[e]at pY
  simp -implicitDefEqProofs only[Option.isSome_none]at pY
  simp -implicitDefEqProofs only[Gw,op,ef,cl,sq,reduceIte,j2,j3,j4,j5,j6,j7,j8,j9,y1,S1,S2,S3,List.length_set,sa.hs,sa.hv,l0,Nv,lv,nj,pY,fC]
  exact .inl ⟨e,rfl,((Ext.rfl'.app _).app _)⟩
 | some h =>
  rw[e]at pY
  simp -implicitDefEqProofs only[Option.isSome_some,qG,Option.getD_some]at pY
  by_cases cW:h.a9=-1
  ·simp -implicitDefEqProofs only[Gw,op,ef,cl,sq,reduceIte,j2,j3,j4,j5,j6,j7,j8,j9,y1,S1,S2,S3,List.length_set,sa.hs,sa.hv,l0,Nv,lv,nj,pY,fC,cW]
   exact .inr (.inl ⟨h,e,cW,rfl,((Ext.rfl'.app _).app _)⟩)
  ·have Dh:(h.a9==-1)=false:=by simpa using cW
   have OU:=fun Hx=>FD vZ Hx b.v (eE s.vs) (k,n) (v:=fC h) (by unfold eE;rw[gE,e];rfl)
   simp -implicitDefEqProofs only[kN,eN]at OU
   have Ol:qE (eE s.vs) (k,n)=eE (ng s.vs (k,n)):=Hz fC s.vs (k,n)
   rw[Ol]at OU
   obtain⟨c,lQ,pB,hcF⟩:∃c,aj im k=some (.aC c 0 (s.ids k).length 1)∧H[c]?=some (.cells (aP eU (s.ids k)))∧F c:=by
    have:=sa.oi k
    cases em:aj im k with
    | none =>
     rw[em]at this
     have h0:s.ids k=[]:=this
     have:=(hi.Jp k n).2 (by rw[e];rfl)
     rw[h0]at this;cases this
    | some t=>rw[em]at this;obtain⟨c,rfl,h1,h2⟩:=this;exact⟨c,rfl,h1,h2⟩
   obtain⟨d,qt,cE,hdF⟩:∃d,aj pm n=some (.aC d 0 (s.dM n).length 1)∧H[d]?=some (.cells (aP eS (s.dM n)))∧F d:=by
    have:=sa.op n
    cases em:aj pm n with
    | none =>
     rw[em]at this
     have h0:s.dM n=[]:=this
     have:=(hi.Lk n k).2 (by rw[e];rfl)
     rw[h0]at this;cases this
    | some t=>rw[em]at this;obtain⟨c,rfl,h1,h2⟩:=this;exact⟨c,rfl,h1,h2⟩
   have bc:=sa.jL (k:=k) (c:=c) (by rw[lQ];rfl)
   have bd:=sa.lK (n:=n) (c:=d) (by rw[qt];rfl)
   have hcd:c≠d:=fun h=>sa.sx k n c (by rw[lQ];rfl) (by rw[qt,h];rfl)
   obtain⟨n1,n2,n3,n4⟩:=sa.ne
   have li:=aQ sa.hi
   simp -implicitDefEqProofs only[Gw,op,ef,cl,sq,reduceIte,j2,j3,j4,j5,j6,j7,j8,j9,y1,S1,S2,S3,List.length_set,sa.hs,sa.hv,l0,Nv,lv,nj,pY,fC,Dh,OU,n1,sa.hi,li,sa.vi,fZ,lQ]
   generalize qF:H.set b.v (B.map (bl kN (eE (ng s.vs (k,n)))))++[B.cells [T.str k,T.int IntKind.u64 n]]++[B.cells [T.str h.value,T.sl h.kk (h.keys.map eS),T.int IntKind.i64 h.a9]]=H1
   have acs:H1.length=H.length+2:=by rw[←qF];simp
   have iv:∀{c x},c≠b.v→H[c]?=some x→H1[c]?=some x:=fun hc hx=>by
    have:=aQ hx
    rw[←qF,aR (by simp;omega),aR (by simpa using this),bm (Ne.symm hc)];exact hx
   have v1:H1[b.v]?=some (.map (bl kN (eE (ng s.vs (k,n))))):=by rw[←qF,aR (by simp;omega),aR (by simpa using lv),bQ lv]
   have s1:=iv (Ne.symm n1) sa.hs
   have i1:=iv (Ne.symm sa.vi) sa.hi
   have p1:=iv (Ne.symm sa.vp) sa.hp
   have w1:=iv (Ne.symm sa.vl) sa.hl
   refine ae _ _ _ _ _ _ _ _ (acp c (s.ids k) n H1 (iv bc.2.1 pB) (by have:=hi.bi k;omega)) ?_
   rintro u H2⟨hu,c2,Bh⟩
   cases hu
   have sE:∀{a x},a≠c→H1[a]?=some x→H2[a]?=some x:=fun ha hx=>Bh.get hx ha
   have s2:=sE (Ne.symm bc.1) s1
   have v2:=sE (Ne.symm bc.2.1) v1
   have i2:=sE (Ne.symm bc.2.2.1) i1
   have p2:=sE (Ne.symm bc.2.2.2.1) p1
   have w2:=sE (Ne.symm bc.2.2.2.2.1) w1
   have d2:=sE (Ne.symm hcd) (iv bd.2.1 cE)
   obtain⟨H3,xn⟩:∃H3,H3=H2.set b.i (.map (bl T.str (cD im k (.aC c 0 (eX (s.ids k) n).length 1)))):=⟨_,rfl⟩
   have gW:∀{a x},a≠b.i→H2[a]?=some x→H3[a]?=some x:=fun ha hx=>by rw[xn,bm (Ne.symm ha)];exact hx
   have s3:=gW (Ne.symm n2) s2
   have v3:=gW sa.vi v2
   have i3:H3[b.i]?=some (.map (bl T.str (cD im k (.aC c 0 (eX (s.ids k) n).length 1)))):=by rw[xn,bQ (aQ i2)]
   have p3:=gW (Ne.symm sa.ip) p2
   have w3:=gW (Ne.symm sa.il) w2
   have c3:=gW bc.2.2.1 c2
   have d3:=gW bd.2.2.1 d2
   simp -implicitDefEqProofs only[op,ef,cl,sq,reduceIte,j2,j3,j4,j5,j6,j7,j8,j9,y1,S1,s2,i2,nX,←xn,s3,p3,my,qt]
   refine ae _ _ _ _ _ _ _ _ (acr d (s.dM n) k H3 d3 (by have:=hi.bp n;omega)) ?_
   rintro u H4⟨hu,d4,DY⟩
   cases hu
   have gX:∀{a x},a≠d→H3[a]?=some x→H4[a]?=some x:=fun ha hx=>DY.get hx ha
   have s4:=gX (Ne.symm bd.1) s3
   have v4:=gX (Ne.symm bd.2.1) v3
   have i4:=gX (Ne.symm bd.2.2.1) i3
   have p4:=gX (Ne.symm bd.2.2.2.1) p3
   have w4:=gX (Ne.symm bd.2.2.2.2.1) w3
   have c4:=gX hcd c3
   obtain⟨H5,VT⟩:∃H5,H5=H4.set b.p (.map (bl kU (cD pm n (.aC d 0 (eX (s.dM n) k).length 1)))):=⟨_,rfl⟩
   have gr:∀{a x},a≠b.p→H4[a]?=some x→H5[a]?=some x:=fun ha hx=>by rw[VT,bm (Ne.symm ha)];exact hx
   have s5:=gr (Ne.symm n3) s4
   have p5:H5[b.p]?=some (.map (bl kU (cD pm n (.aC d 0 (eX (s.dM n) k).length 1)))):=by rw[VT,bQ (aQ p4)]
   have l2:aj (cD pm n (.aC d 0 (eX (s.dM n) k).length 1)) n=some (.aC d 0 (eX (s.dM n) k).length 1):=by rw[bq,if_pos rfl]
   have ah5:H5.length=H4.length:=by rw[VT];simp
   have acv:H3.length=H2.length:=by rw[xn];simp
   have HA:∀{a x},a≠b.v→a≠c→a≠b.i→a≠d→a≠b.p→H[a]?=some x→H5[a]?=some x:=fun e1 e2 e3 e4 e5 hx=>gr e5 (gX e4 (gW e3 (sE e2 (iv e1 hx))))
   have frF:a6 F H H5:=⟨by have:=Bh.1;have:=DY.1;omega,fun a ha hF=>by
    obtain⟨x,hx⟩:=bM ha
    have ne:∀{c'},F c'→a≠c':=fun h e=>hF (e▸h)
    rw[hx]
    exact HA (ne sa.F0.2.1) (ne hcF) (ne sa.F0.2.2.1) (ne hdF) (ne sa.F0.2.2.2.1) hx⟩
   have SP:=fun Hx=>FD Pd Hx b.p (cD pm n (.aC d 0 (eX (s.dM n) k).length 1)) n l2
   simp -implicitDefEqProofs only[kU]at SP
   have fin:∀(Lq:List (Nat×T)) (H6:af),(∀n',aj Lq n'=if n'=n then aj Lq n else aj pm n')→Jq eS F H5 (aj Lq n) (eX (s.dM n) k)→(∀a,eG (aj Lq n)=some a→a=d)→(Lq.map (·.1)).Nodup→H6[b.p]?=some (.map (bl kU Lq))→(∀{a x},a≠b.p→H5[a]?=some x→H6[a]?=some x)→u2 H6 b (cD im k (.aC c 0 (eX (s.ids k) n).length 1)) Lq (s.drop k n) F:=by
    intro Lq H6 hl ho hb fH hp hk
    have kI:∀{k' a x},k'≠k→eG (aj im k')=some a→H[a]?=some x→H6[a]?=some x:=fun {k' a x} bT ha hx=>by
     obtain⟨e1,e2,e3,e4,e5,_,e6⟩:=sa.jL ha
     exact hk e4 (HA e2 (fun e=>bT (sa.si k' k c (e▸ha) (by rw[lQ];rfl))) e3 (fun e=>sa.sx k' n d (e▸ha) (by rw[qt];rfl)) e4 hx)
    have kP:∀{n' a x},n'≠n→eG (aj pm n')=some a→H[a]?=some x→H6[a]?=some x:=fun {n' a x} bT ha hx=>by
     obtain⟨e1,e2,e3,e4,e5,_,e6⟩:=sa.lK ha
     exact hk e4 (HA e2 (fun e=>sa.sx k n' c (by rw[lQ];rfl) (e▸ha)) e3 (fun e=>bT (sa.sp n' n d (e▸ha) (by rw[qt];rfl))) e4 hx)
    have bI:∀k' a,eG (aj (cD im k (.aC c 0 (eX (s.ids k) n).length 1)) k')=some a→eG (aj im k')=some a:=fun k' a ha=>by
     rw[bq]at ha
     split at ha
     ·rename_i e;subst e;rw[lQ];exact ha
     ·exact ha
    have bP:∀n' a,eG (aj Lq n')=some a→eG (aj pm n')=some a:=fun n' a ha=>by
     rw[hl]at ha
     split at ha
     ·rename_i e;subst e;rw[qt,hb a ha];rfl
     ·exact ha
    refine⟨hk (Ne.symm n3) s5,hk sa.vp (gr sa.vp v4),hk sa.ip (gr sa.ip i4),hp,hk (Ne.symm sa.pl) (gr (Ne.symm sa.pl) w4),sa.vi,sa.vp,sa.vl,sa.ip,sa.il,sa.pl,sa.F0,fun k'=>?_,fun n'=>?_,fun k1 k2 a h1 h2=>sa.si k1 k2 a (bI _ _ h1) (bI _ _ h2),fun k1 k2 a h1 h2=>sa.sp k1 k2 a (bP _ _ h1) (bP _ _ h2),fun k1 k2 a h1 h2=>sa.sx k1 k2 a (bI _ _ h1) (bP _ _ h2),fH⟩
    ·simp -implicitDefEqProofs only[dH.drop,bq]
     by_cases e:k'=k
     ·simp -implicitDefEqProofs only[e,if_true]
      exact⟨c,rfl,hk bc.2.2.2.1 (gr bc.2.2.2.1 c4),hcF⟩
     ·simp -implicitDefEqProofs only[e,if_false]
      exact(sa.oi k').eJ (fun a x ha hx=>kI e ha hx) fun _ _ h=>h
    ·rw[hl]
     simp -implicitDefEqProofs only[dH.drop]
     by_cases e:n'=n
     ·simp -implicitDefEqProofs only[e,if_true]
      refine ho.eJ (fun a x ha hx=>hk ?_ hx) fun _ _ h=>h
      rw[hb a ha];exact bd.2.2.2.1
     ·simp -implicitDefEqProofs only[e,if_false]
      exact(sa.op n').eJ (fun a x ha hx=>kP e ha hx) fun _ _ h=>h
   by_cases hz:(eX (s.dM n) k).length=0
   ·have qR:((eX (s.dM n) k).length=0)=True:=eq_true hz
    simp -implicitDefEqProofs only[op,ef,cl,sq,reduceIte,j2,j3,j4,j5,j6,j7,j8,j9,y1,S1,s4,p4,sk,←VT,s5,p5,my,l2,qR,SP]
    refine .inr (.inr ⟨h,e,cW,rfl,⟨_,_,fin (qE (cD pm n (.aC d 0 (eX (s.dM n) k).length 1)) n) _ (fun n'=>?_) ?_ (fun a ha=>?_) (z9 (dp sa.np _ _) _) (bQ (aQ p5)) (fun ha hx=>by rw[bm (Ne.symm ha)];exact hx)⟩,frF.set (.inl sa.F0.2.2.2.1) _⟩)
    ·simp -implicitDefEqProofs only[mW (dp sa.np _ _),bq];split<;>simp
    ·rw[mW (dp sa.np _ _),if_pos rfl];exact List.eq_nil_of_length_eq_zero hz
    ·rw[mW (dp sa.np _ _),if_pos rfl]at ha;cases ha
   ·simp -implicitDefEqProofs only[op,ef,cl,sq,reduceIte,j2,j3,j4,j5,j6,j7,j8,j9,y1,S1,s4,p4,sk,←VT,s5,p5,my,l2,hz]
    refine .inr (.inr ⟨h,e,cW,rfl,⟨_,_,fin _ H5 (fun n'=>?_) ?_ (fun a ha=>?_) (dp sa.np _ _) p5 (fun _ h=>h)⟩,frF⟩)
    ·simp -implicitDefEqProofs only[bq];split<;>simp
    ·rw[l2];exact⟨d,rfl,gr bd.2.2.2.1 d4,hdF⟩
    ·rw[l2]at ha;cases ha;rfl
abbrev u4 (n:Nat)(R0:ax)(ps:List Nat)(cj body:C):B:=.loop .ready Option.none n R0 ps cj body
abbrev Nw (n:Nat)(R0:ax)(ps:List Nat)(cj body:C):B:=.loop .busy Option.none n R0 ps cj body
theorem nZ {H H':af}(h:∀(c:Nat) x,H[c]?=some x→H'[c]?=some x):Ext H H':=by
 have hl:H.length≤H'.length:=by
  rcases Nat.eq_zero_or_pos H.length with h0|h0
  ·omega
  ·obtain⟨x,hx⟩:=bM (l:=H) (i:=H.length-1) (by omega)
   have:=aQ (h _ x hx)
   omega
 refine⟨H'.drop H.length,List.ext_getElem? fun i=>?_⟩
 by_cases hi:i<H.length
 ·obtain⟨x,hx⟩:=bM hi
  rw[List.getElem?_append_left hi,hx,h i x hx]
 ·rw[List.getElem?_append_right (by omega),List.getElem?_drop]
  congr 1;omega
structure RI {α β:Type}(es:List (α×β))(ix:List Nat)(cn:List α):Prop where
 len:ix.length+cn.length=es.length
 lt:∀i∈ix,i<es.length
 nix:ix.Nodup
 HB:cn.Nodup
 mem:∀k,k∈cn↔∃i v,es[i]?=some (k,v)∧i∉ix
theorem RI.start {α β:Type}(es:List (α×β)):RI es (List.range es.length) []:=⟨by simp,fun i h=>List.mem_range.1 h,List.nodup_range,by simp,fun k=>by
 simp -implicitDefEqProofs only[List.not_mem_nil,false_iff,not_exists,not_and]
 intro i v h hn
 exact hn (List.mem_range.2 (List.getElem?_eq_some_iff.1 h).1)⟩
theorem RI.step {α β:Type}{es:List (α×β)}(hn:(es.map (·.1)).Nodup){ix:List Nat}{cn:List α}(h:RI es ix cn){i:Nat}{k:α}{v:β}(hi:i∈ix)(he:es[i]?=some (k,v)):RI es (ix.erase i) (cn++[k]):=by
 have inj:∀j w,es[j]?=some (k,w)→j=i:=fun j w hj=>by
  have h1:(es.map (·.1))[j]?=some k:=by rw[List.getElem?_map,hj];rfl
  have h2:(es.map (·.1))[i]?=some k:=by rw[List.getElem?_map,he];rfl
  exact(List.getElem?_inj (List.getElem?_eq_some_iff.1 h1).1 hn).1 (h1.trans h2.symm)
 have hk:k∉cn:=fun hk=>by
  obtain⟨j,w,hj,hn⟩:=(h.mem k).1 hk
  exact hn (inj j w hj▸hi)
 refine⟨?_,fun j hj=>h.lt j (List.mem_of_mem_erase hj),h.nix.erase _,?_,fun k'=>?_⟩
 ·have:=h.len
  have:=List.length_pos_of_mem hi
  rw[List.length_erase_of_mem hi,List.length_append,List.length_singleton];omega
 ·rw[List.nodup_append];exact⟨h.HB,by simp,fun a ha c hc=>by simp at hc;subst hc;rintro rfl;exact hk ha⟩
 ·rw[List.mem_append,List.mem_singleton,h.mem]
  constructor
  ·rintro (⟨j,w,hj,hnj⟩|rfl)
   ·exact⟨j,w,hj,fun hm=>hnj (List.mem_of_mem_erase hm)⟩
   ·exact⟨i,v,he,fun hm=>(h.nix.mem_erase_iff.1 hm).1 rfl⟩
  ·rintro⟨j,w,hj,hnj⟩
   by_cases e:j=i
   ·subst e;rw[he]at hj;cases hj;exact .inr rfl
   ·exact .inl ⟨j,w,hj,fun hm=>hnj (h.nix.mem_erase_iff.2 ⟨e,hm⟩)⟩
theorem RI.C8 {α β:Type}{es:List (α×β)}{cn:List α}(h:RI es [] cn)(k:α):k∈cn↔k∈es.map (·.1):=by
 rw[h.mem]
 constructor
 ·rintro⟨i,v,he,_⟩;exact List.mem_map.2 ⟨_,List.mem_of_getElem? he,rfl⟩
 ·intro hk
  obtain⟨e,he,rfl⟩:=List.mem_map.1 hk
  obtain⟨i,hi,e2⟩:=List.getElem_of_mem he
  exact⟨i,e.2,by rw[List.getElem?_eq_getElem hi,e2],by simp⟩
theorem Qz {n:Nat}{R0:ax}{ps:List Nat}{cj body:C}(es:List (Nm×T))(c b mb:Nat)(H:af)(I:List Nm→af→Prop)(hps:ps.length=1)(fH:(es.map (·.1)).Nodup)(h0:I [] H)(hb:H[b]?=some (u4 n R0 ps cj body))(hc:H[c]?=some (.cells [.map mb]))(hm:H[mb]?=some (.map (bl kN es)))
  (l8:∀cn H' y,I cn H'→I cn (H'.set mb y)) (rZ:∀cn H' (l:af),I cn H'→I cn (H'++l))
  (bN:∀cn v H',cn.length<es.length→I cn H'→H'[b]?=some (u4 n R0 ps cj body)→H.length<H'.length→fJ env cj (jv R0 ps [(kN v)]) H' (fun o H1=>∃R1,o=.ex .normal R1∧H1[b]?=some (u4 n R0 ps cj body) ∧
   fJ env body R1 (H1.set b (Nw n R0 ps cj body)) (fun o H2=>∃R2,o=.ex .normal R2∧H2[b]?=some (Nw n R0 ps cj body)∧I (cn++[v]) (H2.set b (u4 n R0 ps cj body))∧∀a y,H'[a]?=some y→a=mb∨a=H.length→H2[a]?=some y))) :
  W env (.call 94 [.od b,.ptr c 0]) H (fun _ H'=>∃cn,I cn H'∧RI es [] cn∧H'[b]?=some (u4 n R0 ps cj body)∧H'[mb]?=some (.map (bl kN es))):=by
 have lm:=aQ hm
 have lb:=aQ hb
 have Ju:b≠mb:=by rintro rfl;rw[hm]at hb;cases hb
 have EE:(bl kN es).length=es.length:=by simp[bl]
 refine W.bA rfl rfl rfl ?_
 simp -implicitDefEqProofs only[Qk,op,ef,cl,sq,reduceIte,j2,j3,j4,j5,j6,j7,j8,j9,y1,S1,hc,hm]
 refine W.cO (fun (cn:List Nm) R H'=>At H' (fun H'=>∃ix cur,I cn H'∧RI es ix cn∧H'[b]?=some (u4 n R0 ps cj body)∧H'[mb]?=some (.da (bl kN es) ix H.length cur)∧H'[H.length]?=some (.vw mb))∧R 0=.od b∧R 5=.ptr H.length 0) (fun cn=>es.length-cn.length) [] ?_ ?_
 ·refine⟨.i ⟨List.range (bl kN es).length,none,rZ _ _ _ (l8 _ _ _ h0),by rw[EE];exact RI.start es,?_,?_,?_⟩,rfl,rfl⟩
  ·rw[aR (by simpa using lb),bm (Ne.symm Ju)];exact hb
  ·rw[aR (by simpa using lm),bQ lm]
  ·rw[aE (by simp)]
 rintro cn R H1⟨⟨ix,cur,hI,mX,kF,Lr,C9⟩,r0,r5⟩
 have lb1:=aQ kF
 have VU:=aQ Lr
 have li1:=aQ C9
 have hbi:b≠H.length:=by rintro rfl;rw[C9]at kF;cases kF
 have DP:mb≠H.length:=by omega
 simp -implicitDefEqProofs only[op,ef,cl,sq,reduceIte,j2,j3,j4,j5,j6,j7,j8,j9,y1,S1,r5]
 refine zZ _ _ _ _ _ _ _ r5 Lr ?_
 rintro t H2 (⟨rfl,rfl,rfl⟩|⟨i,e,hi,he,rfl,rfl⟩)
 ·simp -implicitDefEqProofs only[op,ef,cl,sq,reduceIte,j2,j3,j4,j5,j6,j7,j8,j9,y1,S1]
  exact⟨cn,l8 _ _ _ hI,mX,by rw[bm (Ne.symm Ju)];exact kF,bQ VU⟩
 obtain⟨⟨k,v0⟩,Nx⟩:=bM (mX.lt i hi)
 have DQ:e=(kN k,v0):=by
  rw[bl,List.getElem?_map,Nx]at he;exact(Option.some.inj he).symm
 subst DQ
 have b2:(H1.set mb (.da (bl kN es) (ix.erase i) H.length (some i)))[b]?=some (u4 n R0 ps cj body):=by rw[bm (Ne.symm Ju)];exact kF
 have m2:(H1.set mb (.da (bl kN es) (ix.erase i) H.length (some i)))[mb]?=some (.da (bl kN es) (ix.erase i) H.length (some i)):=bQ VU
 have i2:(H1.set mb (.da (bl kN es) (ix.erase i) H.length (some i)))[H.length]?=some (.vw mb):=by rw[bm DP];exact C9
 have acP:(H1.set mb (.da (bl kN es) (ix.erase i) H.length (some i))).length=H1.length:=by simp
 have VV:=l8 cn H1 (.da (bl kN es) (ix.erase i) H.length (some i)) hI
 generalize H1.set mb (.da (bl kN es) (ix.erase i) H.length (some i))=H2 at *
 have og:cn.length<es.length:=by have:=mX.len;have:=List.length_pos_of_mem hi;omega
 have fin:∀H3,Ext H2 H3→I cn H3→fJ env cj (jv R0 ps [kN k]) H3 (fun o H1=>∃R1,o=.ex .normal R1∧H1[b]?=some (u4 n R0 ps cj body)∧fJ env body R1 (H1.set b (Nw n R0 ps cj body)) (fun o H2=>∃R2,o=.ex .normal R2∧H2[b]?=some (Nw n R0 ps cj body) ∧
   ∃y:List Nm,es.length-y.length<es.length-cn.length∧At (H2.set b (u4 n R0 ps cj body)) (fun H'=>∃ix cur,I y H'∧RI es ix y∧H'[b]?=some (u4 n R0 ps cj body)∧H'[mb]?=some (.da (bl kN es) ix H.length cur)∧H'[H.length]?=some (.vw mb))∧R 0=.od b∧R 5=.ptr H.length 0)):=by
  intro H3 hx h3
  have zm:=hx.len
  refine fX _ _ _ (fun o H4=>?_) (bN cn k H3 og h3 (hx.get b2) (by omega))
  rintro⟨R1,rfl,hr,hw⟩
  refine⟨R1,rfl,hr,fX _ _ _ (fun o H5=>?_) hw⟩
  rintro⟨R2,rfl,tR,hI3,qH⟩
  have DZ:=aQ tR
  have VL:=qH mb _ (hx.get m2) (.inl rfl)
  have VK:=qH H.length _ (hx.get i2) (.inr rfl)
  exact⟨R2,rfl,tR,cn++[k],by rw[List.length_append,List.length_singleton];omega,.i ⟨_,_,hI3,mX.step fH hi Nx,bQ DZ,by rw[bm Ju];exact VL,by rw[bm hbi];exact VK⟩,r0,r5⟩
 have lb2:=aQ b2
 simp -implicitDefEqProofs only[op,ef,cl,sq,reduceIte,j2,j3,j4,j5,j6,j7,j8,j9,y1,S1,r0,r5,i2,m2,he,kN,eN,S2]
 refine M8 (b:=b) (n:=n) (R0:=R0) (ps:=ps) (cj:=cj) (body:=body) (by simp -implicitDefEqProofs only[op,ef,cl,sq,reduceIte,j2,j3,j4,j5,j6,j7,j8,j9,y1,S1,r0]) (by first|exact b2|(rw[aR lb2];exact b2)) (by rw[hps];rfl) ?_
 simp -implicitDefEqProofs only[op,ef,cl,sq,reduceIte,j2,j3,j4,j5,j6,j7,j8,j9,y1,S1]
 first
  | exact fin _ ⟨_,rfl⟩ (rZ _ _ _ VV)
  | exact fin _ Ext.rfl' VV
theorem QA {n:Nat}{R0:ax}{ps:List Nat}{cj body:C}(es:List (ByteArray×T))(c b mb:Nat)(H:af)(I:List ByteArray→af→Prop)(hps:ps.length=1)(fH:(es.map (·.1)).Nodup)(h0:I [] H)(hb:H[b]?=some (u4 n R0 ps cj body))(hc:H[c]?=some (.cells [.map mb]))(hm:H[mb]?=some (.map (bl T.str es)))
  (l8:∀cn H' y,I cn H'→I cn (H'.set mb y)) (rZ:∀cn H' (l:af),I cn H'→I cn (H'++l))
  (bN:∀cn v H',cn.length<es.length→I cn H'→H'[b]?=some (u4 n R0 ps cj body)→H.length<H'.length→fJ env cj (jv R0 ps [(T.str v)]) H' (fun o H1=>∃R1,o=.ex .normal R1∧H1[b]?=some (u4 n R0 ps cj body) ∧
   fJ env body R1 (H1.set b (Nw n R0 ps cj body)) (fun o H2=>∃R2,o=.ex .normal R2∧H2[b]?=some (Nw n R0 ps cj body)∧I (cn++[v]) (H2.set b (u4 n R0 ps cj body))∧∀a y,H'[a]?=some y→a=mb∨a=H.length→H2[a]?=some y))) :
  W env (.call 100 [.od b,.ptr c 0]) H (fun _ H'=>∃cn,I cn H'∧RI es [] cn∧H'[b]?=some (u4 n R0 ps cj body)∧H'[mb]?=some (.map (bl T.str es))):=by
 have lm:=aQ hm
 have lb:=aQ hb
 have Ju:b≠mb:=by rintro rfl;rw[hm]at hb;cases hb
 have EE:(bl T.str es).length=es.length:=by simp[bl]
 refine W.bA rfl rfl rfl ?_
 simp -implicitDefEqProofs only[GA,op,ef,cl,sq,reduceIte,j2,j3,j4,j5,j6,j7,j8,j9,y1,S1,hc,hm]
 refine W.cO (fun (cn:List ByteArray) R H'=>At H' (fun H'=>∃ix cur,I cn H'∧RI es ix cn∧H'[b]?=some (u4 n R0 ps cj body)∧H'[mb]?=some (.da (bl T.str es) ix H.length cur)∧H'[H.length]?=some (.vw mb))∧R 0=.od b∧R 5=.ptr H.length 0) (fun cn=>es.length-cn.length) [] ?_ ?_
 ·refine⟨.i ⟨List.range (bl T.str es).length,none,rZ _ _ _ (l8 _ _ _ h0),by rw[EE];exact RI.start es,?_,?_,?_⟩,rfl,rfl⟩
  ·rw[aR (by simpa using lb),bm (Ne.symm Ju)];exact hb
  ·rw[aR (by simpa using lm),bQ lm]
  ·rw[aE (by simp)]
 rintro cn R H1⟨⟨ix,cur,hI,mX,kF,Lr,C9⟩,r0,r5⟩
 have lb1:=aQ kF
 have VU:=aQ Lr
 have li1:=aQ C9
 have hbi:b≠H.length:=by rintro rfl;rw[C9]at kF;cases kF
 have DP:mb≠H.length:=by omega
 simp -implicitDefEqProofs only[op,ef,cl,sq,reduceIte,j2,j3,j4,j5,j6,j7,j8,j9,y1,S1,r5]
 refine zZ _ _ _ _ _ _ _ r5 Lr ?_
 rintro t H2 (⟨rfl,rfl,rfl⟩|⟨i,e,hi,he,rfl,rfl⟩)
 ·simp -implicitDefEqProofs only[op,ef,cl,sq,reduceIte,j2,j3,j4,j5,j6,j7,j8,j9,y1,S1]
  exact⟨cn,l8 _ _ _ hI,mX,by rw[bm (Ne.symm Ju)];exact kF,bQ VU⟩
 obtain⟨⟨k,v0⟩,Nx⟩:=bM (mX.lt i hi)
 have DQ:e=(T.str k,v0):=by
  rw[bl,List.getElem?_map,Nx]at he;exact(Option.some.inj he).symm
 subst DQ
 have b2:(H1.set mb (.da (bl T.str es) (ix.erase i) H.length (some i)))[b]?=some (u4 n R0 ps cj body):=by rw[bm (Ne.symm Ju)];exact kF
 have m2:(H1.set mb (.da (bl T.str es) (ix.erase i) H.length (some i)))[mb]?=some (.da (bl T.str es) (ix.erase i) H.length (some i)):=bQ VU
 have i2:(H1.set mb (.da (bl T.str es) (ix.erase i) H.length (some i)))[H.length]?=some (.vw mb):=by rw[bm DP];exact C9
 have acP:(H1.set mb (.da (bl T.str es) (ix.erase i) H.length (some i))).length=H1.length:=by simp
 have VV:=l8 cn H1 (.da (bl T.str es) (ix.erase i) H.length (some i)) hI
 generalize H1.set mb (.da (bl T.str es) (ix.erase i) H.length (some i))=H2 at *
 have og:cn.length<es.length:=by have:=mX.len;have:=List.length_pos_of_mem hi;omega
 have fin:∀H3,Ext H2 H3→I cn H3→fJ env cj (jv R0 ps [T.str k]) H3 (fun o H1=>∃R1,o=.ex .normal R1∧H1[b]?=some (u4 n R0 ps cj body)∧fJ env body R1 (H1.set b (Nw n R0 ps cj body)) (fun o H2=>∃R2,o=.ex .normal R2∧H2[b]?=some (Nw n R0 ps cj body) ∧
   ∃y:List ByteArray,es.length-y.length<es.length-cn.length∧At (H2.set b (u4 n R0 ps cj body)) (fun H'=>∃ix cur,I y H'∧RI es ix y∧H'[b]?=some (u4 n R0 ps cj body)∧H'[mb]?=some (.da (bl T.str es) ix H.length cur)∧H'[H.length]?=some (.vw mb))∧R 0=.od b∧R 5=.ptr H.length 0)):=by
  intro H3 hx h3
  have zm:=hx.len
  refine fX _ _ _ (fun o H4=>?_) (bN cn k H3 og h3 (hx.get b2) (by omega))
  rintro⟨R1,rfl,hr,hw⟩
  refine⟨R1,rfl,hr,fX _ _ _ (fun o H5=>?_) hw⟩
  rintro⟨R2,rfl,tR,hI3,qH⟩
  have DZ:=aQ tR
  have VL:=qH mb _ (hx.get m2) (.inl rfl)
  have VK:=qH H.length _ (hx.get i2) (.inr rfl)
  exact⟨R2,rfl,tR,cn++[k],by rw[List.length_append,List.length_singleton];omega,.i ⟨_,_,hI3,mX.step fH hi Nx,bQ DZ,by rw[bm Ju];exact VL,by rw[bm hbi];exact VK⟩,r0,r5⟩
 have lb2:=aQ b2
 simp -implicitDefEqProofs only[op,ef,cl,sq,reduceIte,j2,j3,j4,j5,j6,j7,j8,j9,y1,S1,r0,r5,i2,m2,he,kN,eN,S2]
 refine M8 (b:=b) (n:=n) (R0:=R0) (ps:=ps) (cj:=cj) (body:=body) (by simp -implicitDefEqProofs only[op,ef,cl,sq,reduceIte,j2,j3,j4,j5,j6,j7,j8,j9,y1,S1,r0]) (by first|exact b2|(rw[aR lb2];exact b2)) (by rw[hps];rfl) ?_
 simp -implicitDefEqProofs only[op,ef,cl,sq,reduceIte,j2,j3,j4,j5,j6,j7,j8,j9,y1,S1]
 first
  | exact fin _ ⟨_,rfl⟩ (rZ _ _ _ VV)
  | exact fin _ Ext.rfl' VV
def Ls {α:Type}(enc:α→List T)(n:Nat)(es:List (α×T))(H:af):Out→af→Prop:=fun o H'=>Ext H H'∧∃t cn,o=.val t∧lB enc n H.length H' t cn∧RI es [] cn
def jD (H:af):T→af
 | .aC b _ _ _=>H.set b .dead
 | _=>H
theorem kf (H:af)(t:T):(jD H t).length=H.length:=by cases t<;>simp[jD]
theorem oV {H:af}{t:T}{a:Nat}(h:∀off len m,t≠.aC a off len m):(jD H t)[a]?=H[a]?:=by
 cases t with
 | aC b off len m=>exact bm (fun e=>h off len m (by rw[e]))
 | _=>rfl
theorem yG {α:Type}{enc:α→List T}{n n0 bytes:Nat}(hn:∀x,(enc x).length=n){H:af}{t:T}{l:List α}(h:lB enc n n0 H t l)(v:α)(hr:db (l.length+1) bytes=true):lT H n bytes t [enc v]=some (.aC H.length 0 (l.length+1) n,jD H t++[.cells (aP enc (l++[v]))]):=by
 have rZ:aP enc l++enc v=aP enc (l++[v]):=by simp[aP]
 rcases h with⟨rfl,rfl⟩|⟨b,rfl,hb,_⟩
 ·simp -implicitDefEqProofs only[List.length_nil,Nat.zero_add]at hr
  simp[lT,hr,jD,aP]
 ·have hc:l.length*n=(aP enc l).length:=(dy hn l).symm
  simp[lT,hb,hc,hr,jD,rZ]
theorem VW (es:List (Nm×T))(c mb:Nat)(H:af)(fH:(es.map (·.1)).Nodup)(jm:es.length≤8000000)(hc:H[c]?=some (.cells [.map mb]))(hm:H[mb]?=some (.map (bl kN es))) :
  W env (.call 116 [.sl .nil [],.fn 94 [.ptr c 0]]) H (Ls eN 2 es H):=by
 have lm:=aQ hm
 have lc:=aQ hc
 refine W.Ub rfl rfl ?_
 simp -implicitDefEqProofs only[GL,op,ef,cl,sq,reduceIte,j2,j3,j4,j5,j6,j7,j8,j9,y1,S1,S2]
 generalize hR:pj (pj (pj (iq [T.sl SK.nil [],T.fn 94 [T.ptr c 0]]) 2 (T.ptr H.length 0)) 4 (T.sl SK.nil [])) 6 (T.fn 94 [T.ptr c 0])=R0
 have r2:R0 2=.ptr H.length 0:=by rw[←hR];simp -implicitDefEqProofs only[op,ef,cl,sq,reduceIte,j2,j3,j4,j5,j6,j7,j8,j9,y1,S1]
 have r6:R0 6=.fn 94 [.ptr c 0]:=by rw[←hR];simp -implicitDefEqProofs only[op,ef,cl,sq,reduceIte,j2,j3,j4,j5,j6,j7,j8,j9,y1,S1]
 have Ny:R0 13=.bC []:=by rw[←hR];rfl
 refine W.Ft (f:=94) (cs:=[.ptr c 0]) (by simp -implicitDefEqProofs only[op,ef,cl,sq,reduceIte,j2,j3,j4,j5,j6,j7,j8,j9,y1,S1,r6]) ?_
 have a1:(H++[B.cells [T.sl SK.nil []]]).length=H.length+1:=by simp
 rw[a1,Ny,Nk]
 have e1:H.length+1+1=H.length+2:=rfl
 rw[e1]
 generalize tG:H.length=f at *
 have n02:¬(f=f+2):=by omega
 have n12:¬(f+1=f+2):=by omega
 have kH:∀x y:B,(H++[B.cells [T.sl SK.nil []]]++[y,x])[f+2]?=some x:=fun x y=>by
  rw[List.getElem?_append_right (by omega),a1]
  have:f+2-(f+1)=1:=by omega
  rw[this];rfl
 have VX:∀x y:B,(H++[B.cells [T.sl SK.nil []]]++[y,x]).length=f+3:=fun x y=>by simp[tG]
 have QB:∀(x y:B) (a:Nat) z,H[a]?=some z→(H++[B.cells [T.sl SK.nil []]]++[y,x])[a]?=some z:=fun x y a z hz=>by
  have:=aQ hz
  rw[aR (by omega),aR (by omega)];exact hz
 refine W.use (Qz (hb:=kH _ _) es c (f+2) mb _ (fun cn H'=>At H' fun H'=>∃t,H'[f]?=some (.cells [t])∧lB eN 2 (f+4) H' t cn∧H'[f+1]?=some .AR∧∀(a:Nat) y,H[a]?=some y→a≠mb→H'[a]?=some y) rfl fH ?_ (QB _ _ _ _ hc) (QB _ _ _ _ hm) ?_ ?_ ?_) ?_
 ·refine .i ⟨.sl .nil [],?_,kY _ _ _ _,?_,fun a y hy _=>QB _ _ _ _ hy⟩
  ·rw[aR (by omega),aE (by omega)]
  ·rw[aE (by omega)]
 ·rintro cn H' y⟨t,h1,h2,h3,h4⟩
  refine .i ⟨t,by rw[bm (by omega)];exact h1,?_,by rw[bm (by omega)];exact h3,fun a z hz ha=>by rw[bm (Ne.symm ha)];exact h4 a z hz ha⟩
  rcases h2 with h2|⟨d,e1,e2,e3⟩
  ·exact .inl h2
  ·exact .inr ⟨d,e1,by rw[bm (by omega)];exact e2,e3⟩
 ·rintro cn H' l⟨t,h1,h2,h3,h4⟩
  exact .i ⟨t,by rw[aR (aQ h1)];exact h1,h2.ext ⟨_,rfl⟩,by rw[aR (aQ h3)];exact h3,fun a z hz ha=>by rw[aR (aQ (h4 a z hz ha))];exact h4 a z hz ha⟩
 ·rintro cn v H' og⟨t,h1,h2,h3,h4⟩ hb hlen
  rw[VX]at hlen
  have mf:=aQ h1
  have m1:=aQ h3
  have m2:=aQ hb
  have bF:∀a,a<f+4→∀off len m,t≠.aC a off len m:=fun a ha off len m he=>by
   rcases h2 with⟨_,e⟩|⟨d,e,_,e3⟩
   ·rw[e]at he;cases he
   ·rw[e]at he;cases he;omega
  have Gs:xv t=t:=by rcases h2 with⟨_,rfl⟩|⟨d,rfl,_⟩<;>rfl
  have hL:∀y:B,(H'.set (f+2) y++[B.cells (eN v)]).length=H'.length+1:=fun y=>by simp
  have kx:∀y:B,lT (H'.set (f+2) y++[B.cells (eN v)]) 2 24 t [eN v]=some (.aC (H'.length+1) 0 (cn++[v]).length 2,jD (H'.set (f+2) y++[B.cells (eN v)]) t++[.cells (aP eN (cn++[v]))]):=fun y=>by
   have:=yG (enc:=eN) (n:=2) (bytes:=24) (n0:=f+4) (H:=H'.set (f+2) y++[B.cells (eN v)]) (t:=t) (l:=cn) (fun _=>rfl) (by
    rcases h2 with h2|⟨d,e1,e2,e3⟩
    ·exact .inl h2
    ·refine .inr ⟨d,e1,?_,e3⟩
     first
      | (rw[aR (by rw[List.length_set];exact aQ e2),bm (by omega)];exact e2)
      | (rw[bm (by omega)];exact e2)) v (sA (by omega) (by omega))
   rw[hL]at this
   rw[this,List.length_append];rfl
  simp -implicitDefEqProofs only[eN]at kx
  have pO:∀(y:B) (a:Nat) z,H'[a]?=some z→a≠f+2→a<f+4→(jD (H'.set (f+2) y++[B.cells (eN v)]) t++[.cells (aP eN (cn++[v]))])[a]?=some z:=fun y a z hz h2 h4=>by
   have:=aQ hz
   rw[aR (by rw[kf];simp;omega),oV (bF a h4)]
   first
    | (rw[aR (by rw[List.length_set];exact this),bm (Ne.symm h2)];exact hz)
    | (rw[bm (Ne.symm h2)];exact hz)
  have n2H:¬(f+2=H'.length):=by omega
  have n2f:¬(f+2=f):=by omega
  have nHf:¬(H'.length=f):=by omega
  simp -implicitDefEqProofs only[op,ef,cl,sq,reduceIte,j2,j3,j4,j5,j6,j7,j8,j9,y1,S1,S2,jv,kN,eN]
  refine⟨_,rfl,?_,?_⟩
  ·first
    | exact hb
    | (rw[aR m2];exact hb)
  have HC:=fun y=>pO y f _ h1 (by omega) (by omega)
  have VY:∀y:B,(jD (H'.set (f+2) y++[B.cells (eN v)]) t++[.cells (aP eN (cn++[v]))])[f+2]?=some y:=fun y=>by
   rw[aR (by rw[kf];simp;omega),oV (bF _ (by omega))]
   first
    | (rw[aR (by rw[List.length_set];exact m2),bQ m2])
    | (rw[bQ m2])
  have Jv:∀y:B,(jD (H'.set (f+2) y++[B.cells (eN v)]) t++[.cells (aP eN (cn++[v]))])[H'.length+1]?=some (.cells (aP eN (cn++[v]))):=fun y=>by
   rw[aE (by rw[kf,hL])]
  try simp -implicitDefEqProofs only[eN]at HC
  try simp -implicitDefEqProofs only[eN]at VY
  try simp -implicitDefEqProofs only[eN]at Jv
  try simp -implicitDefEqProofs only[eN]at pO
  simp -implicitDefEqProofs only[op,ef,cl,sq,reduceIte,j2,j3,j4,j5,j6,j7,j8,j9,y1,S1,S2,List.length_set,r2,mf,m2,n2H,n2f,nHf,h1,Gs,kx,HC]
  refine⟨_,rfl,by rw[bm (by omega)];exact VY _,.i ⟨_,by rw[bm (by omega),bQ (aQ (HC _))],.inr ⟨_,rfl,by rw[bm (by omega),bm (by omega)];exact Jv _,by omega⟩,by rw[bm (by omega),bm (by omega)];exact pO _ _ _ h3 (by omega) (by omega),fun a y hy ha=>?_⟩,fun a y hy ha=>?_⟩
  ·have:=aQ hy
   rw[bm (by omega),bm (by omega)];exact pO _ _ _ (h4 a y hy ha) (by omega) (by omega)
  ·rw[VX]at ha
   rw[bm (by omega)];exact pO _ _ _ hy (by omega) (by omega)
 ·rintro o H'⟨cn,⟨t,h1,h2,h3,h4⟩,mX,hb,rA⟩
  refine⟨hb,?_⟩
  have k2:¬(f+2=f+1):=by omega
  have n20:¬(f+2=f):=by omega
  simp -implicitDefEqProofs only[op,ef,cl,sq,reduceIte,j2,j3,j4,j5,j6,j7,j8,j9,y1,S1,S2,r2,n20,h1]
  refine Gr (b:=f+1) (by simp -implicitDefEqProofs only[op,ef,cl,sq,reduceIte,j2,j3,j4,j5,j6,j7,j8,j9,y1,S1]) (by rw[bm (by omega)];exact h3) ?_
  simp -implicitDefEqProofs only[op,ef,cl,sq,reduceIte,j2,j3,j4,j5,j6,j7,j8,j9,y1,S1]
  refine⟨nZ fun a y hy=>?_,t,cn,rfl,?_,mX⟩
  ·have:=aQ hy
   rw[bm (by omega),bm (by omega)]
   by_cases ha:a=mb
   ·subst ha;rw[hm]at hy;cases hy;exact rA
   ·exact h4 a y hy ha
  ·rcases h2 with h2|⟨d,e1,e2,e3⟩
   ·exact .inl h2
   ·exact .inr ⟨d,e1,by rw[bm (by omega),bm (by omega)];exact e2,by omega⟩
theorem VZ (es:List (ByteArray×T))(c mb:Nat)(H:af)(fH:(es.map (·.1)).Nodup)(jm:es.length≤8000000)(hc:H[c]?=some (.cells [.map mb]))(hm:H[mb]?=some (.map (bl T.str es))) :
  W env (.call 121 [.sl .nil [],.fn 100 [.ptr c 0]]) H (Ls eS 1 es H):=by
 have lm:=aQ hm
 have lc:=aQ hc
 refine W.Ub rfl rfl ?_
 simp -implicitDefEqProofs only[GO,op,ef,cl,sq,reduceIte,j2,j3,j4,j5,j6,j7,j8,j9,y1,S1,S2]
 generalize hR:pj (pj (pj (iq [T.sl SK.nil [],T.fn 100 [T.ptr c 0]]) 2 (T.ptr H.length 0)) 4 (T.sl SK.nil [])) 6 (T.fn 100 [T.ptr c 0])=R0
 have r2:R0 2=.ptr H.length 0:=by rw[←hR];simp -implicitDefEqProofs only[op,ef,cl,sq,reduceIte,j2,j3,j4,j5,j6,j7,j8,j9,y1,S1]
 have r6:R0 6=.fn 100 [.ptr c 0]:=by rw[←hR];simp -implicitDefEqProofs only[op,ef,cl,sq,reduceIte,j2,j3,j4,j5,j6,j7,j8,j9,y1,S1]
 have Ny:R0 13=.bC []:=by rw[←hR];rfl
 refine W.Ft (f:=100) (cs:=[.ptr c 0]) (by simp -implicitDefEqProofs only[op,ef,cl,sq,reduceIte,j2,j3,j4,j5,j6,j7,j8,j9,y1,S1,r6]) ?_
 have a1:(H++[B.cells [T.sl SK.nil []]]).length=H.length+1:=by simp
 rw[a1,Ny,Nk]
 have e1:H.length+1+1=H.length+2:=rfl
 rw[e1]
 generalize tG:H.length=f at *
 have n02:¬(f=f+2):=by omega
 have n12:¬(f+1=f+2):=by omega
 have kH:∀x y:B,(H++[B.cells [T.sl SK.nil []]]++[y,x])[f+2]?=some x:=fun x y=>by
  rw[List.getElem?_append_right (by omega),a1]
  have:f+2-(f+1)=1:=by omega
  rw[this];rfl
 have VX:∀x y:B,(H++[B.cells [T.sl SK.nil []]]++[y,x]).length=f+3:=fun x y=>by simp[tG]
 have QB:∀(x y:B) (a:Nat) z,H[a]?=some z→(H++[B.cells [T.sl SK.nil []]]++[y,x])[a]?=some z:=fun x y a z hz=>by
  have:=aQ hz
  rw[aR (by omega),aR (by omega)];exact hz
 refine W.use (QA (hb:=kH _ _) es c (f+2) mb _ (fun cn H'=>At H' fun H'=>∃t,H'[f]?=some (.cells [t])∧lB eS 1 (f+4) H' t cn∧H'[f+1]?=some .AR∧∀(a:Nat) y,H[a]?=some y→a≠mb→H'[a]?=some y) rfl fH ?_ (QB _ _ _ _ hc) (QB _ _ _ _ hm) ?_ ?_ ?_) ?_
 ·refine .i ⟨.sl .nil [],?_,kY _ _ _ _,?_,fun a y hy _=>QB _ _ _ _ hy⟩
  ·rw[aR (by omega),aE (by omega)]
  ·rw[aE (by omega)]
 ·rintro cn H' y⟨t,h1,h2,h3,h4⟩
  refine .i ⟨t,by rw[bm (by omega)];exact h1,?_,by rw[bm (by omega)];exact h3,fun a z hz ha=>by rw[bm (Ne.symm ha)];exact h4 a z hz ha⟩
  rcases h2 with h2|⟨d,e1,e2,e3⟩
  ·exact .inl h2
  ·exact .inr ⟨d,e1,by rw[bm (by omega)];exact e2,e3⟩
 ·rintro cn H' l⟨t,h1,h2,h3,h4⟩
  exact .i ⟨t,by rw[aR (aQ h1)];exact h1,h2.ext ⟨_,rfl⟩,by rw[aR (aQ h3)];exact h3,fun a z hz ha=>by rw[aR (aQ (h4 a z hz ha))];exact h4 a z hz ha⟩
 ·rintro cn v H' og⟨t,h1,h2,h3,h4⟩ hb hlen
  rw[VX]at hlen
  have mf:=aQ h1
  have m1:=aQ h3
  have m2:=aQ hb
  have bF:∀a,a<f+4→∀off len m,t≠.aC a off len m:=fun a ha off len m he=>by
   rcases h2 with⟨_,e⟩|⟨d,e,_,e3⟩
   ·rw[e]at he;cases he
   ·rw[e]at he;cases he;omega
  have Gs:xv t=t:=by rcases h2 with⟨_,rfl⟩|⟨d,rfl,_⟩<;>rfl
  have hL:∀y:B,(H'.set (f+2) y).length=H'.length:=fun y=>by simp
  have kx:∀y:B,lT (H'.set (f+2) y) 1 16 t [eS v]=some (.aC (H'.length) 0 (cn++[v]).length 1,jD (H'.set (f+2) y) t++[.cells (aP eS (cn++[v]))]):=fun y=>by
   have:=yG (enc:=eS) (n:=1) (bytes:=16) (n0:=f+4) (H:=H'.set (f+2) y) (t:=t) (l:=cn) (fun _=>rfl) (by
    rcases h2 with h2|⟨d,e1,e2,e3⟩
    ·exact .inl h2
    ·refine .inr ⟨d,e1,?_,e3⟩
     first
      | (rw[aR (by rw[List.length_set];exact aQ e2),bm (by omega)];exact e2)
      | (rw[bm (by omega)];exact e2)) v (sA (by omega) (by omega))
   rw[hL]at this
   rw[this,List.length_append];rfl
  simp -implicitDefEqProofs only[eS]at kx
  have pO:∀(y:B) (a:Nat) z,H'[a]?=some z→a≠f+2→a<f+4→(jD (H'.set (f+2) y) t++[.cells (aP eS (cn++[v]))])[a]?=some z:=fun y a z hz h2 h4=>by
   have:=aQ hz
   rw[aR (by rw[kf];simp;omega),oV (bF a h4)]
   first
    | (rw[aR (by rw[List.length_set];exact this),bm (Ne.symm h2)];exact hz)
    | (rw[bm (Ne.symm h2)];exact hz)
  have n2H:¬(f+2=H'.length):=by omega
  have n2f:¬(f+2=f):=by omega
  have nHf:¬(H'.length=f):=by omega
  simp -implicitDefEqProofs only[op,ef,cl,sq,reduceIte,j2,j3,j4,j5,j6,j7,j8,j9,y1,S1,S2,jv,kN,eN]
  refine⟨_,rfl,?_,?_⟩
  ·first
    | exact hb
    | (rw[aR m2];exact hb)
  have HC:=fun y=>pO y f _ h1 (by omega) (by omega)
  have VY:∀y:B,(jD (H'.set (f+2) y) t++[.cells (aP eS (cn++[v]))])[f+2]?=some y:=fun y=>by
   rw[aR (by rw[kf];simp;omega),oV (bF _ (by omega))]
   first
    | (rw[aR (by rw[List.length_set];exact m2),bQ m2])
    | (rw[bQ m2])
  have Jv:∀y:B,(jD (H'.set (f+2) y) t++[.cells (aP eS (cn++[v]))])[H'.length]?=some (.cells (aP eS (cn++[v]))):=fun y=>by
   rw[aE (by rw[kf,hL])]
  try simp -implicitDefEqProofs only[eS]at HC
  try simp -implicitDefEqProofs only[eS]at VY
  try simp -implicitDefEqProofs only[eS]at Jv
  try simp -implicitDefEqProofs only[eS]at pO
  simp -implicitDefEqProofs only[op,ef,cl,sq,reduceIte,j2,j3,j4,j5,j6,j7,j8,j9,y1,S1,S2,List.length_set,r2,mf,m2,n2H,n2f,nHf,h1,Gs,kx,HC]
  refine⟨_,rfl,by rw[bm (by omega)];exact VY _,.i ⟨_,by rw[bm (by omega),bQ (aQ (HC _))],.inr ⟨_,rfl,by rw[bm (by omega),bm (by omega)];exact Jv _,by omega⟩,by rw[bm (by omega),bm (by omega)];exact pO _ _ _ h3 (by omega) (by omega),fun a y hy ha=>?_⟩,fun a y hy ha=>?_⟩
  ·have:=aQ hy
   rw[bm (by omega),bm (by omega)];exact pO _ _ _ (h4 a y hy ha) (by omega) (by omega)
  ·rw[VX]at ha
   rw[bm (by omega)];exact pO _ _ _ hy (by omega) (by omega)
 ·rintro o H'⟨cn,⟨t,h1,h2,h3,h4⟩,mX,hb,rA⟩
  refine⟨hb,?_⟩
  have k2:¬(f+2=f+1):=by omega
  have n20:¬(f+2=f):=by omega
  simp -implicitDefEqProofs only[op,ef,cl,sq,reduceIte,j2,j3,j4,j5,j6,j7,j8,j9,y1,S1,S2,r2,n20,h1]
  refine Gr (b:=f+1) (by simp -implicitDefEqProofs only[op,ef,cl,sq,reduceIte,j2,j3,j4,j5,j6,j7,j8,j9,y1,S1]) (by rw[bm (by omega)];exact h3) ?_
  simp -implicitDefEqProofs only[op,ef,cl,sq,reduceIte,j2,j3,j4,j5,j6,j7,j8,j9,y1,S1]
  refine⟨nZ fun a y hy=>?_,t,cn,rfl,?_,mX⟩
  ·have:=aQ hy
   rw[bm (by omega),bm (by omega)]
   by_cases ha:a=mb
   ·subst ha;rw[hm]at hy;cases hy;exact rA
   ·exact h4 a y hy ha
  ·rcases h2 with h2|⟨d,e1,e2,e3⟩
   ·exact .inl h2
   ·exact .inr ⟨d,e1,by rw[bm (by omega),bm (by omega)];exact e2,by omega⟩
theorem QC (es:List (Nm×T))(c mb:Nat)(H:af)(fH:(es.map (·.1)).Nodup)(jm:es.length≤8000000)(hc:H[c]?=some (.cells [.map mb]))(hm:H[mb]?=some (.map (bl kN es))) :
  W env (.call 92 [.fn 94 [.ptr c 0]]) H (Ls eN 2 es H):=by
 refine W.bA rfl rfl rfl ?_
 simp -implicitDefEqProofs only[Qj,op,ef,cl,sq,reduceIte,j2,j3,j4,j5,j6,j7,j8,j9,y1,S1]
 refine ae _ _ _ _ _ _ _ _ (VW es c mb H fH jm hc hm) ?_
 rintro u H1⟨hx,t,cn,hu,h1,h2⟩
 cases hu
 simp -implicitDefEqProofs only[op,ef,cl,sq,reduceIte,j2,j3,j4,j5,j6,j7,j8,j9,y1,S1]
 exact⟨hx,_,cn,rfl,h1,h2⟩
theorem QD (es:List (ByteArray×T))(c mb:Nat)(H:af)(fH:(es.map (·.1)).Nodup)(jm:es.length≤8000000)(hc:H[c]?=some (.cells [.map mb]))(hm:H[mb]?=some (.map (bl T.str es))) :
  W env (.call 98 [.fn 100 [.ptr c 0]]) H (Ls eS 1 es H):=by
 refine W.bA rfl rfl rfl ?_
 simp -implicitDefEqProofs only[Qo,op,ef,cl,sq,reduceIte,j2,j3,j4,j5,j6,j7,j8,j9,y1,S1]
 refine ae _ _ _ _ _ _ _ _ (VZ es c mb H fH jm hc hm) ?_
 rintro u H1⟨hx,t,cn,hu,h1,h2⟩
 cases hu
 simp -implicitDefEqProofs only[op,ef,cl,sq,reduceIte,j2,j3,j4,j5,j6,j7,j8,j9,y1,S1]
 exact⟨hx,_,cn,rfl,h1,h2⟩
theorem jE {α:Type}[Inhabited α]{d:Array α}{i:Nat}(h:i<d.size):d.toList[i]?=some d[i]!:=by
 rw[Array.getElem?_toList,Array.getElem?_eq_getElem h,getElem!_pos d i h]
theorem yH {α:Type}[Inhabited α](d:Array α)(i j:Nat):(Go.Sort.swp d i j).toList=(d.toList.set i d[j]!).set j d[i]!:=by
 simp[Go.Sort.swp,Array.toList_setIfInBounds]
theorem swp_size {α:Type}[Inhabited α](d:Array α)(i j:Nat):(Go.Sort.swp d i j).size=d.size:=by simp[Go.Sort.swp]
def a0 (a b:Nm):Bool:=decide (dX a b<0)
def acX (c:Nat)(d':Array Nm)(H:af):Out→af→Prop:=fun o H'=>o=.val (.bC [])∧H'[c]?=some (.cells (aP eN d'.toList))∧a6 (fun x=>x=c) H H'
theorem v9 {Hx:af}{c:Nat}(d:Array Nm){i j:Nat}(hi:i<d.size)(hj:j<d.size) :
  qD Hx c [.str d[j]!.1,.int .u64 d[j]!.2] (i*2) (some (.cells (aP eN d.toList)))=some (Hx.set c (.cells (aP eN (d.toList.set i d[j]!)))) ∧
  ∀Hy,qD Hy c [.str d[i]!.1,.int .u64 d[i]!.2] (j*2) (some (.cells (aP eN (d.toList.set i d[j]!))))=some (Hy.set c (.cells (aP eN (Go.Sort.swp d i j).toList))):=by
 have g1:=mT (enc:=eN) (n:=2) (y:=d[j]!) (fun _=>rfl) (jE hi) Hx c (eN d[j]!) 0 (by simp[eN]) (by simp[eN])
 obtain⟨z,hz⟩:=bM (l:=d.toList.set i d[j]!) (i:=j) (by simpa using hj)
 have g2:=fun Hy=>mT (enc:=eN) (n:=2) (y:=d[i]!) (fun _=>rfl) hz Hy c (eN d[i]!) 0 (by simp[eN]) (by simp[eN])
 refine⟨by simpa[eN]using g1,fun Hy=>?_⟩
 rw[yH]
 simpa[eN]using g2 Hy
theorem HD {d:Array Nm}{i:Nat}(h:i<d.size):mr 2 (i*2) (some (.cells (aP eN d.toList)))=some [.str d[i]!.1,.int .u64 d[i]!.2]:=by
 have:=eD (enc:=eN) (n:=2) (fun _=>rfl) (jE h) 0 2 (by decide)
 simpa[eN]using this
open Go.Sort in
theorem V0 (c:Nat)(d:Array Nm)(a b:Nat)(H:af)(hc:H[c]?=some (.cells (aP eN d.toList)))(hb:b≤d.size)(gY:a≤b)(hs:d.size<4611686018427387903) :
  W env (.call 132 [.aC c 0 d.size 2,.int .i64 a,.int .i64 b,.fn 61 []]) H (acX c (insertionSort a0 d a b) H):=by
 refine W.bA rfl rfl rfl ?_
 have wa:=aw (show a<9223372036854775807 by omega)
 simp -implicitDefEqProofs only[BK,op,ef,cl,sq,reduceIte,j2,j3,j4,j5,j6,j7,j8,j9,y1,S1,wa]
 refine W.cO (fun (i:Nat) R H'=>At H' (fun H'=>∃di:Array Nm,H'[c]?=some (.cells (aP eN di.toList))∧di.size=d.size∧insOuter a0 a b i di=insertionSort a0 d a b∧a6 (fun x=>x=c) H H')∧R 0=.aC c 0 d.size 2∧R 1=.int .i64 a∧R 2=.int .i64 b∧R 3=.fn 61 []∧R 8=.int .i64 i∧a+1≤i) (fun i=>b-i) (a+1) ⟨.i ⟨d,hc,rfl,rfl,a6.refl _ _⟩,rfl,rfl,rfl,rfl,rfl,Nat.le_refl _⟩ ?_
 rintro i R H1⟨⟨di,hd,bg,Af,av⟩,h0,h1,h2,h3,h8,xm⟩
 by_cases aq:i<b
 ·have wi:=aw (show i<9223372036854775807 by omega)
  simp -implicitDefEqProofs only[op,ef,cl,sq,reduceIte,j2,j3,j4,j5,j6,j7,j8,j9,y1,S1,h0,h1,h2,h3,h8,aq]
  refine W.cV 2 (fun (j:Nat) R H'=>At H' (fun H'=>∃dj:Array Nm,H'[c]?=some (.cells (aP eN dj.toList))∧dj.size=d.size∧insInner a0 a j dj=insInner a0 a i di∧a6 (fun x=>x=c) H H')∧R 0=.aC c 0 d.size 2∧R 1=.int .i64 a∧R 2=.int .i64 b∧R 3=.fn 61 []∧R 8=.int .i64 i∧R 9=.int .i64 j∧j≤i) (fun j=>j) i
   (fun R H'=>At H' (fun H'=>∃dj:Array Nm,H'[c]?=some (.cells (aP eN dj.toList))∧dj.size=d.size∧dj=insInner a0 a i di∧a6 (fun x=>x=c) H H')∧R 0=.aC c 0 d.size 2∧R 1=.int .i64 a∧R 2=.int .i64 b∧R 3=.fn 61 []∧R 8=.int .i64 i) ?_ ?_ ?_
  ·refine⟨.i ⟨di,hd,bg,rfl,av⟩,?_,?_,?_,?_,?_,?_,Nat.le_refl _⟩
   all_goals (simp -implicitDefEqProofs only[op,ef,cl,sq,reduceIte,j2,j3,j4,j5,j6,j7,j8,j9,y1,S1,h0,h1,h2,h3,h8])
  ·rintro j R H2⟨⟨dj,cE,qI,sF,lf⟩,q0,q1,q2,q3,q8,q9,TK⟩
   by_cases QE:a<j
   ·obtain⟨j',rfl⟩:∃j',j=j'+1:=⟨j-1,by omega⟩
    have wp:IntKind.i64.wrap (((j'+1:Nat):Int)-1)=(j':Int):=by rw[wrap64 (by omega)];omega
    have j1:j'+1<d.size:=by omega
    have j0:j'<d.size:=by omega
    have i1:dK 2 (j'+1) (.aC c 0 d.size 2)=some (.ptr c ((j'+1)*2)):=by rw[lA];simp[j1]
    have i0:dK 2 j' (.aC c 0 d.size 2)=some (.ptr c (j'*2)):=by rw[lA];simp[j0]
    have v1:=HD (d:=dj) (i:=j'+1) (by omega)
    have v0:=HD (d:=dj) (i:=j') (by omega)
    simp -implicitDefEqProofs only[op,ef,cl,sq,reduceIte,j2,j3,j4,j5,j6,j7,j8,j9,y1,S1,q0,q1,q2,q3,q8,q9,QE,aa,i1,i0,wp,cE,v1,v0]
    refine mq _ _ _ _ _ _ _ (by simp -implicitDefEqProofs only[op,ef,cl,sq,reduceIte,j2,j3,j4,j5,j6,j7,j8,j9,y1,S1]) ?_
    simp -implicitDefEqProofs only[op,ef,cl,sq,reduceIte,j2,j3,j4,j5,j6,j7,j8,j9,y1,S1,cG,q0,q1,q2,q3,q8,q9,List.append_nil]
    refine ae _ _ _ _ _ _ _ _ (cw dj[j'+1]! dj[j']! _) ?_
    rintro u H3⟨hu,hx⟩
    cases hu
    have hx:Ext H2 H3:=hx
    have oW:=hx.get cE
    obtain⟨s1,s2⟩:=v9 (Hx:=H3) (c:=c) dj (i:=j'+1) (j:=j') (by omega) (by omega)
    have V1:a6 (fun x=>x=c) H H3:=lf.trans (aB (F:=fun _=>False) hx) (fun _ h=>h.elim)
    have ltd:a0 dj[j'+1]! dj[j']! = decide (dX dj[j'+1]! dj[j']!<0):=rfl
    by_cases nI:dX dj[j'+1]! dj[j']!<0
    ·simp -implicitDefEqProofs only[op,ef,cl,sq,reduceIte,j2,j3,j4,j5,j6,j7,j8,j9,y1,S1,q0,q1,q2,q3,q8,q9,nI,aa,i1,i0,wp,oW,v1,v0,s1,S2,s2,aQ oW]
     exact⟨j',by omega,.i ⟨swp dj (j'+1) j',bQ (by rw[List.length_set];exact aQ oW),by rw[swp_size];exact qI,by rw[←sF];conv=>{ rhs;rw[insInner,if_pos (by simp -implicitDefEqProofs only[Bool.and_eq_true,decide_eq_true_eq,ltd];exact⟨QE,nI⟩)] },(V1.set (.inl rfl) _).set (.inl rfl) _⟩,rfl,by omega⟩
    ·simp -implicitDefEqProofs only[op,ef,cl,sq,reduceIte,j2,j3,j4,j5,j6,j7,j8,j9,y1,S1,q0,q1,q2,q3,q8,q9,nI]
     exact .i ⟨dj,oW,qI,by rw[←sF,insInner,ltd];simp[nI],V1⟩
   ·simp -implicitDefEqProofs only[op,ef,cl,sq,reduceIte,j2,j3,j4,j5,j6,j7,j8,j9,y1,S1,q0,q1,q2,q3,q8,q9,QE]
    refine .i ⟨dj,cE,qI,?_,lf⟩
    rw[←sF]
    cases j with
    | zero=>rfl
    | succ j=>rw[insInner,if_neg (by simp -implicitDefEqProofs only[Bool.and_eq_true,decide_eq_true_eq];omega)]
  ·rintro R H2⟨⟨dj,cE,qI,sF,lf⟩,q0,q1,q2,q3,q8⟩
   simp -implicitDefEqProofs only[op,ef,cl,sq,reduceIte,j2,j3,j4,j5,j6,j7,j8,j9,y1,S1,q0,q1,q2,q3,q8,wi]
   refine⟨i+1,by omega,.i ⟨dj,cE,qI,?_,lf⟩,rfl,by omega⟩
   rw[←Af,sF]
   conv=>rhs;rw[insOuter,if_pos aq]
 ·simp -implicitDefEqProofs only[op,ef,cl,sq,reduceIte,j2,j3,j4,j5,j6,j7,j8,j9,y1,S1,h0,h1,h2,h3,h8,aq]
  rw[insOuter,if_neg aq]at Af
  subst Af
  exact⟨rfl,hd,av⟩
theorem Lt {β:Type}{K:Option β→Prop}{A:Array UInt8}{n:Nat}(hn:n<A.size)(f:UInt8→β)(h:∀c,K (some (f c))):K (Option.map f A[n]?):=by rw[Array.getElem?_eq_getElem hn];exact h _
theorem V2 (n:Nat)(hn:n<256)(H:af):W env (.call 118 [.int .u64 n]) H (fun o H'=>H'=H∧∃m:Nat,o=.val (.int .i64 m)):=by
 refine W.bA rfl rfl rfl ?_
 simp -implicitDefEqProofs only[BJ,op,ef,cl,sq,reduceIte,j2,j3,j4,j5,j6,j7,j8,j9,y1,S1]
 refine ae _ _ _ _ _ _ _ (fun o H'=>H'=H∧∃m:Nat,o=.val (.int .i64 m)) ?_ ?_
 ·refine W.bA rfl rfl rfl ?_
  have h1:¬(4294967296≤n):=by omega
  have h2:¬(65536≤n):=by omega
  have h3:¬(256≤n):=by omega
  have QF:=yz hn
  simp -implicitDefEqProofs only[uY,op,ef,cl,sq,reduceIte,j2,j3,j4,j5,j6,j7,j8,j9,y1,S1,h1,h2,h3,QF,aa]
  refine Lt (K:=mo env _ _ _ _ _ _ _ _) (by show n<256;exact hn) _ fun ch=>?_
  have D2:ch.toNat<256:=ch.toNat_lt
  have wc:IntKind.i64.wrap ((ch.toNat:Nat):Int)=((ch.toNat:Nat):Int):=wrap64 (by omega)
  have wc2:IntKind.i64.wrap (0+((ch.toNat:Nat):Int))=((ch.toNat:Nat):Int):=by rw[wrap64 (by omega)];omega
  simp -implicitDefEqProofs only[op,ef,cl,sq,reduceIte,j2,j3,j4,j5,j6,j7,j8,j9,y1,S1,wc,wc2]
  exact⟨ch.toNat,rfl⟩
 ·rintro u H'⟨rfl,m,hu⟩
  cases hu
  simp -implicitDefEqProofs only[op,ef,cl,sq,reduceIte,j2,j3,j4,j5,j6,j7,j8,j9,y1,S1]
  exact⟨m,rfl⟩
set_option maxHeartbeats 8000000
theorem wA {a b:Nat}(h:a+b<9223372036854775808):IntKind.i64.wrap ((a:Int)+(b:Int))=((a+b:Nat):Int):=by rw[wrap64 (by omega)];omega
theorem bf {a:Nat}(h:a+1<9223372036854775808):IntKind.i64.wrap ((a:Int)+1)=((a+1:Nat):Int):=by rw[wrap64 (by omega)];omega
theorem wS {a b:Nat}(h:b≤a∧a<9223372036854775808):IntKind.i64.wrap ((a:Int)-(b:Int))=((a-b:Nat):Int):=by rw[wrap64 (by omega)];omega
theorem ba {a:Nat}(h:1≤a∧a<9223372036854775808):IntKind.i64.wrap ((a:Int)-1)=((a-1:Nat):Int):=by rw[wrap64 (by omega)];omega
theorem wM {a:Nat}(h:2*a<9223372036854775808):IntKind.i64.wrap (2*(a:Int))=((2*a:Nat):Int):=by rw[wrap64 (by omega)];omega
section
variable {c n i j:Nat} {d:Array Nm}
theorem aU (h:i<n):dK 2 i (.aC c 0 n 2)=some (.ptr c (i*2)):=by rw[lA];simp[h]
theorem sG {l:List Nm}:(aP eN l).length=l.length*2:=by rw[dy (n:=2) (fun _=>rfl)]
theorem aV (h:i<d.size):(i*2+2≤(aP eN d.toList).length)=True:=by rw[sG];simp;omega
theorem aW (h:i<d.size):List.take 2 (List.drop (i*2) (aP eN d.toList))=[.str d[i]!.1,.int .u64 d[i]!.2]:=by
 have:=HD h
 rw[nW,if_pos (by rw[sG];simp;omega)]at this
 exact Option.some.inj this
theorem aX {x:Nm}(h:i<d.size):(i*2+2≤(aP eN (d.toList.set j x)).length)=True:=by rw[sG];simp;omega
theorem aY (h:i<d.size)(h':j<d.size):(List.take (i*2) (aP eN d.toList)++[.str d[j]!.1,.int .u64 d[j]!.2])++List.drop (i*2+2) (aP eN d.toList)=aP eN (d.toList.set i d[j]!):=by
 have:=(v9 (Hx:=[.cells []]) (c:=0) d h h').1
 rw[jb,if_pos (by rw[sG];simp;omega)]at this
 simpa using this
theorem aZ (h:i<d.size)(h':j<d.size):(List.take (j*2) (aP eN (d.toList.set i d[j]!))++[.str d[i]!.1,.int .u64 d[i]!.2])++List.drop (j*2+2) (aP eN (d.toList.set i d[j]!))=aP eN (Go.Sort.swp d i j).toList:=by
 have:=(v9 (Hx:=[.cells []]) (c:=0) d h h').2 [.cells []]
 rw[jb,if_pos (by rw[sG];simp;omega)]at this
 simpa using this
end
theorem cA {p:Prop}[Decidable p](h:p):decide p=true:=decide_eq_true h
theorem cy {p:Prop}[Decidable p](h:¬p):decide p=false:=decide_eq_false h
theorem gu {a b:Bool}(h:a=true)(h':b=true):(a&&b)=true:=by rw[h,h'];rfl
theorem dC {a b:Bool}(h:a=false):¬((a&&b)=true):=by rw[h];simp
theorem eu {a b:Bool}(h:b=false):¬((a&&b)=true):=by rw[h];simp
theorem lD {a:Bool}(h:a=true):¬((!a)=true):=by rw[h];simp
theorem fD {a:Bool}(h:a=false):(!a)=true:=by rw[h];rfl
def SC (c n:Nat)(H:af)(P:Array Nm→Prop)(H':af):Prop:=∃d:Array Nm,H'[c]?=some (.cells (aP eN d.toList))∧d.size=n∧P d∧a6 (fun x=>x=c) H H'
theorem SC.swp {c n:Nat}{H H1:af}{P:Array Nm→Prop}{y x:B}{d':Array Nm}(hd:H1[c]?=some y)(hs:d'.size=n)(hP:P d')(hf:a6 (fun x=>x=c) H H1):SC c n H P ((H1.set c x).set c (.cells (aP eN d'.toList))) :=
 ⟨d',bQ (by rw[List.length_set];exact aQ hd),hs,hP,(hf.set (.inl rfl) _).set (.inl rfl) _⟩
def Ag (c n:Nat)(d':Array Nm)(H:af):Out→af→Prop:=fun o H'=>o=.val (.bC [])∧SC c n H (fun x=>x=d') H'
open Go.Sort in
theorem V3 (c n:Nat)(d:Array Nm)(a b:Nat)(H:af)(hn:d.size=n)(hc:H[c]?=some (.cells (aP eN d.toList)))(hb:b≤n)(gY:a<b)(hs:n<4611686018427387903) :
  W env (.call 136 [.aC c 0 n 2,.int .i64 a,.int .i64 b,.fn 61 []]) H (Ag c n (reverseRange d a b) H):=by
 refine W.bA rfl rfl rfl ?_
 simp -implicitDefEqProofs (maxSteps:=1000000) (disch:=omega) only[GZ,op,ef,cl,sq,reduceIte,j2,j3,j4,j5,j6,j7,j8,j9,y1,S1,ba]
 refine W.cO (fun (i:Nat) R H'=>At H' (fun H'=>∃j,R 9=.int .i64 (j:Nat)∧i+j=a+b-1∧a≤i∧SC c n H (fun di=>reverseLoop i j di=reverseRange d a b) H')∧R 0=.aC c 0 n 2∧R 8=.int .i64 i) (fun i=>a+b-i) a ⟨.i ⟨b-1,rfl,by omega,Nat.le_refl _,d,hc,hn,rfl,a6.refl _ _⟩,rfl,rfl⟩ ?_
 rintro i R H1⟨⟨j,h9,sB,HE,di,hd,bg,Ah,av⟩,h0,h8⟩
 have lc:=aQ hd
 by_cases aq:i<j
 ·simp -implicitDefEqProofs (maxSteps:=1000000) (disch:=omega) only[aa,aU,aV,aW,aX,aY,aZ,wA,bf,wS,ba,wM,S2,op,ef,cl,sq,reduceIte,j2,j3,j4,j5,j6,j7,j8,j9,y1,S1,h0,h8,h9,aq,hd,lc]
  exact⟨i+1,by omega,.i ⟨j-1,rfl,by omega,by omega,.swp hd (by rw[swp_size];exact bg) (by rw[←Ah];conv=>{ rhs;rw[reverseLoop,if_pos aq] }) av⟩,rfl⟩
 ·simp -implicitDefEqProofs only[op,ef,cl,sq,reduceIte,j2,j3,j4,j5,j6,j7,j8,j9,y1,S1,h0,h8,h9,aq]
  rw[reverseLoop,if_neg aq]at Ah
  exact⟨rfl,di,hd,bg,Ah,av⟩
set_option maxHeartbeats 8000000
open Go.Sort in
theorem HF (c n:Nat)(d:Array Nm)(lo hi first:Nat)(H:af)(hn:d.size=n)(hc:H[c]?=some (.cells (aP eN d.toList)))(hb:first+hi≤n)(lG:lo≤n)(hs:n<2305843009213693951) :
  W env (.call 153 [.aC c 0 n 2,.int .i64 lo,.int .i64 hi,.int .i64 first,.fn 61 []]) H (Ag c n (siftDown a0 hi first lo d) H):=by
 refine W.bA rfl rfl rfl ?_
 simp -implicitDefEqProofs only[Hb,op,ef,cl,sq,reduceIte,j2,j3,j4,j5,j6,j7,j8,j9,y1,S1]
 refine W.cO (fun (r:Nat) R H'=>At H' (fun H'=>SC c n H (fun di=>siftDown a0 hi first r di=siftDown a0 hi first lo d) H')∧R 0=.aC c 0 n 2∧R 2=.int .i64 hi∧R 3=.int .i64 first∧R 4=.fn 61 []∧R 10=.int .i64 r∧r≤n) (fun r=>hi-r) lo ⟨.i ⟨d,hc,hn,rfl,a6.refl _ _⟩,rfl,rfl,rfl,rfl,rfl,lG⟩ ?_
 rintro r R H1⟨⟨di,hd,bg,hP,av⟩,h0,h2,h3,h4,aG,hr⟩
 have lc:=aQ hd
 by_cases eQ:2*r+1≥hi
 ·simp -implicitDefEqProofs (maxSteps:=1000000) (disch:=omega) only[aa,aU,aV,aW,aX,aY,aZ,wA,bf,wS,ba,wM,S2,op,ef,cl,sq,reduceIte,j2,j3,j4,j5,j6,j7,j8,j9,y1,S1,h0,h2,h3,h4,aG,eQ]
  rw[siftDown,dif_pos eQ]at hP
  exact⟨rfl,di,hd,bg,hP,av⟩
 by_cases dD:2*r+1+1<hi
 ·simp -implicitDefEqProofs (maxSteps:=1000000) (disch:=omega) only[aa,aU,aV,aW,aX,aY,aZ,wA,bf,wS,ba,wM,S2,op,ef,cl,sq,reduceIte,j2,j3,j4,j5,j6,j7,j8,j9,y1,S1,h0,h2,h3,h4,aG,eQ,dD,hd,lc]
  refine mq _ _ _ _ _ _ _ (by simp -implicitDefEqProofs (maxSteps:=1000000) (disch:=omega) only[aa,aU,aV,aW,aX,aY,aZ,wA,bf,wS,ba,wM,S2,op,ef,cl,sq,reduceIte,j2,j3,j4,j5,j6,j7,j8,j9,y1,S1,h0,h2,h3,h4,aG,eQ,dD,hd,lc]) ?_
  simp -implicitDefEqProofs (maxSteps:=1000000) (disch:=omega) only[aa,aU,aV,aW,aX,aY,aZ,wA,bf,wS,ba,wM,S2,op,ef,cl,sq,reduceIte,j2,j3,j4,j5,j6,j7,j8,j9,y1,S1,cG,h0,h2,h3,h4,aG,eQ,dD,hd,lc,List.append_nil]
  refine ae _ _ _ _ _ _ _ _ (cw di[first+(2*r+1)]! di[first+(2*r+1)+1]! _) ?_
  rintro u H2⟨hu,hx⟩
  cases hu
  have hx:Ext H1 H2:=hx
  have hd:=hx.get hd
  have lc:=aQ hd
  have av:=av.trans (aB (F:=fun _=>False) hx) (fun _ h=>h.elim)
  have du:a0 di[first+(2*r+1)]! di[first+(2*r+1)+1]! = decide (dX di[first+(2*r+1)]! di[first+(2*r+1)+1]!<0):=rfl
  by_cases c1:dX di[first+(2*r+1)]! di[first+(2*r+1)+1]!<0
  ·simp -implicitDefEqProofs (maxSteps:=1000000) (disch:=omega) only[aa,aU,aV,aW,aX,aY,aZ,wA,bf,wS,ba,wM,S2,op,ef,cl,sq,reduceIte,j2,j3,j4,j5,j6,j7,j8,j9,y1,S1,h0,h2,h3,h4,aG,eQ,dD,hd,lc,c1]
   refine mq _ _ _ _ _ _ _ (by simp -implicitDefEqProofs (maxSteps:=1000000) (disch:=omega) only[aa,aU,aV,aW,aX,aY,aZ,wA,bf,wS,ba,wM,S2,op,ef,cl,sq,reduceIte,j2,j3,j4,j5,j6,j7,j8,j9,y1,S1,h0,h2,h3,h4,aG,eQ,dD,hd,lc]) ?_
   simp -implicitDefEqProofs (maxSteps:=1000000) (disch:=omega) only[aa,aU,aV,aW,aX,aY,aZ,wA,bf,wS,ba,wM,S2,op,ef,cl,sq,reduceIte,j2,j3,j4,j5,j6,j7,j8,j9,y1,S1,cG,h0,h2,h3,h4,aG,eQ,dD,hd,lc,List.append_nil]
   refine ae _ _ _ _ _ _ _ _ (cw di[first+r]! di[first+(2*r+1+1)]! _) ?_
   rintro u H3⟨hu,hx⟩
   cases hu
   have hx:Ext H2 H3:=hx
   have hd:=hx.get hd
   have lc:=aQ hd
   have av:=av.trans (aB (F:=fun _=>False) hx) (fun _ h=>h.elim)
   have yI:a0 di[first+r]! di[first+(2*r+1+1)]! = decide (dX di[first+r]! di[first+(2*r+1+1)]!<0):=rfl
   by_cases c2:dX di[first+r]! di[first+(2*r+1+1)]!<0
   ·simp -implicitDefEqProofs (maxSteps:=1000000) (disch:=omega) only[aa,aU,aV,aW,aX,aY,aZ,wA,bf,wS,ba,wM,S2,op,ef,cl,sq,reduceIte,j2,j3,j4,j5,j6,j7,j8,j9,y1,S1,h0,h2,h3,h4,aG,eQ,dD,hd,lc,c2]
    refine⟨2*r+1+1,by omega,.i (.swp hd (by rw[swp_size];exact bg) ?_ av),rfl,by omega⟩
    rw[←hP]
    conv=>{ rhs;rw[siftDown,dif_neg eQ,if_pos (gu (cA dD) (du.trans (cA c1))),if_neg (lD (yI.trans (cA c2))),dif_pos dD] }
   ·simp -implicitDefEqProofs (maxSteps:=1000000) (disch:=omega) only[aa,aU,aV,aW,aX,aY,aZ,wA,bf,wS,ba,wM,S2,op,ef,cl,sq,reduceIte,j2,j3,j4,j5,j6,j7,j8,j9,y1,S1,h0,h2,h3,h4,aG,eQ,dD,hd,lc,c2]
    rw[siftDown,dif_neg eQ,if_pos (gu (cA dD) (du.trans (cA c1))),if_pos (fD (yI.trans (cy c2)))]at hP
    exact⟨rfl,di,hd,bg,hP,av⟩
  ·simp -implicitDefEqProofs (maxSteps:=1000000) (disch:=omega) only[aa,aU,aV,aW,aX,aY,aZ,wA,bf,wS,ba,wM,S2,op,ef,cl,sq,reduceIte,j2,j3,j4,j5,j6,j7,j8,j9,y1,S1,h0,h2,h3,h4,aG,eQ,dD,hd,lc,c1]
   refine mq _ _ _ _ _ _ _ (by simp -implicitDefEqProofs (maxSteps:=1000000) (disch:=omega) only[aa,aU,aV,aW,aX,aY,aZ,wA,bf,wS,ba,wM,S2,op,ef,cl,sq,reduceIte,j2,j3,j4,j5,j6,j7,j8,j9,y1,S1,h0,h2,h3,h4,aG,eQ,dD,hd,lc]) ?_
   simp -implicitDefEqProofs (maxSteps:=1000000) (disch:=omega) only[aa,aU,aV,aW,aX,aY,aZ,wA,bf,wS,ba,wM,S2,op,ef,cl,sq,reduceIte,j2,j3,j4,j5,j6,j7,j8,j9,y1,S1,cG,h0,h2,h3,h4,aG,eQ,dD,hd,lc,List.append_nil]
   refine ae _ _ _ _ _ _ _ _ (cw di[first+r]! di[first+(2*r+1)]! _) ?_
   rintro u H3⟨hu,hx⟩
   cases hu
   have hx:Ext H2 H3:=hx
   have hd:=hx.get hd
   have lc:=aQ hd
   have av:=av.trans (aB (F:=fun _=>False) hx) (fun _ h=>h.elim)
   have yI:a0 di[first+r]! di[first+(2*r+1)]! = decide (dX di[first+r]! di[first+(2*r+1)]!<0):=rfl
   by_cases c2:dX di[first+r]! di[first+(2*r+1)]!<0
   ·simp -implicitDefEqProofs (maxSteps:=1000000) (disch:=omega) only[aa,aU,aV,aW,aX,aY,aZ,wA,bf,wS,ba,wM,S2,op,ef,cl,sq,reduceIte,j2,j3,j4,j5,j6,j7,j8,j9,y1,S1,h0,h2,h3,h4,aG,eQ,dD,hd,lc,c2]
    refine⟨2*r+1,by omega,.i (.swp hd (by rw[swp_size];exact bg) ?_ av),rfl,by omega⟩
    rw[←hP]
    conv=>{ rhs;rw[siftDown,dif_neg eQ,if_neg (eu (du.trans (cy c1))),if_neg (lD (yI.trans (cA c2)))] }
   ·simp -implicitDefEqProofs (maxSteps:=1000000) (disch:=omega) only[aa,aU,aV,aW,aX,aY,aZ,wA,bf,wS,ba,wM,S2,op,ef,cl,sq,reduceIte,j2,j3,j4,j5,j6,j7,j8,j9,y1,S1,h0,h2,h3,h4,aG,eQ,dD,hd,lc,c2]
    rw[siftDown,dif_neg eQ,if_neg (eu (du.trans (cy c1))),if_pos (fD (yI.trans (cy c2)))]at hP
    exact⟨rfl,di,hd,bg,hP,av⟩
 ·simp -implicitDefEqProofs (maxSteps:=1000000) (disch:=omega) only[aa,aU,aV,aW,aX,aY,aZ,wA,bf,wS,ba,wM,S2,op,ef,cl,sq,reduceIte,j2,j3,j4,j5,j6,j7,j8,j9,y1,S1,h0,h2,h3,h4,aG,eQ,dD,hd,lc]
  simp -implicitDefEqProofs only[op,ef,cl,sq,reduceIte,j2,j3,j4,j5,j6,j7,j8,j9,y1,S1]
  simp -implicitDefEqProofs (maxSteps:=1000000) (disch:=omega) only[aa,aU,aV,aW,aX,aY,aZ,wA,bf,wS,ba,wM,S2,op,ef,cl,sq,reduceIte,j2,j3,j4,j5,j6,j7,j8,j9,y1,S1,h0,h2,h3,h4,aG,eQ,dD,hd,lc]
  refine mq _ _ _ _ _ _ _ (by simp -implicitDefEqProofs (maxSteps:=1000000) (disch:=omega) only[aa,aU,aV,aW,aX,aY,aZ,wA,bf,wS,ba,wM,S2,op,ef,cl,sq,reduceIte,j2,j3,j4,j5,j6,j7,j8,j9,y1,S1,h0,h2,h3,h4,aG,eQ,dD,hd,lc]) ?_
  simp -implicitDefEqProofs (maxSteps:=1000000) (disch:=omega) only[aa,aU,aV,aW,aX,aY,aZ,wA,bf,wS,ba,wM,S2,op,ef,cl,sq,reduceIte,j2,j3,j4,j5,j6,j7,j8,j9,y1,S1,cG,h0,h2,h3,h4,aG,eQ,dD,hd,lc,List.append_nil]
  refine ae _ _ _ _ _ _ _ _ (cw di[first+r]! di[first+(2*r+1)]! _) ?_
  rintro u H3⟨hu,hx⟩
  cases hu
  have hx:Ext H1 H3:=hx
  have hd:=hx.get hd
  have lc:=aQ hd
  have av:=av.trans (aB (F:=fun _=>False) hx) (fun _ h=>h.elim)
  have yI:a0 di[first+r]! di[first+(2*r+1)]! = decide (dX di[first+r]! di[first+(2*r+1)]!<0):=rfl
  by_cases c2:dX di[first+r]! di[first+(2*r+1)]!<0
  ·simp -implicitDefEqProofs (maxSteps:=1000000) (disch:=omega) only[aa,aU,aV,aW,aX,aY,aZ,wA,bf,wS,ba,wM,S2,op,ef,cl,sq,reduceIte,j2,j3,j4,j5,j6,j7,j8,j9,y1,S1,h0,h2,h3,h4,aG,eQ,dD,hd,lc,c2]
   refine⟨2*r+1,by omega,.i (.swp hd (by rw[swp_size];exact bg) ?_ av),rfl,by omega⟩
   rw[←hP]
   conv=>{ rhs;rw[siftDown,dif_neg eQ,if_neg (dC (cy dD)),if_neg (lD (yI.trans (cA c2)))] }
  ·simp -implicitDefEqProofs (maxSteps:=1000000) (disch:=omega) only[aa,aU,aV,aW,aX,aY,aZ,wA,bf,wS,ba,wM,S2,op,ef,cl,sq,reduceIte,j2,j3,j4,j5,j6,j7,j8,j9,y1,S1,h0,h2,h3,h4,aG,eQ,dD,hd,lc,c2]
   rw[siftDown,dif_neg eQ,if_neg (dC (cy dD)),if_pos (fD (yI.trans (cy c2)))]at hP
   exact⟨rfl,di,hd,bg,hP,av⟩
set_option maxHeartbeats 8000000
theorem wQ2 {a:Nat}(h:a<9223372036854775808):IntKind.i64.wrap ((a:Int).tdiv 2)=((a/2:Nat):Int):=by rw[Int.tdiv_eq_ediv_of_nonneg (by omega),wrap64 (by omega)];omega
theorem YE {a:Nat}(h:a<9223372036854775808):IntKind.i64.wrap ((a:Int)-1)=(a:Int)-1:=wrap64 (by omega)
theorem Lu {a:Nat}:(((a:Nat):Int)≥0)=True:=by simp
open Go.Sort in
theorem QG (c n:Nat)(d:Array Nm)(a b:Nat)(H:af)(hn:d.size=n)(hc:H[c]?=some (.cells (aP eN d.toList)))(hb:b≤n)(gY:a<b)(hs:n<2305843009213693951) :
  W env (.call 133 [.aC c 0 n 2,.int .i64 a,.int .i64 b,.fn 61 []]) H (Ag c n (heapSort a0 d a b) H):=by
 refine W.bA rfl rfl rfl ?_
 simp -implicitDefEqProofs (maxSteps:=1000000) (disch:=omega) only[GX,aa,aU,aV,aW,aX,aY,aZ,wA,bf,wS,ba,wM,S2,op,ef,cl,sq,reduceIte,j2,j3,j4,j5,j6,j7,j8,j9,y1,S1,wQ2]
 refine W.cV 0 (fun (k:Nat) R H'=>At H' (fun H'=>SC c n H (fun di=>heapBuild a0 (b-a) a k di=heapBuild a0 (b-a) a ((b-a-1)/2+1) d) H')∧R 0=.aC c 0 n 2∧R 3=.fn 61 []∧R 8=.int .i64 a∧R 9=.int .i64 0∧R 10=.int .i64 (b-a:Nat)∧R 11=.int .i64 ((k:Int)-1)∧k≤b-a) (fun k=>k) ((b-a-1)/2+1)
  (fun R H'=>At H' (fun H'=>SC c n H (fun di=>di=heapBuild a0 (b-a) a ((b-a-1)/2+1) d) H')∧R 0=.aC c 0 n 2∧R 3=.fn 61 []∧R 8=.int .i64 a∧R 9=.int .i64 0∧R 10=.int .i64 (b-a:Nat))
  ⟨.i ⟨d,hc,hn,rfl,a6.refl _ _⟩,rfl,rfl,rfl,rfl,rfl,by simp[pj],by omega⟩ ?_ ?_
 ·rintro k R H1⟨⟨di,hd,bg,hP,av⟩,h0,h3,h8,h9,aG,bh,hk⟩
  cases k with
  | zero =>
   rw[show(((0:Nat):Int)-1)=-1 from rfl]at bh
   simp -implicitDefEqProofs (maxSteps:=1000000) (disch:=omega) only[aa,aU,aV,aW,aX,aY,aZ,wA,bf,wS,ba,wM,S2,op,ef,cl,sq,reduceIte,j2,j3,j4,j5,j6,j7,j8,j9,y1,S1,h0,h3,h8,h9,aG,bh]
   exact .i ⟨di,hd,bg,hP,av⟩
  | succ k =>
   rw[show(((k+1:Nat):Int)-1)=(k:Int) by omega]at bh
   simp -implicitDefEqProofs (maxSteps:=1000000) (disch:=omega) only[aa,aU,aV,aW,aX,aY,aZ,wA,bf,wS,ba,wM,S2,op,ef,cl,sq,reduceIte,j2,j3,j4,j5,j6,j7,j8,j9,y1,S1,h0,h3,h8,h9,aG,bh,Lu]
   refine ae _ _ _ _ _ _ _ _ (HF c n di k (b-a) a _ bg hd (by omega) (by omega) hs) ?_
   rintro u H2⟨hu,d2,cE,jd,rfl,ew⟩
   cases hu
   simp -implicitDefEqProofs (maxSteps:=1000000) (disch:=omega) only[YE,op,ef,cl,sq,reduceIte,j2,j3,j4,j5,j6,j7,j8,j9,y1,S1,h0,h3,h8,h9,aG,bh]
   exact⟨k,by omega,.i ⟨_,cE,jd,hP,av.trans ew fun _ h=>.inl h⟩,rfl,by omega⟩
 ·rintro R H1⟨⟨di,hd,bg,hP,av⟩,h0,h3,h8,h9,aG⟩
  simp -implicitDefEqProofs (maxSteps:=1000000) (disch:=omega) only[aa,aU,aV,aW,aX,aY,aZ,wA,bf,wS,ba,wM,S2,op,ef,cl,sq,reduceIte,j2,j3,j4,j5,j6,j7,j8,j9,y1,S1,h0,h3,h8,h9,aG]
  refine W.cO (fun (k:Nat) R H'=>At H' (fun H'=>SC c n H (fun di=>heapPop a0 a k di=heapSort a0 d a b) H')∧R 0=.aC c 0 n 2∧R 3=.fn 61 []∧R 8=.int .i64 a∧R 9=.int .i64 0∧R 10=.int .i64 (b-a:Nat)∧R 12=.int .i64 ((k:Int)-1)∧k≤b-a) (fun k=>k) (b-a) ⟨.i ⟨di,hd,bg,by rw[hP];rfl,av⟩,?_,?_,?_,?_,?_,?_,Nat.le_refl _⟩ ?_
  ·simp -implicitDefEqProofs only[op,ef,cl,sq,reduceIte,j2,j3,j4,j5,j6,j7,j8,j9,y1,S1,h0]
  ·simp -implicitDefEqProofs only[op,ef,cl,sq,reduceIte,j2,j3,j4,j5,j6,j7,j8,j9,y1,S1,h3]
  ·simp -implicitDefEqProofs only[op,ef,cl,sq,reduceIte,j2,j3,j4,j5,j6,j7,j8,j9,y1,S1,h8]
  ·simp -implicitDefEqProofs only[op,ef,cl,sq,reduceIte,j2,j3,j4,j5,j6,j7,j8,j9,y1,S1,h9]
  ·simp -implicitDefEqProofs only[op,ef,cl,sq,reduceIte,j2,j3,j4,j5,j6,j7,j8,j9,y1,S1,aG]
  ·simp -implicitDefEqProofs only[op,ef,cl,sq,reduceIte,j2,j3,j4,j5,j6,j7,j8,j9,y1,S1];omega
  rintro k R H1⟨⟨di,hd,bg,hP,av⟩,h0,h3,h8,h9,aG,aD,hk⟩
  have lc:=aQ hd
  cases k with
  | zero =>
   rw[show(((0:Nat):Int)-1)=-1 from rfl]at aD
   simp -implicitDefEqProofs (maxSteps:=1000000) (disch:=omega) only[aa,aU,aV,aW,aX,aY,aZ,wA,bf,wS,ba,wM,S2,op,ef,cl,sq,reduceIte,j2,j3,j4,j5,j6,j7,j8,j9,y1,S1,h0,h3,h8,h9,aG,aD]
   exact⟨rfl,di,hd,bg,hP,av⟩
  | succ k =>
   rw[show(((k+1:Nat):Int)-1)=(k:Int) by omega]at aD
   simp -implicitDefEqProofs (maxSteps:=1000000) (disch:=omega) only[aa,aU,aV,aW,aX,aY,aZ,wA,bf,wS,ba,wM,S2,op,ef,cl,sq,reduceIte,j2,j3,j4,j5,j6,j7,j8,j9,y1,S1,h0,h3,h8,h9,aG,aD,Lu,hd,lc]
   obtain⟨d1,qt,Ai,rfl,qa⟩:=SC.swp (n:=n) (P:=fun x=>x=swp di a (a+k)) (x:=.cells (aP eN (di.toList.set a di[a+k]!))) hd (by rw[Go.Sort.swp_size];exact bg) rfl av
   refine ae _ _ _ _ _ _ _ _ (HF c n _ 0 k a _ Ai qt (by omega) (by omega) hs) ?_
   rintro u H2⟨hu,d2,cE,jd,rfl,ew⟩
   cases hu
   simp -implicitDefEqProofs (maxSteps:=1000000) (disch:=omega) only[YE,op,ef,cl,sq,reduceIte,j2,j3,j4,j5,j6,j7,j8,j9,y1,S1,h0,h3,h8,h9,aG,aD]
   exact⟨k,by omega,.i ⟨_,cE,jd,hP,qa.trans ew fun _ h=>.inl h⟩,rfl,by omega⟩
set_option maxHeartbeats 8000000
def V4 (p:Nat)(r:Nat×Nat×Nat)(H:af):Out→af→Prop:=fun o H'=>o=.val (.bC [.int .i64 r.1,.int .i64 r.2.1])∧H'[p]?=some (.cells [.int .i64 r.2.2])∧a6 (fun x=>x=p) H H'
open Go.Sort in
theorem Aj (c n p sw:Nat)(d:Array Nm)(a b:Nat)(H:af)(hn:d.size=n)(hc:H[c]?=some (.cells (aP eN d.toList)))(hp:H[p]?=some (.cells [.int .i64 sw]))(ha:a<n)(hb:b<n)(hs:n<2305843009213693951)(QH:sw<1000) :
  W env (.call 162 [.aC c 0 n 2,.int .i64 a,.int .i64 b,.ptr p 0,.fn 61 []]) H (V4 p (order2 a0 d a b sw) H):=by
 refine W.bA rfl rfl rfl ?_
 have hd:=hc
 have av:=a6.refl (fun x=>x=p) H
 simp -implicitDefEqProofs (maxSteps:=1000000) (disch:=omega) only[Hl,aa,aU,aV,aW,aX,aY,aZ,wA,bf,wS,ba,wM,S2,op,ef,cl,sq,reduceIte,j2,j3,j4,j5,j6,j7,j8,j9,y1,S1,hd]
 refine mq _ _ _ _ _ _ _ (by simp -implicitDefEqProofs (maxSteps:=1000000) (disch:=omega) only[aa,aU,aV,aW,aX,aY,aZ,wA,bf,wS,ba,wM,S2,op,ef,cl,sq,reduceIte,j2,j3,j4,j5,j6,j7,j8,j9,y1,S1,hd]) ?_
 simp -implicitDefEqProofs (maxSteps:=1000000) (disch:=omega) only[aa,aU,aV,aW,aX,aY,aZ,wA,bf,wS,ba,wM,S2,op,ef,cl,sq,reduceIte,j2,j3,j4,j5,j6,j7,j8,j9,y1,S1,cG,hd,List.append_nil]
 refine ae _ _ _ _ _ _ _ _ (cw d[b]! d[a]! _) ?_
 rintro u H1⟨hu,hx⟩
 cases hu
 have hx:Ext H H1:=hx
 have hd:=hx.get hd
 have lc:=aQ hd
 have av:=av.trans (aB (F:=fun _=>False) hx) (fun _ h=>h.elim)
 have kJ:=hx.get hp
 have lp:=aQ kJ
 have du:a0 d[b]! d[a]! = decide (dX d[b]! d[a]!<0):=rfl
 by_cases c1:dX d[b]! d[a]!<0
 ·simp -implicitDefEqProofs (maxSteps:=1000000) (disch:=omega) only[aa,aU,aV,aW,aX,aY,aZ,wA,bf,wS,ba,wM,S2,op,ef,cl,sq,reduceIte,j2,j3,j4,j5,j6,j7,j8,j9,y1,S1,hd,c1,kJ,lp]
  refine⟨?_,?_,?_⟩
  ·rw[order2,if_pos (du.trans (cA c1))]
  ·rw[order2,if_pos (du.trans (cA c1))];exact bQ lp
  ·exact av.set (.inl rfl) _
 ·simp -implicitDefEqProofs (maxSteps:=1000000) (disch:=omega) only[aa,aU,aV,aW,aX,aY,aZ,wA,bf,wS,ba,wM,S2,op,ef,cl,sq,reduceIte,j2,j3,j4,j5,j6,j7,j8,j9,y1,S1,hd,c1,kJ,lp]
  refine⟨?_,?_,?_⟩
  ·rw[order2,if_neg (by rw[du,cy c1];simp)]
  ·rw[order2,if_neg (by rw[du,cy c1];simp)];exact kJ
  ·exact av
theorem Ak (d:Array Nm){n a b sw:Nat}(ha:a<n)(hb:b<n):(Go.Sort.order2 a0 d a b sw).1<n∧(Go.Sort.order2 a0 d a b sw).2.1<n∧(Go.Sort.order2 a0 d a b sw).2.2≤sw+1:=by
 unfold Go.Sort.order2
 split
 ·exact⟨hb,ha,Nat.le_refl _⟩
 ·exact⟨ha,hb,Nat.le_succ _⟩
def Lv (p:Nat)(r:Nat×Nat)(H:af):Out→af→Prop:=fun o H'=>o=.val (.int .i64 r.1)∧H'[p]?=some (.cells [.int .i64 r.2])∧a6 (fun x=>x=p) H H'
open Go.Sort in
theorem Al (c n p sw:Nat)(d:Array Nm)(a b e:Nat)(H:af)(hn:d.size=n)(hc:H[c]?=some (.cells (aP eN d.toList)))(hp:H[p]?=some (.cells [.int .i64 sw]))(qb:¬c=p)(ha:a<n)(hb:b<n)(he:e<n)(hs:n<2305843009213693951)(QH:sw<900) :
  W env (.call 157 [.aC c 0 n 2,.int .i64 a,.int .i64 b,.int .i64 e,.ptr p 0,.fn 61 []]) H (fun o H'=>Lv p (median a0 d a b e sw) H o H'∧(median a0 d a b e sw).1<n∧(median a0 d a b e sw).2≤sw+3):=by
 refine W.bA rfl rfl rfl ?_
 simp -implicitDefEqProofs only[Hg,op,ef,cl,sq,reduceIte,j2,j3,j4,j5,j6,j7,j8,j9,y1,S1]
 refine ae _ _ _ _ _ _ _ _ (Aj c n p sw d a b _ hn hc hp ha hb hs (by omega)) ?_
 rintro u H1⟨hu,kJ,qa⟩
 cases hu
 have lQ:=qa.get hc qb
 obtain⟨r1,DW⟩:∃r,r=order2 a0 d a b sw:=⟨_,rfl⟩
 obtain⟨q1,q2,q3⟩:=Ak d (sw:=sw) ha hb
 rw[←DW]at q1 q2 q3 kJ ⊢
 simp -implicitDefEqProofs only[op,ef,cl,sq,reduceIte,j2,j3,j4,j5,j6,j7,j8,j9,y1,S1]
 refine ae _ _ _ _ _ _ _ _ (Aj c n p r1.2.2 d r1.2.1 e _ hn lQ kJ q2 he hs (by omega)) ?_
 rintro u H2⟨hu,lH,ew⟩
 cases hu
 have pB:=ew.get lQ qb
 obtain⟨r2,tR⟩:∃r,r=order2 a0 d r1.2.1 e r1.2.2:=⟨_,rfl⟩
 obtain⟨q4,q5,q6⟩:=Ak d (sw:=r1.2.2) q2 he
 rw[←tR]at q4 q5 q6 lH ⊢
 simp -implicitDefEqProofs only[op,ef,cl,sq,reduceIte,j2,j3,j4,j5,j6,j7,j8,j9,y1,S1]
 refine ae _ _ _ _ _ _ _ _ (Aj c n p r2.2.2 d r1.1 r2.1 _ hn pB lH q1 q4 hs (by omega)) ?_
 rintro u H3⟨hu,HG,qc⟩
 cases hu
 obtain⟨q7,q8,q9⟩:=Ak d (sw:=r2.2.2) q1 q4
 have e:median a0 d a b e sw=((order2 a0 d r1.1 r2.1 r2.2.2).2.1,(order2 a0 d r1.1 r2.1 r2.2.2).2.2):=by rw[median,←DW,←tR]
 rw[e]
 simp -implicitDefEqProofs only[op,ef,cl,sq,reduceIte,j2,j3,j4,j5,j6,j7,j8,j9,y1,S1]
 exact⟨⟨rfl,HG,(qa.trans ew fun _ h=>.inl h).trans qc fun _ h=>.inl h⟩,q8,by omega⟩
open Go.Sort in
theorem Am (c n p sw:Nat)(d:Array Nm)(a:Nat)(H:af)(hn:d.size=n)(hc:H[c]?=some (.cells (aP eN d.toList)))(hp:H[p]?=some (.cells [.int .i64 sw]))(qb:¬c=p)(ha:1≤a)(vA:a+1<n)(hs:n<2305843009213693951)(QH:sw<900) :
  W env (.call 156 [.aC c 0 n 2,.int .i64 a,.ptr p 0,.fn 61 []]) H (fun o H'=>Lv p (medianAdjacent a0 d a sw) H o H'∧(medianAdjacent a0 d a sw).1<n∧(medianAdjacent a0 d a sw).2≤sw+3):=by
 refine W.bA rfl rfl rfl ?_
 simp -implicitDefEqProofs (maxSteps:=1000000) (disch:=omega) only[Hf,aa,aU,aV,aW,aX,aY,aZ,wA,bf,wS,ba,wM,S2,op,ef,cl,sq,reduceIte,j2,j3,j4,j5,j6,j7,j8,j9,y1,S1]
 refine ae _ _ _ _ _ _ _ _ (Al c n p sw d (a-1) a (a+1) _ hn hc hp qb (by omega) (by omega) vA hs QH) ?_
 rintro u H1⟨⟨hu,kJ,qa⟩,q1,q2⟩
 cases hu
 simp -implicitDefEqProofs only[op,ef,cl,sq,reduceIte,j2,j3,j4,j5,j6,j7,j8,j9,y1,S1]
 exact⟨⟨rfl,kJ,qa⟩,q1,q2⟩
theorem D3 {a:Nat}(h:a<9223372036854775808):IntKind.i64.wrap ((a:Int).tdiv 4)=((a/4:Nat):Int):=by rw[Int.tdiv_eq_ediv_of_nonneg (by omega),wrap64 (by omega)];omega
theorem YF {a:Nat}(h:a<9223372036854775808):IntKind.i64.wrap ((a:Int)*1)=((a*1:Nat):Int):=by rw[wrap64 (by omega)];omega
theorem D4 {a:Nat}(h:a*2<9223372036854775808):IntKind.i64.wrap ((a:Int)*2)=((a*2:Nat):Int):=by rw[wrap64 (by omega)];omega
theorem YG {a:Nat}(h:a*3<9223372036854775808):IntKind.i64.wrap ((a:Int)*3)=((a*3:Nat):Int):=by rw[wrap64 (by omega)];omega
def iw:Go.Sort.Hint→Int
 | .unknown=>0
 | .increasing=>1
 | .decreasing=>2
open Go.Sort in
theorem HH (c n:Nat)(d:Array Nm)(a b:Nat)(H:af)(hn:d.size=n)(hc:H[c]?=some (.cells (aP eN d.toList)))(hb:b≤n)(gY:a+12<b)(hs:n<1305843009213693951) :
  W env (.call 135 [.aC c 0 n 2,.int .i64 a,.int .i64 b,.fn 61 []]) H (fun o H'=>o=.val (.bC [.int .i64 (choosePivot a0 d a b).1,.int .i64 (iw (choosePivot a0 d a b).2)])∧Ext H H'):=by
 refine W.bA rfl rfl rfl ?_
 have h8:8≤b-a:=by omega
 have lc:=aQ hc
 have qb:¬c=H.length:=by omega
 have nI:(H++[B.cells [T.int IntKind.i64 0]])[c]?=some (.cells (aP eN d.toList)):=by rw[aR lc];exact hc
 have V5:(H++[B.cells [T.int IntKind.i64 0]])[H.length]?=some (.cells [.int .i64 ((0:Nat):Int)]):=aE rfl
 have fin:∀H2:af,a6 (fun x=>x=H.length) (H++[B.cells [T.int IntKind.i64 0]]) H2→Ext H H2:=fun H2 hf=>nZ fun x y hx=>hf.get (by rw[aR (aQ hx)];exact hx) (by have:=aQ hx;omega)
 by_cases we:50≤b-a
 ·simp -implicitDefEqProofs (maxSteps:=1000000) (disch:=omega) only[BL,aa,aU,aV,aW,aX,aY,aZ,wA,bf,wS,ba,wM,S2,op,ef,cl,sq,reduceIte,j2,j3,j4,j5,j6,j7,j8,j9,y1,S1,D3,YF,D4,YG,h8,we]
  refine ae _ _ _ _ _ _ _ _ (Am c n H.length 0 d _ _ hn nI V5 qb (by omega) (by omega) (by omega) (by omega)) ?_
  rintro u H1⟨⟨hu,kJ,qa⟩,q1,q2⟩
  cases hu
  obtain⟨ri,mX⟩:∃r,r=medianAdjacent a0 d (a+(b-a)/4*1) 0:=⟨_,rfl⟩
  rw[←mX]at q1 q2 kJ ⊢
  have lQ:=qa.get nI qb
  simp -implicitDefEqProofs only[op,ef,cl,sq,reduceIte,j2,j3,j4,j5,j6,j7,j8,j9,y1,S1]
  refine ae _ _ _ _ _ _ _ _ (Am c n H.length ri.2 d _ _ hn lQ kJ qb (by omega) (by omega) (by omega) (by omega)) ?_
  rintro u H2⟨⟨hu,lH,ew⟩,q3,q4⟩
  cases hu
  obtain⟨rj,V6⟩:∃r,r=medianAdjacent a0 d (a+(b-a)/4*2) ri.2:=⟨_,rfl⟩
  rw[←V6]at q3 q4 lH ⊢
  have pB:=ew.get lQ qb
  simp -implicitDefEqProofs only[op,ef,cl,sq,reduceIte,j2,j3,j4,j5,j6,j7,j8,j9,y1,S1]
  refine ae _ _ _ _ _ _ _ _ (Am c n H.length rj.2 d _ _ hn pB lH qb (by omega) (by omega) (by omega) (by omega)) ?_
  rintro u H3⟨⟨hu,HG,qc⟩,q5,q6⟩
  cases hu
  obtain⟨rk,V7⟩:∃r,r=medianAdjacent a0 d (a+(b-a)/4*3) rj.2:=⟨_,rfl⟩
  rw[←V7]at q5 q6 HG ⊢
  have V8:=qc.get pB qb
  simp -implicitDefEqProofs only[op,ef,cl,sq,reduceIte,j2,j3,j4,j5,j6,j7,j8,j9,y1,S1]
  refine ae _ _ _ _ _ _ _ _ (Al c n H.length rk.2 d ri.1 rj.1 rk.1 _ hn V8 HG qb q1 q3 q5 (by omega) (by omega)) ?_
  rintro u H4⟨⟨hu,qd,zp⟩,q7,q8⟩
  cases hu
  have e:choosePivot a0 d a b=((median a0 d ri.1 rj.1 rk.1 rk.2).1,if (median a0 d ri.1 rj.1 rk.1 rk.2).2=0 then .increasing else if (median a0 d ri.1 rj.1 rk.1 rk.2).2=12 then .decreasing else .unknown):=by
   simp -implicitDefEqProofs only[choosePivot,ge_iff_le,if_pos h8,if_pos we,←mX,←V6,←V7]
  rw[e]
  have hx:=fin _ (((qa.trans ew fun _ h=>.inl h).trans qc fun _ h=>.inl h).trans zp fun _ h=>.inl h)
  generalize median a0 d ri.1 rj.1 rk.1 rk.2=r at *
  obtain⟨m,sw⟩:=r
  simp only at qd ⊢
  by_cases s0:sw=0
  ·subst s0
   have e0:(((0:Nat):Int)==0)=true:=rfl
   simp -implicitDefEqProofs only[op,ef,cl,sq,reduceIte,j2,j3,j4,j5,j6,j7,j8,j9,y1,S1,qd,e0]
   exact⟨rfl,hx⟩
  have e0:(((sw:Nat):Int)==0)=false:=by simp;omega
  by_cases s1:sw=12
  ·subst s1
   have e1:(((12:Nat):Int)==12)=true:=rfl
   simp -implicitDefEqProofs only[op,ef,cl,sq,reduceIte,j2,j3,j4,j5,j6,j7,j8,j9,y1,S1,qd,e0,e1]
   exact⟨rfl,hx⟩
  have e1:(((sw:Nat):Int)==12)=false:=by simp;omega
  simp -implicitDefEqProofs only[op,ef,cl,sq,reduceIte,j2,j3,j4,j5,j6,j7,j8,j9,y1,S1,qd,e0,e1,s0,s1]
  exact⟨rfl,hx⟩
 ·simp -implicitDefEqProofs (maxSteps:=1000000) (disch:=omega) only[BL,aa,aU,aV,aW,aX,aY,aZ,wA,bf,wS,ba,wM,S2,op,ef,cl,sq,reduceIte,j2,j3,j4,j5,j6,j7,j8,j9,y1,S1,D3,YF,D4,YG,h8,we]
  refine ae _ _ _ _ _ _ _ _ (Al c n H.length 0 d _ _ _ _ hn nI V5 qb (by omega) (by omega) (by omega) (by omega) (by omega)) ?_
  rintro u H4⟨⟨hu,qd,zp⟩,q7,q8⟩
  cases hu
  have e:choosePivot a0 d a b=((median a0 d (a+(b-a)/4*1) (a+(b-a)/4*2) (a+(b-a)/4*3) 0).1,if (median a0 d (a+(b-a)/4*1) (a+(b-a)/4*2) (a+(b-a)/4*3) 0).2=0 then .increasing else if (median a0 d (a+(b-a)/4*1) (a+(b-a)/4*2) (a+(b-a)/4*3) 0).2=12 then .decreasing else .unknown):=by
   simp -implicitDefEqProofs only[choosePivot,ge_iff_le,if_pos h8,if_neg we]
  rw[e]
  have hx:=fin _ zp
  generalize median a0 d (a+(b-a)/4*1) (a+(b-a)/4*2) (a+(b-a)/4*3) 0=r at *
  obtain⟨m,sw⟩:=r
  simp only at qd ⊢
  by_cases s0:sw=0
  ·subst s0
   have e0:(((0:Nat):Int)==0)=true:=rfl
   simp -implicitDefEqProofs only[op,ef,cl,sq,reduceIte,j2,j3,j4,j5,j6,j7,j8,j9,y1,S1,qd,e0]
   exact⟨rfl,hx⟩
  have e0:(((sw:Nat):Int)==0)=false:=by simp;omega
  by_cases s1:sw=12
  ·subst s1
   have e1:(((12:Nat):Int)==12)=true:=rfl
   simp -implicitDefEqProofs only[op,ef,cl,sq,reduceIte,j2,j3,j4,j5,j6,j7,j8,j9,y1,S1,qd,e0,e1]
   exact⟨rfl,hx⟩
  have e1:(((sw:Nat):Int)==12)=false:=by simp;omega
  simp -implicitDefEqProofs only[op,ef,cl,sq,reduceIte,j2,j3,j4,j5,j6,j7,j8,j9,y1,S1,qd,e0,e1,s0,s1]
  exact⟨rfl,hx⟩
set_option maxHeartbeats 8000000
open Go.Sort (bitsLen)
theorem HI {n k:Nat}(h:2^k≤n):(n/2^k).log2+k=n.log2:=by
 have h0:0<2^k:=Nat.two_pow_pos k
 have hn:n≠0:=by omega
 have hq:n/2^k≠0:=by have:=Nat.div_pos h h0;omega
 have h1:=Nat.log2_self_le hq
 have h2:=Nat.lt_log2_self (n:=n/2^k)
 refine((Nat.log2_eq_iff hn).2 ⟨?_,?_⟩).symm
 ·rw[Nat.pow_add];exact(Nat.le_div_iff_mul_le h0).1 h1
 ·rw[show(n/2^k).log2+k+1=((n/2^k).log2+1)+k by omega,Nat.pow_add];exact(Nat.div_lt_iff_lt_mul h0).1 h2
theorem yJ {n k:Nat}(h:2^k≤n):bitsLen (n/2^k)+k=bitsLen n:=by
 have h0:0<2^k:=Nat.two_pow_pos k
 have hq:n/2^k≠0:=by have:=Nat.div_pos h h0;omega
 have:=HI h
 unfold bitsLen
 rw[if_neg hq,if_neg (by omega)]
 omega
theorem qZ {n k:Nat}(h:n<2^k):bitsLen n≤k:=by
 unfold bitsLen
 split
 ·omega
 ·rename_i h0;have:=(Nat.log2_lt h0).2 h;omega
def tbl:Array UInt8:=#[0,1,2,2,3,3,3,3,4,4,4,4,4,4,4,4,5,5,5,5,5,5,5,5,5,5,5,5,5,5,5,5,6,6,6,6,6,6,6,6,6,6,6,6,6,6,6,6,6,6,6,6,6,6,6,6,6,6,6,6,6,6,6,6,7,7,7,7,7,7,7,7,7,7,7,7,7,7,7,7,7,7,7,7,7,7,7,7,7,7,7,7,7,7,7,7,7,7,7,7,7,7,7,7,7,7,7,7,7,7,7,7,7,7,7,7,7,7,7,7,7,7,7,7,7,7,7,7,8,8,8,8,8,8,8,8,8,8,8,8,8,8,8,8,8,8,8,8,8,8,8,8,8,8,8,8,8,8,8,8,8,8,8,8,8,8,8,8,8,8,8,8,8,8,8,8,8,8,8,8,8,8,8,8,8,8,8,8,8,8,8,8,8,8,8,8,8,8,8,8,8,8,8,8,8,8,8,8,8,8,8,8,8,8,8,8,8,8,8,8,8,8,8,8,8,8,8,8,8,8,8,8,8,8,8,8,8,8,8,8,8,8,8,8,8,8,8,8,8,8,8,8,8,8,8,8]
def acY:Bool:=(List.range 256).all fun n=>match tbl[n]? with|some c=>c.toNat==bitsLen n|none=>false
theorem Lw:acY=true:=by decide +kernel
theorem Ao {β:Type}{K:Option β→Prop}{n:Nat}(hn:n<256)(f:UInt8→β)(h:∀c:UInt8,c.toNat=bitsLen n→K (some (f c))):K (Option.map f tbl[n]?):=by
 have:=List.all_eq_true.1 Lw n (List.mem_range.2 hn)
 split at this
 ·rename_i c hc
  rw[hc];exact h c (by simpa using this)
 ·cases this
theorem V9 (n:Nat)(hn:n<16777216)(H:af):W env (.call 141 [.int .u64 n]) H (fun o H'=>o=.val (.int .i64 (bitsLen n))∧H'=H):=by
 refine W.bA rfl rfl rfl ?_
 have h1:¬(4294967296≤n):=by omega
 have fin:∀(m k:Nat),m<256→k≤16→IntKind.i64.wrap ((k:Int)+((bitsLen m:Nat):Int))=((bitsLen m+k:Nat):Int):=fun m k hm hk=>by
  have:=qZ (n:=m) (k:=8) hm
  rw[wrap64 (by omega)];omega
 by_cases h2:65536≤n
 ·have e16:(n:Int).fdiv (2^(min (16:Int).toNat IntKind.u64.bits))=((n/65536:Nat):Int):=by
   show(n:Int).fdiv 65536=_
   rw[Int.fdiv_eq_ediv_of_nonneg _ (by decide)];omega
  have h3:¬(256≤n/65536):=by omega
  have QF:=yz (n:=n/65536) (by omega)
  have w16:IntKind.i64.wrap (0+16)=16:=by decide
  have:=fin (n/65536) 16 (by omega) (by omega)
  rw[show bitsLen (n/65536)+16=bitsLen n from yJ (k:=16) h2]at this
  simp -implicitDefEqProofs only[uY,op,ef,cl,sq,reduceIte,j2,j3,j4,j5,j6,j7,j8,j9,y1,S1,h1,h2,e16,h3,QF,w16,aa]
  refine Ao (K:=mo env _ _ _ _ _ _ _ _) (by omega) _ fun ch D2=>?_
  have wc:IntKind.i64.wrap ((ch.toNat:Nat):Int)=((ch.toNat:Nat):Int):=wrap64 (by have:=ch.toNat_lt;omega)
  rw[D2]at wc
  simp -implicitDefEqProofs only[op,ef,cl,sq,reduceIte,j2,j3,j4,j5,j6,j7,j8,j9,y1,S1,D2,wc]
  exact congrArg (fun x=>Out.val (.int .i64 x)) this
 by_cases h3:256≤n
 ·have e8:(n:Int).fdiv (2^(min (8:Int).toNat IntKind.u64.bits))=((n/256:Nat):Int):=by
   show(n:Int).fdiv 256=_
   rw[Int.fdiv_eq_ediv_of_nonneg _ (by decide)];omega
  have QF:=yz (n:=n/256) (by omega)
  have w80:IntKind.i64.wrap (0+8)=8:=by decide
  have:=fin (n/256) 8 (by omega) (by omega)
  rw[show bitsLen (n/256)+8=bitsLen n from yJ (k:=8) h3]at this
  simp -implicitDefEqProofs only[uY,op,ef,cl,sq,reduceIte,j2,j3,j4,j5,j6,j7,j8,j9,y1,S1,h1,h2,e8,h3,QF,w80,aa]
  refine Ao (K:=mo env _ _ _ _ _ _ _ _) (by omega) _ fun ch D2=>?_
  have wc:IntKind.i64.wrap ((ch.toNat:Nat):Int)=((ch.toNat:Nat):Int):=wrap64 (by have:=ch.toNat_lt;omega)
  rw[D2]at wc
  simp -implicitDefEqProofs only[op,ef,cl,sq,reduceIte,j2,j3,j4,j5,j6,j7,j8,j9,y1,S1,D2,wc]
  exact congrArg (fun x=>Out.val (.int .i64 x)) this
 ·have QF:=yz (n:=n) (by omega)
  have:=fin n 0 (by omega) (by omega)
  simp -implicitDefEqProofs only[uY,op,ef,cl,sq,reduceIte,j2,j3,j4,j5,j6,j7,j8,j9,y1,S1,h1,h2,h3,QF,aa]
  refine Ao (K:=mo env _ _ _ _ _ _ _ _) (by omega) _ fun ch D2=>?_
  have wc:IntKind.i64.wrap ((ch.toNat:Nat):Int)=((ch.toNat:Nat):Int):=wrap64 (by have:=ch.toNat_lt;omega)
  rw[D2]at wc
  simp -implicitDefEqProofs only[op,ef,cl,sq,reduceIte,j2,j3,j4,j5,j6,j7,j8,j9,y1,S1,D2,wc]
  exact congrArg (fun x=>Out.val (.int .i64 x)) this
theorem HJ (n:Nat)(hn:n<16777216)(H:af):W env (.call 118 [.int .u64 n]) H (fun o H'=>o=.val (.int .i64 (bitsLen n))∧H'=H):=by
 refine W.bA rfl rfl rfl ?_
 simp -implicitDefEqProofs only[BJ,op,ef,cl,sq,reduceIte,j2,j3,j4,j5,j6,j7,j8,j9,y1,S1]
 refine ae _ _ _ _ _ _ _ _ (V9 n hn _) ?_
 rintro u H1⟨hu,rfl⟩
 cases hu
 simp -implicitDefEqProofs only[op,ef,cl,sq,reduceIte,j2,j3,j4,j5,j6,j7,j8,j9,y1,S1]
theorem HK (n:Nat)(hn:n<16777216)(H:af):W env (.call 154 [.int .i64 n]) H (fun o H'=>o=.val (.int .u64 ((1 <<< bitsLen n:Nat):Int))∧H'=H):=by
 refine W.bA rfl rfl rfl ?_
 have wu:=qx (n:=n) (by omega)
 simp -implicitDefEqProofs only[Hc,op,ef,cl,sq,reduceIte,j2,j3,j4,j5,j6,j7,j8,j9,y1,S1,wu]
 refine ae _ _ _ _ _ _ _ _ (HJ n hn _) ?_
 rintro u H1⟨hu,rfl⟩
 cases hu
 have hb:=qZ (n:=n) (k:=24) hn
 have n0:¬(((bitsLen n:Nat):Int)<0):=by omega
 have e:IntKind.u64.wrap (1*2^(min ((bitsLen n:Nat):Int).toNat IntKind.u64.bits))=((1 <<< bitsLen n:Nat):Int):=by
  rw[Int.toNat_natCast,Nat.min_eq_left (by show bitsLen n≤64;omega),Nat.one_shiftLeft,Int.one_mul]
  have:(2:Nat)^bitsLen n≤2^24:=Nat.pow_le_pow_right (by decide) hb
  have h2:((2:Int)^bitsLen n)=((2^bitsLen n:Nat):Int):=by simp
  rw[h2]
  exact qx (by omega)
 simp -implicitDefEqProofs only[op,ef,cl,sq,reduceIte,j2,j3,j4,j5,j6,j7,j8,j9,y1,S1,n0,e]
set_option maxHeartbeats 8000000
open Go.Sort (bitsLen)
theorem Nz (x:Int):IntKind.u64.wrap x=x%18446744073709551616:=by
 unfold IntKind.wrap
 simp -implicitDefEqProofs only[IntKind.signed,IntKind.bits]
 simp
theorem Lx (r:UInt64):IntKind.u64.wrap ((r.toNat:Int)*2^(min (13:Int).toNat IntKind.u64.bits))=((r <<< 13).toNat:Int):=by
 rw[Nz,UInt64.toNat_shiftLeft,Nat.shiftLeft_eq]
 show(r.toNat:Int)*8192%_=((r.toNat*8192%18446744073709551616:Nat):Int)
 omega
theorem Ly (r:UInt64):IntKind.u64.wrap ((r.toNat:Int)*2^(min (17:Int).toNat IntKind.u64.bits))=((r <<< 17).toNat:Int):=by
 rw[Nz,UInt64.toNat_shiftLeft,Nat.shiftLeft_eq]
 show(r.toNat:Int)*131072%_=((r.toNat*131072%18446744073709551616:Nat):Int)
 omega
theorem QI (r:UInt64):(r.toNat:Int).fdiv (2^(min (7:Int).toNat IntKind.u64.bits))=((r >>> 7).toNat:Int):=by
 rw[UInt64.toNat_shiftRight,Nat.shiftRight_eq_div_pow]
 show(r.toNat:Int).fdiv 128=((r.toNat/128:Nat):Int)
 rw[Int.fdiv_eq_ediv_of_nonneg _ (by decide)];omega
theorem Wa (r:UInt64):BitVec.ofInt IntKind.u64.bits (r.toNat:Int)=r.toBitVec:=by
 apply BitVec.eq_of_toNat_eq
 rw[BitVec.toNat_ofInt]
 have:=r.toNat_lt
 show((r.toNat:Int)%18446744073709551616).toNat=r.toNat
 omega
theorem Wb (r s:UInt64):IntKind.u64.wrap ((BitVec.ofInt IntKind.u64.bits (r.toNat:Int) ^^^ BitVec.ofInt IntKind.u64.bits (s.toNat:Int)).toNat:Int)=((r ^^^ s).toNat:Int):=by
 refine Eq.trans ?_ (qx (r ^^^ s).toNat_lt)
 rw[Wa,Wa]
 rfl
theorem BT (r:UInt64)(k:Nat)(hk:k<18446744073709551616):IntKind.u64.wrap ((BitVec.ofInt IntKind.u64.bits (r.toNat:Int) &&& BitVec.ofInt IntKind.u64.bits (k:Int)).toNat:Int)=((r.toNat &&& k:Nat):Int):=by
 have h:(BitVec.ofInt IntKind.u64.bits (r.toNat:Int) &&& BitVec.ofInt IntKind.u64.bits (k:Int)).toNat=r.toNat &&& k:=by
  rw[BitVec.toNat_and,BitVec.toNat_ofInt,BitVec.toNat_ofInt]
  have:=r.toNat_lt
  have e1:((r.toNat:Int)%((2^IntKind.u64.bits:Nat):Int)).toNat=r.toNat:=by
   show((r.toNat:Int)%18446744073709551616).toNat=r.toNat
   omega
  have e2:((k:Int)%((2^IntKind.u64.bits:Nat):Int)).toNat=k:=by
   show((k:Int)%18446744073709551616).toNat=k
   omega
  rw[e1,e2]
 rw[h]
 exact qx (Nat.lt_of_le_of_lt Nat.and_le_right hk)
theorem NA (p:Nat)(r:UInt64)(H:af)(hp:H[p]?=some (.cells [.int .u64 r.toNat])) :
  W env (.call 155 [.ptr p 0]) H (fun o H'=>o=.val (.int .u64 (Go.Sort.xorNext r).toNat)∧H'[p]?=some (.cells [.int .u64 (Go.Sort.xorNext r).toNat])∧a6 (fun x=>x=p) H H'):=by
 refine W.bA rfl rfl rfl ?_
 have lp:=aQ hp
 have n13:¬((13:Int)<0):=by decide
 have n7:¬((7:Int)<0):=by decide
 have n17:¬((17:Int)<0):=by decide
 simp -implicitDefEqProofs only[Lx,Ly,QI,Wb,He,op,ef,cl,sq,reduceIte,j2,j3,j4,j5,j6,j7,j8,j9,y1,S1,hp,lp,S2,n13,n7,n17]
 exact⟨rfl,rfl,(((a6.refl (fun x=>x=p) _).set (.inl rfl) _).set (.inl rfl) _).set (.inl rfl) _⟩
theorem yK {n:Nat}(h:n≠0):1 <<< bitsLen n≤2*n:=by
 rw[Nat.one_shiftLeft,bitsLen,if_neg h,Nat.pow_succ]
 have:=Nat.log2_self_le h
 omega
def NB (a len md:Nat)(d:Array Nm):Nat→UInt64×Array Nm
 | 0=>(UInt64.ofNat len,d)
 | j+1=>Go.Sort.breakStep a len md (NB a len md d j) (a+len/4*2-1+j)
theorem YH {a:Nat}(h:1≤a∧a<18446744073709551616):IntKind.u64.wrap ((a:Int)-1)=((a-1:Nat):Int):=by rw[vQ (by omega)];omega
theorem wN {a:Nat}(h:a<9223372036854775808):IntKind.i64.wrap (a:Int)=(a:Int):=wrap64 (by omega)
open Go.Sort in
theorem Lz (c n:Nat)(d:Array Nm)(a b:Nat)(H:af)(hn:d.size=n)(hc:H[c]?=some (.cells (aP eN d.toList)))(hb:b≤n)(gY:a+12<b)(hs:n<16777216) :
  W env (.call 134 [.aC c 0 n 2,.int .i64 a,.int .i64 b,.fn 61 []]) H (Ag c n (breakPatterns d a b) H):=by
 refine W.bA rfl rfl rfl ?_
 have h8:8≤b-a:=by omega
 have lc:=aQ hc
 obtain⟨len,hlen⟩:∃len,len=b-a:=⟨_,rfl⟩
 have wl:IntKind.u64.wrap ((len:Nat):Int)=(len:Int):=qx (by omega)
 rw[←hlen]at h8
 simp -implicitDefEqProofs (maxSteps:=1000000) (disch:=omega) only[GY,aa,aU,aV,aW,aX,aY,aZ,wA,bf,wS,ba,wM,S2,op,ef,cl,sq,reduceIte,j2,j3,j4,j5,j6,j7,j8,j9,y1,S1,D3,D4,←hlen,wl,h8]
 refine ae _ _ _ _ _ _ _ _ (HK len (by omega) _) ?_
 rintro u H1⟨hu,rfl⟩
 cases hu
 obtain⟨md,Wc⟩:∃md,md=1 <<< bitsLen len:=⟨_,rfl⟩
 have OW:=yK (n:=len) (by omega)
 have Lr:1≤1 <<< bitsLen len:=by rw[Nat.one_shiftLeft];exact Nat.one_le_two_pow
 rw[←Wc]at Lr OW ⊢
 have hq:len/4*2≤len:=by omega
 obtain⟨ix,xE⟩:∃ix,ix=a+len/4*2-1:=⟨_,rfl⟩
 have vN:breakPatterns d a b=(NB a len md d 3).2:=by
  simp -implicitDefEqProofs only[breakPatterns,←hlen,ge_iff_le,if_pos h8,NB,←Wc,Nat.add_zero]
 simp -implicitDefEqProofs (maxSteps:=1000000) (disch:=omega) only[aa,aU,aV,aW,aX,aY,aZ,wA,bf,wS,ba,wM,S2,op,ef,cl,sq,reduceIte,j2,j3,j4,j5,j6,j7,j8,j9,y1,S1,D3,D4,←xE]
 have lQ:(H++[B.cells [T.int IntKind.u64 len]])[c]?=some (.cells (aP eN d.toList)):=by rw[aR lc];exact hc
 have kJ:(H++[B.cells [T.int IntKind.u64 len]])[H.length]?=some (.cells [.int .u64 (UInt64.ofNat len).toNat]):=by
  rw[aE rfl,UInt64.toNat_ofNat_of_lt' (by show len<18446744073709551616;omega)]
 refine W.cO (fun (j:Nat) R H'=>At H' (fun H'=>∃d':Array Nm,H'[c]?=some (.cells (aP eN d'.toList))∧d'.size=n∧d'=(NB a len md d j).2∧H'[H.length]?=some (.cells [.int .u64 (NB a len md d j).1.toNat])∧a6 (fun x=>x=c∨x=H.length) (H++[B.cells [T.int IntKind.u64 len]]) H')∧R 0=.aC c 0 n 2∧R 1=.int .i64 a∧R 8=.int .i64 len∧R 9=.ptr H.length 0∧R 10=.int .u64 md∧R 11=.int .i64 (ix+j:Nat)∧j≤3) (fun j=>3-j) 0 ⟨.i ⟨d,lQ,hn,rfl,kJ,a6.refl _ _⟩,rfl,rfl,rfl,rfl,rfl,rfl,by omega⟩ ?_
 rintro j R H1⟨⟨di,hd,bg,Wd,hp,av⟩,h0,h1,LA,h9,aG,bh,hj⟩
 by_cases hj3:j<3
 ·have hle:ix+j≤a+len/4*2+1:=by omega
  simp -implicitDefEqProofs (maxSteps:=1000000) (disch:=omega) only[aa,aU,aV,aW,aX,aY,aZ,wA,bf,wS,ba,wM,S2,op,ef,cl,sq,reduceIte,j2,j3,j4,j5,j6,j7,j8,j9,y1,S1,D3,D4,h0,h1,LA,h9,aG,bh,hle]
  refine ae _ _ _ _ _ _ _ _ (NA H.length _ _ hp) ?_
  rintro u H2⟨hu,lH,ew⟩
  cases hu
  have hd:=ew.get hd (by omega)
  have Ap:=aQ hd
  obtain⟨r,hr⟩:∃r,r=xorNext (NB a len md d j).1:=⟨_,rfl⟩
  rw[←hr]at lH ⊢
  obtain⟨ot,LB⟩:∃ot,ot=r.toNat &&& (md-1):=⟨_,rfl⟩
  have hol:ot≤md-1:=by rw[LB];exact Nat.and_le_right
  have bN:NB a len md d (j+1)=(r,swp di (ix+j) (a+if ot≥len then ot-len else ot)):=by
   simp -implicitDefEqProofs only[NB,breakStep,←hr,←Wd,←LB,←xE]
  have bF:¬(c=H.length):=by omega
  by_cases eQ:len≤ot
  ·rw[if_pos eQ]at bN
   simp -implicitDefEqProofs (maxSteps:=1000000) (disch:=omega) only[aa,aU,aV,aW,aX,aY,aZ,wA,bf,wS,ba,wM,S2,op,ef,cl,sq,reduceIte,j2,j3,j4,j5,j6,j7,j8,j9,y1,S1,YH,BT,wN,←LB,h0,h1,LA,h9,aG,bh,eQ,hd,Ap]
   refine⟨j+1,by omega,.i ⟨swp di (ix+j) (a+(ot-len)),bQ (by rw[List.length_set];exact Ap),by rw[swp_size];exact bg,by rw[bN],?_,((av.trans ew fun x h=>.inl (.inr h)).set (.inl (.inl rfl)) _).set (.inl (.inl rfl)) _⟩,rfl,by omega⟩
   rw[bm bF,bm bF,lH,bN]
  ·rw[if_neg eQ]at bN
   simp -implicitDefEqProofs (maxSteps:=1000000) (disch:=omega) only[aa,aU,aV,aW,aX,aY,aZ,wA,bf,wS,ba,wM,S2,op,ef,cl,sq,reduceIte,j2,j3,j4,j5,j6,j7,j8,j9,y1,S1,YH,BT,wN,←LB,h0,h1,LA,h9,aG,bh,eQ,hd,Ap]
   refine⟨j+1,by omega,.i ⟨swp di (ix+j) (a+ot),bQ (by rw[List.length_set];exact Ap),by rw[swp_size];exact bg,by rw[bN],?_,((av.trans ew fun x h=>.inl (.inr h)).set (.inl (.inl rfl)) _).set (.inl (.inl rfl)) _⟩,rfl,by omega⟩
   rw[bm bF,bm bF,lH,bN]
 ·have Ln:j=3:=by omega
  subst Ln
  have hle:¬(ix+3≤a+len/4*2+1):=by omega
  simp -implicitDefEqProofs (maxSteps:=1000000) (disch:=omega) only[aa,aU,aV,aW,aX,aY,aZ,wA,bf,wS,ba,wM,S2,op,ef,cl,sq,reduceIte,j2,j3,j4,j5,j6,j7,j8,j9,y1,S1,D3,D4,h0,h1,LA,h9,aG,bh,hle]
  exact⟨rfl,di,hd,bg,by rw[vN,Wd],(aB (F:=fun x=>x=c) (H:=H) (H':=H++[B.cells [T.int IntKind.u64 len]]) ⟨_,rfl⟩).trans av fun x h=>h.elim .inl fun e=>.inr (by omega)⟩
set_option maxHeartbeats 8000000
open Go.Sort in
theorem mC {p:Nm→Bool}{d:Array Nm}{i k:Nat}(h:1≤i):scanDown p d i k=if (decide (i≤k)&&p d[k]!)=true then scanDown p d i (k-1)else k:=by
 cases k with
 | zero=>rw[scanDown,if_neg (dC (cy (by omega)))]
 | succ k=>rw[scanDown];rfl
open Go.Sort in
theorem QJ {a i j si sj:Nat}{d:Array Nm}(hi:si=scanUp (fun x=>!a0 d[a]! x) d j i)(hj:sj=scanDown (fun x=>a0 d[a]! x) d si j):partEqLoop a0 a i j d=if si>sj then(si,d)else if (sj-1)+1-(si+1)<j+1-i then partEqLoop a0 a (si+1) (sj-1) (swp d si sj)else(si,d):=by
 subst hi;subst hj
 rw[partEqLoop]
 rfl
open Go.Sort in
theorem We (c n:Nat)(d:Array Nm)(a b pv:Nat)(H:af)(hn:d.size=n)(hc:H[c]?=some (.cells (aP eN d.toList)))(hb:b≤n)(gY:a<b)(nk:pv<n)(hs:n<2305843009213693951) :
  W env (.call 138 [.aC c 0 n 2,.int .i64 a,.int .i64 b,.int .i64 pv,.fn 61 []]) H (fun o H'=>o=.val (.int .i64 (partitionEqual a0 d a b pv).1)∧SC c n H (fun x=>x=(partitionEqual a0 d a b pv).2) H'):=by
 refine W.bA rfl rfl rfl ?_
 have hd:=hc
 have lc:=aQ hd
 simp -implicitDefEqProofs (maxSteps:=1000000) (disch:=omega) only[G1,aa,aU,aV,aW,aX,aY,aZ,wA,bf,wS,ba,wM,S2,op,ef,cl,sq,reduceIte,j2,j3,j4,j5,j6,j7,j8,j9,y1,S1,hd,lc]
 obtain⟨d1,qt,Ai,e1,qa⟩:=SC.swp (n:=n) (P:=fun x=>x=swp d a pv) (x:=.cells (aP eN (d.toList.set a d[pv]!))) hd (by rw[Go.Sort.swp_size];exact hn) rfl (a6.refl (fun x=>x=c) H)
 subst e1
 generalize ((H.set c (.cells (aP eN (d.toList.set a d[pv]!)))).set c (.cells (aP eN (swp d a pv).toList)))=H1 at *
 refine W.cV 0 (fun (q:Nat×Nat) R H'=>At H' (fun H'=>SC c n H (fun di=>partEqLoop a0 a q.1 q.2 di=partitionEqual a0 d a b pv) H')∧R 0=.aC c 0 n 2∧R 1=.int .i64 a∧R 4=.fn 61 []∧R 11=.int .i64 q.1∧R 12=.int .i64 q.2∧a<q.1∧q.2<n∧q.1≤n) (fun q=>q.2+1-q.1) (a+1,b-1)
  (fun R H'=>At H' (fun H'=>SC c n H (fun di=>di=(partitionEqual a0 d a b pv).2) H')∧R 11=.int .i64 (partitionEqual a0 d a b pv).1) ⟨.i ⟨_,qt,Ai,rfl,qa⟩,rfl,rfl,rfl,rfl,rfl,by omega,by simp only;omega,by simp only;omega⟩ ?_ ?_
 ·rintro⟨i,j⟩ R H1 ⟨⟨di,hd,bg,hP,av⟩,h0,h1,h4,bh,aD,HE,zM,iI⟩
  simp only at hP bh aD HE zM iI ⊢
  simp -implicitDefEqProofs only[op,ef,cl,sq,reduceIte,j2,j3,j4,j5,j6,j7,j8,j9,y1,S1,h0,h1,h4,bh,aD]
  obtain⟨si,qe⟩:∃si,si=scanUp (fun x=>!a0 di[a]! x) di j i:=⟨_,rfl⟩
  refine W.cV 2 (fun (k:Nat) R H'=>At H' (fun H'=>H'[c]?=some (.cells (aP eN di.toList))∧a6 (fun x=>x=c) H H')∧R 0=.aC c 0 n 2∧R 1=.int .i64 a∧R 4=.fn 61 []∧R 11=.int .i64 k∧R 12=.int .i64 j∧i≤k∧k≤n∧scanUp (fun x=>!a0 di[a]! x) di j k=si) (fun k=>j+1-k) i
   (fun R H'=>At H' (fun H'=>H'[c]?=some (.cells (aP eN di.toList))∧a6 (fun x=>x=c) H H')∧R 0=.aC c 0 n 2∧R 1=.int .i64 a∧R 4=.fn 61 []∧R 11=.int .i64 si∧R 12=.int .i64 j∧i≤si∧si≤n) ⟨.i ⟨hd,av⟩,h0,h1,h4,bh,aD,Nat.le_refl _,iI,qe.symm⟩ ?_ ?_
  ·rintro k R H2⟨⟨hd,av⟩,h0,h1,h4,bh,aD,sH,pZ,hk⟩
   have lc:=aQ hd
   by_cases fk:k≤j
   ·simp -implicitDefEqProofs (maxSteps:=1000000) (disch:=omega) only[aa,aU,aV,aW,aX,aY,aZ,wA,bf,wS,ba,wM,S2,op,ef,cl,sq,reduceIte,j2,j3,j4,j5,j6,j7,j8,j9,y1,S1,h0,h1,h4,bh,aD,fk,hd,lc]
    refine mq _ _ _ _ _ _ _ (by simp -implicitDefEqProofs (maxSteps:=1000000) (disch:=omega) only[aa,aU,aV,aW,aX,aY,aZ,wA,bf,wS,ba,wM,S2,op,ef,cl,sq,reduceIte,j2,j3,j4,j5,j6,j7,j8,j9,y1,S1,h0,h1,h4,bh,aD,fk,hd,lc]) ?_
    simp -implicitDefEqProofs (maxSteps:=1000000) (disch:=omega) only[aa,aU,aV,aW,aX,aY,aZ,wA,bf,wS,ba,wM,S2,op,ef,cl,sq,reduceIte,j2,j3,j4,j5,j6,j7,j8,j9,y1,S1,cG,h0,h1,h4,bh,aD,fk,hd,lc,List.append_nil]
    refine ae _ _ _ _ _ _ _ _ (cw di[a]! di[k]! _) ?_
    rintro u H3⟨hu,hx⟩
    cases hu
    have hx:Ext H2 H3:=hx
    have hd:=hx.get hd
    have lc:=aQ hd
    have av:=av.trans (aB (F:=fun _=>False) hx) (fun _ h=>h.elim)
    have du:a0 di[a]! di[k]! = decide (dX di[a]! di[k]!<0):=rfl
    by_cases c1:dX di[a]! di[k]!<0
    ·simp -implicitDefEqProofs (maxSteps:=1000000) (disch:=omega) only[aa,aU,aV,aW,aX,aY,aZ,wA,bf,wS,ba,wM,S2,op,ef,cl,sq,reduceIte,j2,j3,j4,j5,j6,j7,j8,j9,y1,S1,h0,h1,h4,bh,aD,fk,c1]
     rw[scanUp,if_neg (eu (by rw[du,cA c1];rfl))]at hk
     subst hk
     exact⟨.i ⟨hd,av⟩,rfl,sH,pZ⟩
    ·simp -implicitDefEqProofs (maxSteps:=1000000) (disch:=omega) only[aa,aU,aV,aW,aX,aY,aZ,wA,bf,wS,ba,wM,S2,op,ef,cl,sq,reduceIte,j2,j3,j4,j5,j6,j7,j8,j9,y1,S1,h0,h1,h4,bh,aD,fk,c1]
     rw[scanUp,if_pos (gu (cA fk) (fD (du.trans (cy c1))))]at hk
     exact⟨k+1,by omega,.i ⟨hd,av⟩,rfl,by omega,by omega,hk⟩
   ·simp -implicitDefEqProofs (maxSteps:=1000000) (disch:=omega) only[op,ef,cl,sq,reduceIte,j2,j3,j4,j5,j6,j7,j8,j9,y1,S1,h0,h1,h4,bh,aD,fk]
    simp -implicitDefEqProofs only[op,ef,cl,sq,reduceIte,j2,j3,j4,j5,j6,j7,j8,j9,y1,S1,h0,h1,h4,bh,aD,fk]
    rw[scanUp,if_neg (dC (cy fk))]at hk
    subst hk
    exact⟨.i ⟨hd,av⟩,rfl,sH,pZ⟩
  ·rintro R H2⟨⟨hd,av⟩,h0,h1,h4,bh,aD,Aq,HL⟩
   simp -implicitDefEqProofs only[op,ef,cl,sq,reduceIte,j2,j3,j4,j5,j6,j7,j8,j9,y1,S1,h0,h1,h4,bh,aD]
   obtain⟨sj,ua⟩:∃sj,sj=scanDown (fun x=>a0 di[a]! x) di si j:=⟨_,rfl⟩
   refine W.cV 4 (fun (k:Nat) R H'=>At H' (fun H'=>H'[c]?=some (.cells (aP eN di.toList))∧a6 (fun x=>x=c) H H')∧R 0=.aC c 0 n 2∧R 1=.int .i64 a∧R 4=.fn 61 []∧R 11=.int .i64 si∧R 12=.int .i64 k∧k≤j∧scanDown (fun x=>a0 di[a]! x) di si k=sj) (fun k=>k) j
    (fun R H'=>At H' (fun H'=>H'[c]?=some (.cells (aP eN di.toList))∧a6 (fun x=>x=c) H H')∧R 0=.aC c 0 n 2∧R 1=.int .i64 a∧R 4=.fn 61 []∧R 11=.int .i64 si∧R 12=.int .i64 sj∧sj≤j) ⟨.i ⟨hd,av⟩,h0,h1,h4,bh,aD,Nat.le_refl _,ua.symm⟩ ?_ ?_
   ·rintro k R H3⟨⟨hd,av⟩,h0,h1,h4,bh,aD,fk,hk⟩
    have lc:=aQ hd
    rw[mC (by omega)]at hk
    by_cases bT:si≤k
    ·simp -implicitDefEqProofs (maxSteps:=1000000) (disch:=omega) only[aa,aU,aV,aW,aX,aY,aZ,wA,bf,wS,ba,wM,S2,op,ef,cl,sq,reduceIte,j2,j3,j4,j5,j6,j7,j8,j9,y1,S1,h0,h1,h4,bh,aD,bT,hd,lc]
     refine mq _ _ _ _ _ _ _ (by simp -implicitDefEqProofs (maxSteps:=1000000) (disch:=omega) only[aa,aU,aV,aW,aX,aY,aZ,wA,bf,wS,ba,wM,S2,op,ef,cl,sq,reduceIte,j2,j3,j4,j5,j6,j7,j8,j9,y1,S1,h0,h1,h4,bh,aD,bT,hd,lc]) ?_
     simp -implicitDefEqProofs (maxSteps:=1000000) (disch:=omega) only[aa,aU,aV,aW,aX,aY,aZ,wA,bf,wS,ba,wM,S2,op,ef,cl,sq,reduceIte,j2,j3,j4,j5,j6,j7,j8,j9,y1,S1,cG,h0,h1,h4,bh,aD,bT,hd,lc,List.append_nil]
     refine ae _ _ _ _ _ _ _ _ (cw di[a]! di[k]! _) ?_
     rintro u H4⟨hu,hx⟩
     cases hu
     have hx:Ext H3 H4:=hx
     have hd:=hx.get hd
     have lc:=aQ hd
     have av:=av.trans (aB (F:=fun _=>False) hx) (fun _ h=>h.elim)
     have du:a0 di[a]! di[k]! = decide (dX di[a]! di[k]!<0):=rfl
     by_cases c1:dX di[a]! di[k]!<0
     ·simp -implicitDefEqProofs (maxSteps:=1000000) (disch:=omega) only[aa,aU,aV,aW,aX,aY,aZ,wA,bf,wS,ba,wM,S2,op,ef,cl,sq,reduceIte,j2,j3,j4,j5,j6,j7,j8,j9,y1,S1,h0,h1,h4,bh,aD,bT,c1]
      rw[if_pos (gu (cA bT) (du.trans (cA c1)))]at hk
      exact⟨k-1,by omega,.i ⟨hd,av⟩,rfl,by omega,hk⟩
     ·simp -implicitDefEqProofs (maxSteps:=1000000) (disch:=omega) only[aa,aU,aV,aW,aX,aY,aZ,wA,bf,wS,ba,wM,S2,op,ef,cl,sq,reduceIte,j2,j3,j4,j5,j6,j7,j8,j9,y1,S1,h0,h1,h4,bh,aD,bT,c1]
      rw[if_neg (eu (du.trans (cy c1)))]at hk
      subst hk
      exact⟨.i ⟨hd,av⟩,rfl,fk⟩
    ·simp -implicitDefEqProofs only[op,ef,cl,sq,reduceIte,j2,j3,j4,j5,j6,j7,j8,j9,y1,S1,h0,h1,h4,bh,aD,bT]
     rw[if_neg (dC (cy bT))]at hk
     subst hk
     exact⟨.i ⟨hd,av⟩,rfl,fk⟩
   ·rintro R H3⟨⟨hd,av⟩,h0,h1,h4,bh,aD,HM⟩
    have lc:=aQ hd
    rw[QJ qe ua]at hP
    by_cases lg:sj<si
    ·rw[if_pos lg]at hP
     simp -implicitDefEqProofs only[op,ef,cl,sq,reduceIte,j2,j3,j4,j5,j6,j7,j8,j9,y1,S1,h0,h1,h4,bh,aD,lg]
     exact⟨.i ⟨di,hd,bg,by rw[←hP],av⟩,by rw[←hP]⟩
    ·rw[if_neg lg,if_pos (by omega)]at hP
     simp -implicitDefEqProofs (maxSteps:=1000000) (disch:=omega) only[aa,aU,aV,aW,aX,aY,aZ,wA,bf,wS,ba,wM,S2,op,ef,cl,sq,reduceIte,j2,j3,j4,j5,j6,j7,j8,j9,y1,S1,h0,h1,h4,bh,aD,lg,hd,lc]
     exact⟨(si+1,sj-1),by simp only;omega,.i (.swp hd (by rw[swp_size];exact bg) hP av),rfl,rfl,by simp only;omega,by simp only;omega,by simp only;omega⟩
 ·rintro R H1⟨⟨di,hd,bg,hP,av⟩,bh⟩
  simp -implicitDefEqProofs only[op,ef,cl,sq,reduceIte,j2,j3,j4,j5,j6,j7,j8,j9,y1,S1,bh]
  exact⟨di,hd,bg,hP,av⟩
set_option maxHeartbeats 8000000
open Go.Sort in
theorem LC {a i j si sj:Nat}{d:Array Nm}(hi:si=scanUp (fun x=>a0 x d[a]!) d j i)(hj:sj=scanDown (fun x=>!a0 x d[a]!) d si j):partLoop a0 a i j d=if si>sj then(sj,d)else if (sj-1)+1-(si+1)<j+1-i then partLoop a0 a (si+1) (sj-1) (swp d si sj)else(sj,d):=by
 subst hi;subst hj
 rw[partLoop]
 rfl
open Go.Sort in
theorem QK (c n:Nat)(d:Array Nm)(a b pv:Nat)(H:af)(hn:d.size=n)(hc:H[c]?=some (.cells (aP eN d.toList)))(hb:b≤n)(gY:a<b)(nk:pv<n)(hs:n<2305843009213693951) :
  W env (.call 139 [.aC c 0 n 2,.int .i64 a,.int .i64 b,.int .i64 pv,.fn 61 []]) H (fun o H'=>o=.val (.bC [.int .i64 (partition a0 d a b pv).1,.bool (partition a0 d a b pv).2.1])∧SC c n H (fun x=>x=(partition a0 d a b pv).2.2) H'):=by
 refine W.bA rfl rfl rfl ?_
 have hd:=hc
 have lc:=aQ hd
 simp -implicitDefEqProofs (maxSteps:=1000000) (disch:=omega) only[G2,aa,aU,aV,aW,aX,aY,aZ,wA,bf,wS,ba,wM,S2,op,ef,cl,sq,reduceIte,j2,j3,j4,j5,j6,j7,j8,j9,y1,S1,hd,lc]
 obtain⟨d1,qt,Ai,e1,qa⟩:=SC.swp (n:=n) (P:=fun x=>x=swp d a pv) (x:=.cells (aP eN (d.toList.set a d[pv]!))) hd (by rw[Go.Sort.swp_size];exact hn) rfl (a6.refl (fun x=>x=c) H)
 subst e1
 generalize ((H.set c (.cells (aP eN (d.toList.set a d[pv]!)))).set c (.cells (aP eN (swp d a pv).toList)))=H1 at *
 have hd:=qt
 have av:=qa
 obtain⟨si,qe⟩:∃si,si=scanUp (fun x=>a0 x (swp d a pv)[a]!) (swp d a pv) (b-1) (a+1):=⟨_,rfl⟩
 refine W.cV 0 (fun (k:Nat) R H'=>At H' (fun H'=>H'[c]?=some (.cells (aP eN (swp d a pv).toList))∧a6 (fun x=>x=c) H H')∧R 0=.aC c 0 n 2∧R 1=.int .i64 a∧R 4=.fn 61 []∧R 12=.int .i64 k∧R 13=.int .i64 ((b-1):Nat)∧(a+1)≤k∧k≤n∧scanUp (fun x=>a0 x (swp d a pv)[a]!) (swp d a pv) ((b-1)) k=si) (fun k=>(b-1)+1-k) ((a+1))
  (fun R H'=>At H' (fun H'=>H'[c]?=some (.cells (aP eN (swp d a pv).toList))∧a6 (fun x=>x=c) H H')∧R 0=.aC c 0 n 2∧R 1=.int .i64 a∧R 4=.fn 61 []∧R 12=.int .i64 si∧R 13=.int .i64 ((b-1):Nat)∧(a+1)≤si∧si≤n) ⟨.i ⟨hd,av⟩,rfl,rfl,rfl,rfl,rfl,Nat.le_refl _,by omega,qe.symm⟩ ?_ ?_
 ·rintro k R H2⟨⟨hd,av⟩,h0,h1,h4,aD,bn,sH,pZ,hk⟩
  have lc:=aQ hd
  by_cases fk:k≤(b-1)
  ·simp -implicitDefEqProofs (maxSteps:=1000000) (disch:=omega) only[aa,aU,aV,aW,aX,aY,aZ,wA,bf,wS,ba,wM,S2,op,ef,cl,sq,reduceIte,j2,j3,j4,j5,j6,j7,j8,j9,y1,S1,h0,h1,h4,aD,bn,fk,hd,lc]
   refine mq _ _ _ _ _ _ _ (by simp -implicitDefEqProofs (maxSteps:=1000000) (disch:=omega) only[aa,aU,aV,aW,aX,aY,aZ,wA,bf,wS,ba,wM,S2,op,ef,cl,sq,reduceIte,j2,j3,j4,j5,j6,j7,j8,j9,y1,S1,h0,h1,h4,aD,bn,fk,hd,lc]) ?_
   simp -implicitDefEqProofs (maxSteps:=1000000) (disch:=omega) only[aa,aU,aV,aW,aX,aY,aZ,wA,bf,wS,ba,wM,S2,op,ef,cl,sq,reduceIte,j2,j3,j4,j5,j6,j7,j8,j9,y1,S1,cG,h0,h1,h4,aD,bn,fk,hd,lc,List.append_nil]
   refine ae _ _ _ _ _ _ _ _ (cw (swp d a pv)[k]! (swp d a pv)[a]! _) ?_
   rintro u H3⟨hu,hx⟩
   cases hu
   have hx:Ext H2 H3:=hx
   have hd:=hx.get hd
   have lc:=aQ hd
   have av:=av.trans (aB (F:=fun _=>False) hx) (fun _ h=>h.elim)
   have du:a0 (swp d a pv)[k]! (swp d a pv)[a]! = decide (dX (swp d a pv)[k]! (swp d a pv)[a]!<0):=rfl
   by_cases c1:dX (swp d a pv)[k]! (swp d a pv)[a]!<0
   ·simp -implicitDefEqProofs (maxSteps:=1000000) (disch:=omega) only[aa,aU,aV,aW,aX,aY,aZ,wA,bf,wS,ba,wM,S2,op,ef,cl,sq,reduceIte,j2,j3,j4,j5,j6,j7,j8,j9,y1,S1,h0,h1,h4,aD,bn,fk,c1]
    rw[scanUp,if_pos (gu (cA fk) (du.trans (cA c1)))]at hk
    exact⟨k+1,by omega,.i ⟨hd,av⟩,rfl,by omega,by omega,hk⟩
   ·simp -implicitDefEqProofs (maxSteps:=1000000) (disch:=omega) only[aa,aU,aV,aW,aX,aY,aZ,wA,bf,wS,ba,wM,S2,op,ef,cl,sq,reduceIte,j2,j3,j4,j5,j6,j7,j8,j9,y1,S1,h0,h1,h4,aD,bn,fk,c1]
    rw[scanUp,if_neg (eu (du.trans (cy c1)))]at hk
    subst hk
    exact⟨.i ⟨hd,av⟩,rfl,sH,pZ⟩
  ·simp -implicitDefEqProofs only[op,ef,cl,sq,reduceIte,j2,j3,j4,j5,j6,j7,j8,j9,y1,S1,h0,h1,h4,aD,bn,fk]
   rw[scanUp,if_neg (dC (cy fk))]at hk
   subst hk
   exact⟨.i ⟨hd,av⟩,rfl,sH,pZ⟩
 ·rintro R H2⟨⟨hd,av⟩,h0,h1,h4,aD,bn,Aq,HL⟩
  simp -implicitDefEqProofs only[op,ef,cl,sq,reduceIte,j2,j3,j4,j5,j6,j7,j8,j9,y1,S1,h0,h1,h4,aD,bn]
  obtain⟨sj,ua⟩:∃sj,sj=scanDown (fun x=>!a0 x (swp d a pv)[a]!) (swp d a pv) si (b-1):=⟨_,rfl⟩
  refine W.cV 2 (fun (k:Nat) R H'=>At H' (fun H'=>H'[c]?=some (.cells (aP eN (swp d a pv).toList))∧a6 (fun x=>x=c) H H')∧R 0=.aC c 0 n 2∧R 1=.int .i64 a∧R 4=.fn 61 []∧R 12=.int .i64 si∧R 13=.int .i64 k∧k≤(b-1)∧scanDown (fun x=>!a0 x (swp d a pv)[a]!) (swp d a pv) si k=sj) (fun k=>k) ((b-1))
   (fun R H'=>At H' (fun H'=>H'[c]?=some (.cells (aP eN (swp d a pv).toList))∧a6 (fun x=>x=c) H H')∧R 0=.aC c 0 n 2∧R 1=.int .i64 a∧R 4=.fn 61 []∧R 12=.int .i64 si∧R 13=.int .i64 sj∧sj≤(b-1)) ⟨.i ⟨hd,av⟩,h0,h1,h4,aD,bn,Nat.le_refl _,ua.symm⟩ ?_ ?_
  ·rintro k R H3⟨⟨hd,av⟩,h0,h1,h4,aD,bn,fk,hk⟩
   have lc:=aQ hd
   rw[mC (by omega)]at hk
   by_cases bT:si≤k
   ·simp -implicitDefEqProofs (maxSteps:=1000000) (disch:=omega) only[aa,aU,aV,aW,aX,aY,aZ,wA,bf,wS,ba,wM,S2,op,ef,cl,sq,reduceIte,j2,j3,j4,j5,j6,j7,j8,j9,y1,S1,h0,h1,h4,aD,bn,bT,hd,lc]
    refine mq _ _ _ _ _ _ _ (by simp -implicitDefEqProofs (maxSteps:=1000000) (disch:=omega) only[aa,aU,aV,aW,aX,aY,aZ,wA,bf,wS,ba,wM,S2,op,ef,cl,sq,reduceIte,j2,j3,j4,j5,j6,j7,j8,j9,y1,S1,h0,h1,h4,aD,bn,bT,hd,lc]) ?_
    simp -implicitDefEqProofs (maxSteps:=1000000) (disch:=omega) only[aa,aU,aV,aW,aX,aY,aZ,wA,bf,wS,ba,wM,S2,op,ef,cl,sq,reduceIte,j2,j3,j4,j5,j6,j7,j8,j9,y1,S1,cG,h0,h1,h4,aD,bn,bT,hd,lc,List.append_nil]
    refine ae _ _ _ _ _ _ _ _ (cw (swp d a pv)[k]! (swp d a pv)[a]! _) ?_
    rintro u H4⟨hu,hx⟩
    cases hu
    have hx:Ext H3 H4:=hx
    have hd:=hx.get hd
    have lc:=aQ hd
    have av:=av.trans (aB (F:=fun _=>False) hx) (fun _ h=>h.elim)
    have du:a0 (swp d a pv)[k]! (swp d a pv)[a]! = decide (dX (swp d a pv)[k]! (swp d a pv)[a]!<0):=rfl
    by_cases c1:dX (swp d a pv)[k]! (swp d a pv)[a]!<0
    ·simp -implicitDefEqProofs (maxSteps:=1000000) (disch:=omega) only[aa,aU,aV,aW,aX,aY,aZ,wA,bf,wS,ba,wM,S2,op,ef,cl,sq,reduceIte,j2,j3,j4,j5,j6,j7,j8,j9,y1,S1,h0,h1,h4,aD,bn,bT,c1]
     rw[if_neg (eu (by rw[du,cA c1];rfl))]at hk
     subst hk
     exact⟨.i ⟨hd,av⟩,rfl,fk⟩
    ·simp -implicitDefEqProofs (maxSteps:=1000000) (disch:=omega) only[aa,aU,aV,aW,aX,aY,aZ,wA,bf,wS,ba,wM,S2,op,ef,cl,sq,reduceIte,j2,j3,j4,j5,j6,j7,j8,j9,y1,S1,h0,h1,h4,aD,bn,bT,c1]
     rw[if_pos (gu (cA bT) (fD (du.trans (cy c1))))]at hk
     exact⟨k-1,by omega,.i ⟨hd,av⟩,rfl,by omega,hk⟩
   ·simp -implicitDefEqProofs only[op,ef,cl,sq,reduceIte,j2,j3,j4,j5,j6,j7,j8,j9,y1,S1,h0,h1,h4,aD,bn,bT]
    rw[if_neg (dC (cy bT))]at hk
    subst hk
    exact⟨.i ⟨hd,av⟩,rfl,fk⟩
  ·rintro R H3⟨⟨hd,av⟩,h0,h1,h4,aD,bn,HM⟩
   have lc:=aQ hd
   by_cases lg:sj<si
   ·have e:partition a0 d a b pv=(sj,true,swp (swp d a pv) sj a):=by
     simp -implicitDefEqProofs only[partition,←qe,←ua,gt_iff_lt,if_pos lg]
    rw[e]
    simp -implicitDefEqProofs (maxSteps:=1000000) (disch:=omega) only[aa,aU,aV,aW,aX,aY,aZ,wA,bf,wS,ba,wM,S2,op,ef,cl,sq,reduceIte,j2,j3,j4,j5,j6,j7,j8,j9,y1,S1,h0,h1,h4,aD,bn,lg,hd,lc]
    exact .swp hd (by rw[swp_size];exact Ai) rfl av
   ·obtain⟨r,hr⟩:∃r,r=partLoop a0 a (si+1) (sj-1) (swp (swp d a pv) si sj):=⟨_,rfl⟩
    have e:partition a0 d a b pv=(r.1,false,swp r.2 r.1 a):=by
     simp -implicitDefEqProofs only[partition,←qe,←ua,gt_iff_lt,if_neg lg,←hr]
    rw[e]
    simp -implicitDefEqProofs (maxSteps:=1000000) (disch:=omega) only[aa,aU,aV,aW,aX,aY,aZ,wA,bf,wS,ba,wM,S2,op,ef,cl,sq,reduceIte,j2,j3,j4,j5,j6,j7,j8,j9,y1,S1,h0,h1,h4,aD,bn,lg,hd,lc]
    obtain⟨d2,cE,jd,e2,ew⟩:=SC.swp (n:=n) (P:=fun x=>x=swp (swp d a pv) si sj) (x:=.cells (aP eN ((swp d a pv).toList.set si (swp d a pv)[sj]!))) hd (by rw[swp_size];exact Ai) rfl av
    subst e2
    generalize ((H3.set c (.cells (aP eN ((swp d a pv).toList.set si (swp d a pv)[sj]!)))).set c (.cells (aP eN (swp (swp d a pv) si sj).toList)))=H5 at *
    refine W.cV 4 (fun (q:Nat×Nat) R H'=>At H' (fun H'=>SC c n H (fun di=>partLoop a0 a q.1 q.2 di=r) H')∧R 0=.aC c 0 n 2∧R 1=.int .i64 a∧R 4=.fn 61 []∧R 12=.int .i64 q.1∧R 13=.int .i64 q.2∧a<q.1∧q.2<n∧q.1≤n) (fun q=>q.2+1-q.1) (si+1,sj-1)
     (fun R H'=>At H' (fun H'=>SC c n H (fun di=>di=r.2) H')∧R 0=.aC c 0 n 2∧R 1=.int .i64 a∧R 4=.fn 61 []∧R 13=.int .i64 r.1∧r.1<n) ⟨.i ⟨_,cE,jd,hr.symm,ew⟩,?_,?_,?_,?_,?_,by simp only;omega,by simp only;omega,by simp only;omega⟩ ?_ ?_
    ·simp -implicitDefEqProofs only[op,ef,cl,sq,reduceIte,j2,j3,j4,j5,j6,j7,j8,j9,y1,S1,h0]
    ·simp -implicitDefEqProofs only[op,ef,cl,sq,reduceIte,j2,j3,j4,j5,j6,j7,j8,j9,y1,S1,h1]
    ·simp -implicitDefEqProofs only[op,ef,cl,sq,reduceIte,j2,j3,j4,j5,j6,j7,j8,j9,y1,S1,h4]
    ·simp -implicitDefEqProofs only[op,ef,cl,sq,reduceIte,j2,j3,j4,j5,j6,j7,j8,j9,y1,S1,aD]
    ·simp -implicitDefEqProofs only[op,ef,cl,sq,reduceIte,j2,j3,j4,j5,j6,j7,j8,j9,y1,S1,bn]
    ·rintro⟨i,j⟩ R H1 ⟨⟨di,hd,bg,hP,av⟩,h0,h1,h4,aD,bn,HE,zM,iI⟩
     simp only at hP aD bn HE zM iI ⊢
     simp -implicitDefEqProofs only[op,ef,cl,sq,reduceIte,j2,j3,j4,j5,j6,j7,j8,j9,y1,S1,h0,h1,h4,aD,bn]
     clear qe ua
     obtain⟨si,qe⟩:∃si,si=scanUp (fun x=>a0 x di[a]!) di j i:=⟨_,rfl⟩
     refine W.cV 6 (fun (k:Nat) R H'=>At H' (fun H'=>H'[c]?=some (.cells (aP eN di.toList))∧a6 (fun x=>x=c) H H')∧R 0=.aC c 0 n 2∧R 1=.int .i64 a∧R 4=.fn 61 []∧R 12=.int .i64 k∧R 13=.int .i64 (j:Nat)∧i≤k∧k≤n∧scanUp (fun x=>a0 x di[a]!) di (j) k=si) (fun k=>j+1-k) (i)
      (fun R H'=>At H' (fun H'=>H'[c]?=some (.cells (aP eN di.toList))∧a6 (fun x=>x=c) H H')∧R 0=.aC c 0 n 2∧R 1=.int .i64 a∧R 4=.fn 61 []∧R 12=.int .i64 si∧R 13=.int .i64 (j:Nat)∧i≤si∧si≤n) ⟨.i ⟨hd,av⟩,h0,h1,h4,aD,bn,Nat.le_refl _,by omega,qe.symm⟩ ?_ ?_
     ·rintro k R H2⟨⟨hd,av⟩,h0,h1,h4,aD,bn,sH,pZ,hk⟩
      have lc:=aQ hd
      by_cases fk:k≤j
      ·simp -implicitDefEqProofs (maxSteps:=1000000) (disch:=omega) only[aa,aU,aV,aW,aX,aY,aZ,wA,bf,wS,ba,wM,S2,op,ef,cl,sq,reduceIte,j2,j3,j4,j5,j6,j7,j8,j9,y1,S1,h0,h1,h4,aD,bn,fk,hd,lc]
       refine mq _ _ _ _ _ _ _ (by simp -implicitDefEqProofs (maxSteps:=1000000) (disch:=omega) only[aa,aU,aV,aW,aX,aY,aZ,wA,bf,wS,ba,wM,S2,op,ef,cl,sq,reduceIte,j2,j3,j4,j5,j6,j7,j8,j9,y1,S1,h0,h1,h4,aD,bn,fk,hd,lc]) ?_
       simp -implicitDefEqProofs (maxSteps:=1000000) (disch:=omega) only[aa,aU,aV,aW,aX,aY,aZ,wA,bf,wS,ba,wM,S2,op,ef,cl,sq,reduceIte,j2,j3,j4,j5,j6,j7,j8,j9,y1,S1,cG,h0,h1,h4,aD,bn,fk,hd,lc,List.append_nil]
       refine ae _ _ _ _ _ _ _ _ (cw di[k]! di[a]! _) ?_
       rintro u H3⟨hu,hx⟩
       cases hu
       have hx:Ext H2 H3:=hx
       have hd:=hx.get hd
       have lc:=aQ hd
       have av:=av.trans (aB (F:=fun _=>False) hx) (fun _ h=>h.elim)
       have du:a0 di[k]! di[a]! = decide (dX di[k]! di[a]!<0):=rfl
       by_cases c1:dX di[k]! di[a]!<0
       ·simp -implicitDefEqProofs (maxSteps:=1000000) (disch:=omega) only[aa,aU,aV,aW,aX,aY,aZ,wA,bf,wS,ba,wM,S2,op,ef,cl,sq,reduceIte,j2,j3,j4,j5,j6,j7,j8,j9,y1,S1,h0,h1,h4,aD,bn,fk,c1]
        rw[scanUp,if_pos (gu (cA fk) (du.trans (cA c1)))]at hk
        exact⟨k+1,by omega,.i ⟨hd,av⟩,rfl,by omega,by omega,hk⟩
       ·simp -implicitDefEqProofs (maxSteps:=1000000) (disch:=omega) only[aa,aU,aV,aW,aX,aY,aZ,wA,bf,wS,ba,wM,S2,op,ef,cl,sq,reduceIte,j2,j3,j4,j5,j6,j7,j8,j9,y1,S1,h0,h1,h4,aD,bn,fk,c1]
        rw[scanUp,if_neg (eu (du.trans (cy c1)))]at hk
        subst hk
        exact⟨.i ⟨hd,av⟩,rfl,sH,pZ⟩
      ·simp -implicitDefEqProofs only[op,ef,cl,sq,reduceIte,j2,j3,j4,j5,j6,j7,j8,j9,y1,S1,h0,h1,h4,aD,bn,fk]
       rw[scanUp,if_neg (dC (cy fk))]at hk
       subst hk
       exact⟨.i ⟨hd,av⟩,rfl,sH,pZ⟩
     ·rintro R H2⟨⟨hd,av⟩,h0,h1,h4,aD,bn,Aq,HL⟩
      simp -implicitDefEqProofs only[op,ef,cl,sq,reduceIte,j2,j3,j4,j5,j6,j7,j8,j9,y1,S1,h0,h1,h4,aD,bn]
      obtain⟨sj,ua⟩:∃sj,sj=scanDown (fun x=>!a0 x di[a]!) di si j:=⟨_,rfl⟩
      refine W.cV 8 (fun (k:Nat) R H'=>At H' (fun H'=>H'[c]?=some (.cells (aP eN di.toList))∧a6 (fun x=>x=c) H H')∧R 0=.aC c 0 n 2∧R 1=.int .i64 a∧R 4=.fn 61 []∧R 12=.int .i64 si∧R 13=.int .i64 k∧k≤j∧scanDown (fun x=>!a0 x di[a]!) di si k=sj) (fun k=>k) (j)
       (fun R H'=>At H' (fun H'=>H'[c]?=some (.cells (aP eN di.toList))∧a6 (fun x=>x=c) H H')∧R 0=.aC c 0 n 2∧R 1=.int .i64 a∧R 4=.fn 61 []∧R 12=.int .i64 si∧R 13=.int .i64 sj∧sj≤j) ⟨.i ⟨hd,av⟩,h0,h1,h4,aD,bn,Nat.le_refl _,ua.symm⟩ ?_ ?_
      ·rintro k R H3⟨⟨hd,av⟩,h0,h1,h4,aD,bn,fk,hk⟩
       have lc:=aQ hd
       rw[mC (by omega)]at hk
       by_cases bT:si≤k
       ·simp -implicitDefEqProofs (maxSteps:=1000000) (disch:=omega) only[aa,aU,aV,aW,aX,aY,aZ,wA,bf,wS,ba,wM,S2,op,ef,cl,sq,reduceIte,j2,j3,j4,j5,j6,j7,j8,j9,y1,S1,h0,h1,h4,aD,bn,bT,hd,lc]
        refine mq _ _ _ _ _ _ _ (by simp -implicitDefEqProofs (maxSteps:=1000000) (disch:=omega) only[aa,aU,aV,aW,aX,aY,aZ,wA,bf,wS,ba,wM,S2,op,ef,cl,sq,reduceIte,j2,j3,j4,j5,j6,j7,j8,j9,y1,S1,h0,h1,h4,aD,bn,bT,hd,lc]) ?_
        simp -implicitDefEqProofs (maxSteps:=1000000) (disch:=omega) only[aa,aU,aV,aW,aX,aY,aZ,wA,bf,wS,ba,wM,S2,op,ef,cl,sq,reduceIte,j2,j3,j4,j5,j6,j7,j8,j9,y1,S1,cG,h0,h1,h4,aD,bn,bT,hd,lc,List.append_nil]
        refine ae _ _ _ _ _ _ _ _ (cw di[k]! di[a]! _) ?_
        rintro u H4⟨hu,hx⟩
        cases hu
        have hx:Ext H3 H4:=hx
        have hd:=hx.get hd
        have lc:=aQ hd
        have av:=av.trans (aB (F:=fun _=>False) hx) (fun _ h=>h.elim)
        have du:a0 di[k]! di[a]! = decide (dX di[k]! di[a]!<0):=rfl
        by_cases c1:dX di[k]! di[a]!<0
        ·simp -implicitDefEqProofs (maxSteps:=1000000) (disch:=omega) only[aa,aU,aV,aW,aX,aY,aZ,wA,bf,wS,ba,wM,S2,op,ef,cl,sq,reduceIte,j2,j3,j4,j5,j6,j7,j8,j9,y1,S1,h0,h1,h4,aD,bn,bT,c1]
         rw[if_neg (eu (by rw[du,cA c1];rfl))]at hk
         subst hk
         exact⟨.i ⟨hd,av⟩,rfl,fk⟩
        ·simp -implicitDefEqProofs (maxSteps:=1000000) (disch:=omega) only[aa,aU,aV,aW,aX,aY,aZ,wA,bf,wS,ba,wM,S2,op,ef,cl,sq,reduceIte,j2,j3,j4,j5,j6,j7,j8,j9,y1,S1,h0,h1,h4,aD,bn,bT,c1]
         rw[if_pos (gu (cA bT) (fD (du.trans (cy c1))))]at hk
         exact⟨k-1,by omega,.i ⟨hd,av⟩,rfl,by omega,hk⟩
       ·simp -implicitDefEqProofs only[op,ef,cl,sq,reduceIte,j2,j3,j4,j5,j6,j7,j8,j9,y1,S1,h0,h1,h4,aD,bn,bT]
        rw[if_neg (dC (cy bT))]at hk
        subst hk
        exact⟨.i ⟨hd,av⟩,rfl,fk⟩
      ·rintro R H3⟨⟨hd,av⟩,h0,h1,h4,aD,bn,HM⟩
       have lc:=aQ hd
       rw[LC qe ua]at hP
       by_cases lg:sj<si
       ·rw[if_pos lg]at hP
        simp -implicitDefEqProofs only[op,ef,cl,sq,reduceIte,j2,j3,j4,j5,j6,j7,j8,j9,y1,S1,h0,h1,h4,aD,bn,lg]
        exact⟨.i ⟨di,hd,bg,by rw[←hP],av⟩,by rw[←hP],by rw[←hP];simp only;omega⟩
       ·rw[if_neg lg,if_pos (by omega)]at hP
        simp -implicitDefEqProofs (maxSteps:=1000000) (disch:=omega) only[aa,aU,aV,aW,aX,aY,aZ,wA,bf,wS,ba,wM,S2,op,ef,cl,sq,reduceIte,j2,j3,j4,j5,j6,j7,j8,j9,y1,S1,h0,h1,h4,aD,bn,lg,hd,lc]
        exact⟨(si+1,sj-1),by simp only;omega,.i (.swp hd (by rw[swp_size];exact bg) hP av),rfl,rfl,by simp only;omega,by simp only;omega,by simp only;omega⟩
    ·rintro R H1⟨⟨di,hd,bg,rfl,av⟩,h0,h1,h4,bn,DW⟩
     have lc:=aQ hd
     simp -implicitDefEqProofs (maxSteps:=1000000) (disch:=omega) only[aa,aU,aV,aW,aX,aY,aZ,wA,bf,wS,ba,wM,S2,op,ef,cl,sq,reduceIte,j2,j3,j4,j5,j6,j7,j8,j9,y1,S1,h0,h1,h4,bn,hd,lc]
     exact .swp hd (by rw[swp_size];exact bg) rfl av
set_option maxHeartbeats 8000000
open Go.Sort in
theorem shiftDown_eq {d:Array Nm}{k:Nat}(h:1≤k):shiftDown a0 k d=if (!a0 d[k]! d[k-1]!)=true then d else shiftDown a0 (k-1) (swp d k (k-1)):=by
 cases k with
 | zero=>omega
 | succ k=>rw[shiftDown];rfl
open Go.Sort in
theorem QL (c n:Nat)(d:Array Nm)(a b:Nat)(H:af)(hn:d.size=n)(hc:H[c]?=some (.cells (aP eN d.toList)))(hb:b≤n)(gY:a<b)(hs:n<2305843009213693951) :
  W env (.call 137 [.aC c 0 n 2,.int .i64 a,.int .i64 b,.fn 61 []]) H (fun o H'=>o=.val (.bool (partialInsertionSort a0 d a b).2)∧SC c n H (fun x=>x=(partialInsertionSort a0 d a b).1) H'):=by
 refine W.bA rfl rfl rfl ?_
 obtain⟨r,hr⟩:∃r,r=partialInsertionSort a0 d a b:=⟨_,rfl⟩
 rw[←hr]
 simp -implicitDefEqProofs (maxSteps:=1000000) (disch:=omega) only[G0,aa,aU,aV,aW,aX,aY,aZ,wA,bf,wS,ba,wM,S2,op,ef,cl,sq,reduceIte,j2,j3,j4,j5,j6,j7,j8,j9,y1,S1]
 refine W.cV 0 (fun (j:Nat) R H'=>At H' (fun H'=>∃i,R 9=.int .i64 (i:Nat)∧a<i∧i≤b∧SC c n H (fun di=>partialIns a0 a b (5-j) i di=r) H')∧R 0=.aC c 0 n 2∧R 1=.int .i64 a∧R 2=.int .i64 b∧R 3=.fn 61 []∧R 10=.int .i64 j∧j≤5) (fun j=>5-j) 0
  (fun R H'=>At H' (fun H'=>SC c n H (fun di=>(di,false)=r) H')) ⟨.i ⟨a+1,rfl,by omega,by omega,d,hc,hn,hr.symm,a6.refl _ _⟩,rfl,rfl,rfl,rfl,rfl,by omega⟩ ?_ ?_
 ·rintro j R H1⟨⟨i,h9,HE,hib,di,hd,bg,hP,av⟩,h0,h1,h2,h3,aG,hj⟩
  by_cases hj5:j<5
  rotate_left
  ·have:j=5:=by omega
   subst this
   simp -implicitDefEqProofs only[op,ef,cl,sq,reduceIte,j2,j3,j4,j5,j6,j7,j8,j9,y1,S1,h0,h1,h2,h3,aG]
   exact .i ⟨di,hd,bg,hP,av⟩
  obtain⟨s,QM⟩:∃s,5-j=s+1:=⟨4-j,by omega⟩
  have wh:5-(j+1)=s:=by omega
  rw[QM,partialIns]at hP
  simp -implicitDefEqProofs only[op,ef,cl,sq,reduceIte,j2,j3,j4,j5,j6,j7,j8,j9,y1,S1,h0,h1,h2,h3,aG,hj5]
  obtain⟨si,qe⟩:∃si,si=scanSorted a0 di b i:=⟨_,rfl⟩
  rw[←qe]at hP
  refine W.cV 2 (fun (k:Nat) R H'=>At H' (fun H'=>H'[c]?=some (.cells (aP eN di.toList))∧a6 (fun x=>x=c) H H')∧R 0=.aC c 0 n 2∧R 1=.int .i64 a∧R 2=.int .i64 b∧R 3=.fn 61 []∧R 9=.int .i64 k∧R 10=.int .i64 j∧i≤k∧k≤b∧scanSorted a0 di b k=si) (fun k=>b-k) i
   (fun R H'=>At H' (fun H'=>H'[c]?=some (.cells (aP eN di.toList))∧a6 (fun x=>x=c) H H')∧R 0=.aC c 0 n 2∧R 1=.int .i64 a∧R 2=.int .i64 b∧R 3=.fn 61 []∧R 9=.int .i64 si∧R 10=.int .i64 j∧i≤si∧si≤b) ⟨.i ⟨hd,av⟩,?_,?_,?_,?_,?_,?_,Nat.le_refl _,hib,qe.symm⟩ ?_ ?_
  ·simp -implicitDefEqProofs only[op,ef,cl,sq,reduceIte,j2,j3,j4,j5,j6,j7,j8,j9,y1,S1,h0]
  ·simp -implicitDefEqProofs only[op,ef,cl,sq,reduceIte,j2,j3,j4,j5,j6,j7,j8,j9,y1,S1,h1]
  ·simp -implicitDefEqProofs only[op,ef,cl,sq,reduceIte,j2,j3,j4,j5,j6,j7,j8,j9,y1,S1,h2]
  ·simp -implicitDefEqProofs only[op,ef,cl,sq,reduceIte,j2,j3,j4,j5,j6,j7,j8,j9,y1,S1,h3]
  ·simp -implicitDefEqProofs only[op,ef,cl,sq,reduceIte,j2,j3,j4,j5,j6,j7,j8,j9,y1,S1,h9]
  ·simp -implicitDefEqProofs only[op,ef,cl,sq,reduceIte,j2,j3,j4,j5,j6,j7,j8,j9,y1,S1,aG]
  ·rintro k R H2⟨⟨hd,av⟩,h0,h1,h2,h3,h9,aG,sH,CF,hk⟩
   have lc:=aQ hd
   by_cases bT:k<b
   ·simp -implicitDefEqProofs (maxSteps:=1000000) (disch:=omega) only[aa,aU,aV,aW,aX,aY,aZ,wA,bf,wS,ba,wM,S2,op,ef,cl,sq,reduceIte,j2,j3,j4,j5,j6,j7,j8,j9,y1,S1,h0,h1,h2,h3,h9,aG,bT,hd,lc]
    refine mq _ _ _ _ _ _ _ (by simp -implicitDefEqProofs (maxSteps:=1000000) (disch:=omega) only[aa,aU,aV,aW,aX,aY,aZ,wA,bf,wS,ba,wM,S2,op,ef,cl,sq,reduceIte,j2,j3,j4,j5,j6,j7,j8,j9,y1,S1,h0,h1,h2,h3,h9,aG,bT,hd,lc]) ?_
    simp -implicitDefEqProofs (maxSteps:=1000000) (disch:=omega) only[aa,aU,aV,aW,aX,aY,aZ,wA,bf,wS,ba,wM,S2,op,ef,cl,sq,reduceIte,j2,j3,j4,j5,j6,j7,j8,j9,y1,S1,cG,h0,h1,h2,h3,h9,aG,bT,hd,lc,List.append_nil]
    refine ae _ _ _ _ _ _ _ _ (cw di[k]! di[k-1]! _) ?_
    rintro u H3⟨hu,hx⟩
    cases hu
    have hx:Ext H2 H3:=hx
    have hd:=hx.get hd
    have lc:=aQ hd
    have av:=av.trans (aB (F:=fun _=>False) hx) (fun _ h=>h.elim)
    have du:a0 di[k]! di[k-1]! = decide (dX di[k]! di[k-1]!<0):=rfl
    by_cases c1:dX di[k]! di[k-1]!<0
    ·simp -implicitDefEqProofs (maxSteps:=1000000) (disch:=omega) only[aa,aU,aV,aW,aX,aY,aZ,wA,bf,wS,ba,wM,S2,op,ef,cl,sq,reduceIte,j2,j3,j4,j5,j6,j7,j8,j9,y1,S1,h0,h1,h2,h3,h9,aG,bT,c1]
     rw[scanSorted,if_neg (eu (by rw[du,cA c1];rfl))]at hk
     subst hk
     exact⟨.i ⟨hd,av⟩,rfl,sH,CF⟩
    ·simp -implicitDefEqProofs (maxSteps:=1000000) (disch:=omega) only[aa,aU,aV,aW,aX,aY,aZ,wA,bf,wS,ba,wM,S2,op,ef,cl,sq,reduceIte,j2,j3,j4,j5,j6,j7,j8,j9,y1,S1,h0,h1,h2,h3,h9,aG,bT,c1]
     rw[scanSorted,if_pos (gu (cA bT) (fD (du.trans (cy c1))))]at hk
     exact⟨k+1,by omega,.i ⟨hd,av⟩,rfl,by omega,by omega,hk⟩
   ·simp -implicitDefEqProofs only[op,ef,cl,sq,reduceIte,j2,j3,j4,j5,j6,j7,j8,j9,y1,S1,h0,h1,h2,h3,h9,aG,bT]
    rw[scanSorted,if_neg (dC (cy bT))]at hk
    subst hk
    exact⟨.i ⟨hd,av⟩,rfl,sH,CF⟩
  ·rintro R H2⟨⟨hd,av⟩,h0,h1,h2,h3,h9,aG,Aq,ac1⟩
   have lc:=aQ hd
   by_cases kF:si=b
   ·rw[if_pos kF]at hP
    have e1:((si:Int)==(b:Int))=true:=by rw[kF];simp
    simp -implicitDefEqProofs (maxSteps:=1000000) (disch:=omega) only[aa,aU,aV,aW,aX,aY,aZ,wA,bf,wS,ba,wM,S2,op,ef,cl,sq,reduceIte,j2,j3,j4,j5,j6,j7,j8,j9,y1,S1,h0,h1,h2,h3,h9,aG,e1]
    rw[←hP]
    exact⟨rfl,di,hd,bg,rfl,av⟩
   rw[if_neg kF]at hP
   have e1:((si:Int)==(b:Int))=false:=by simp;omega
   by_cases we:b-a<50
   ·rw[if_pos we]at hP
    simp -implicitDefEqProofs (maxSteps:=1000000) (disch:=omega) only[aa,aU,aV,aW,aX,aY,aZ,wA,bf,wS,ba,wM,S2,op,ef,cl,sq,reduceIte,j2,j3,j4,j5,j6,j7,j8,j9,y1,S1,h0,h1,h2,h3,h9,aG,e1,we]
    rw[←hP]
    exact⟨rfl,di,hd,bg,rfl,av⟩
   rw[if_neg we]at hP
   simp -implicitDefEqProofs (maxSteps:=1000000) (disch:=omega) only[aa,aU,aV,aW,aX,aY,aZ,wA,bf,wS,ba,wM,S2,op,ef,cl,sq,reduceIte,j2,j3,j4,j5,j6,j7,j8,j9,y1,S1,h0,h1,h2,h3,h9,aG,e1,we,hd,lc]
   obtain⟨d3,oW⟩:∃d3,d3=if si-a≥2 then shiftDown a0 (si-1) (swp di si (si-1))else swp di si (si-1):=⟨_,rfl⟩
   obtain⟨d4,sI⟩:∃d4,d4=if b-si≥2 then shiftUp a0 b (si+1) d3 else d3:=⟨_,rfl⟩
   have hP:partialIns a0 a b s si d4=r:=by rw[sI,oW];exact hP
   obtain⟨d2,cE,jd,e2,ew⟩:=SC.swp (n:=n) (P:=fun x=>x=swp di si (si-1)) (x:=.cells (aP eN (di.toList.set si di[si-1]!))) hd (by rw[swp_size];exact bg) rfl av
   subst e2
   generalize ((H2.set c (.cells (aP eN (di.toList.set si di[si-1]!)))).set c (.cells (aP eN (swp di si (si-1)).toList)))=H5 at *
   by_cases hA:2≤si-a
   ·rw[if_pos hA]at oW
    simp -implicitDefEqProofs (maxSteps:=1000000) (disch:=omega) only[aa,aU,aV,aW,aX,aY,aZ,wA,bf,wS,ba,wM,S2,op,ef,cl,sq,reduceIte,j2,j3,j4,j5,j6,j7,j8,j9,y1,S1,h0,h1,h2,h3,h9,aG,hA]
    refine W.cV 4 (fun (k:Nat) R H'=>At H' (fun H'=>SC c n H (fun dx=>shiftDown a0 k dx=d3) H')∧R 0=.aC c 0 n 2∧R 1=.int .i64 a∧R 2=.int .i64 b∧R 3=.fn 61 []∧R 9=.int .i64 si∧R 10=.int .i64 j∧R 11=.int .i64 k∧k<b) (fun k=>k) (si-1)
     (fun R H'=>At H' (fun H'=>SC c n H (fun dx=>dx=d3) H')∧R 0=.aC c 0 n 2∧R 1=.int .i64 a∧R 2=.int .i64 b∧R 3=.fn 61 []∧R 9=.int .i64 si∧R 10=.int .i64 j) ⟨.i ⟨_,cE,jd,oW.symm,ew⟩,?_,?_,?_,?_,?_,?_,?_,by omega⟩ ?_ ?_
    ·simp -implicitDefEqProofs only[op,ef,cl,sq,reduceIte,j2,j3,j4,j5,j6,j7,j8,j9,y1,S1,h0]
    ·simp -implicitDefEqProofs only[op,ef,cl,sq,reduceIte,j2,j3,j4,j5,j6,j7,j8,j9,y1,S1,h1]
    ·simp -implicitDefEqProofs only[op,ef,cl,sq,reduceIte,j2,j3,j4,j5,j6,j7,j8,j9,y1,S1,h2]
    ·simp -implicitDefEqProofs only[op,ef,cl,sq,reduceIte,j2,j3,j4,j5,j6,j7,j8,j9,y1,S1,h3]
    ·simp -implicitDefEqProofs only[op,ef,cl,sq,reduceIte,j2,j3,j4,j5,j6,j7,j8,j9,y1,S1,h9]
    ·simp -implicitDefEqProofs only[op,ef,cl,sq,reduceIte,j2,j3,j4,j5,j6,j7,j8,j9,y1,S1,aG]
    ·simp -implicitDefEqProofs only[op,ef,cl,sq,reduceIte,j2,j3,j4,j5,j6,j7,j8,j9,y1,S1]
    ·rintro k R H2⟨⟨dx,hd,bg,hk,av⟩,h0,h1,h2,h3,h9,aG,bh,CF⟩
     have lc:=aQ hd
     by_cases nN:1≤k
     ·simp -implicitDefEqProofs (maxSteps:=1000000) (disch:=omega) only[aa,aU,aV,aW,aX,aY,aZ,wA,bf,wS,ba,wM,S2,op,ef,cl,sq,reduceIte,j2,j3,j4,j5,j6,j7,j8,j9,y1,S1,h0,h1,h2,h3,h9,aG,bh,nN,hd,lc]
      refine mq _ _ _ _ _ _ _ (by simp -implicitDefEqProofs (maxSteps:=1000000) (disch:=omega) only[aa,aU,aV,aW,aX,aY,aZ,wA,bf,wS,ba,wM,S2,op,ef,cl,sq,reduceIte,j2,j3,j4,j5,j6,j7,j8,j9,y1,S1,h0,h1,h2,h3,h9,aG,bh,nN,hd,lc]) ?_
      simp -implicitDefEqProofs (maxSteps:=1000000) (disch:=omega) only[aa,aU,aV,aW,aX,aY,aZ,wA,bf,wS,ba,wM,S2,op,ef,cl,sq,reduceIte,j2,j3,j4,j5,j6,j7,j8,j9,y1,S1,cG,h0,h1,h2,h3,h9,aG,bh,nN,hd,lc,List.append_nil]
      refine ae _ _ _ _ _ _ _ _ (cw dx[k]! dx[k-1]! _) ?_
      rintro u H3⟨hu,hx⟩
      cases hu
      have hx:Ext H2 H3:=hx
      have hd:=hx.get hd
      have lc:=aQ hd
      have av:=av.trans (aB (F:=fun _=>False) hx) (fun _ h=>h.elim)
      have du:a0 dx[k]! dx[k-1]! = decide (dX dx[k]! dx[k-1]!<0):=rfl
      rw[shiftDown_eq nN]at hk
      by_cases c1:dX dx[k]! dx[k-1]!<0
      ·simp -implicitDefEqProofs (maxSteps:=1000000) (disch:=omega) only[aa,aU,aV,aW,aX,aY,aZ,wA,bf,wS,ba,wM,S2,op,ef,cl,sq,reduceIte,j2,j3,j4,j5,j6,j7,j8,j9,y1,S1,h0,h1,h2,h3,h9,aG,bh,nN,hd,lc,c1]
       rw[if_neg (lD (du.trans (cA c1)))]at hk
       exact⟨k-1,by omega,.i (.swp hd (by rw[swp_size];exact bg) hk av),rfl,by omega⟩
      ·simp -implicitDefEqProofs (maxSteps:=1000000) (disch:=omega) only[aa,aU,aV,aW,aX,aY,aZ,wA,bf,wS,ba,wM,S2,op,ef,cl,sq,reduceIte,j2,j3,j4,j5,j6,j7,j8,j9,y1,S1,h0,h1,h2,h3,h9,aG,bh,nN,hd,lc,c1]
       rw[if_pos (fD (du.trans (cy c1)))]at hk
       exact .i ⟨dx,hd,bg,hk,av⟩
     ·have TF:k=0:=by omega
      subst TF
      simp -implicitDefEqProofs only[op,ef,cl,sq,reduceIte,j2,j3,j4,j5,j6,j7,j8,j9,y1,S1,h0,h1,h2,h3,h9,aG,bh,nN]
      rw[shiftDown]at hk
      exact .i ⟨dx,hd,bg,hk,av⟩
    ·rintro R H2⟨⟨dx,hd,qf,rfl,av⟩,h0,h1,h2,h3,h9,aG⟩
     have lc:=aQ hd
     by_cases hB:2≤b-si
     ·simp -implicitDefEqProofs (maxSteps:=1000000) (disch:=omega) only[aa,aU,aV,aW,aX,aY,aZ,wA,bf,wS,ba,wM,S2,op,ef,cl,sq,reduceIte,j2,j3,j4,j5,j6,j7,j8,j9,y1,S1,h0,h1,h2,h3,h9,aG,hB]
      rw[if_pos hB]at sI
      refine W.cV 6 (fun (k:Nat) R H'=>At H' (fun H'=>SC c n H (fun dx=>shiftUp a0 b k dx=d4) H')∧R 0=.aC c 0 n 2∧R 1=.int .i64 a∧R 2=.int .i64 b∧R 3=.fn 61 []∧R 9=.int .i64 si∧R 10=.int .i64 j∧R 12=.int .i64 k∧1≤k∧k≤b) (fun k=>b-k) (si+1)
       (fun R H'=>At H' (fun H'=>SC c n H (fun dx=>dx=d4) H')∧R 0=.aC c 0 n 2∧R 1=.int .i64 a∧R 2=.int .i64 b∧R 3=.fn 61 []∧R 9=.int .i64 si∧R 10=.int .i64 j) ⟨.i ⟨dx,hd,qf,sI.symm,av⟩,?_,?_,?_,?_,?_,?_,?_,by omega,by omega⟩ ?_ ?_
      ·simp -implicitDefEqProofs only[op,ef,cl,sq,reduceIte,j2,j3,j4,j5,j6,j7,j8,j9,y1,S1,h0]
      ·simp -implicitDefEqProofs only[op,ef,cl,sq,reduceIte,j2,j3,j4,j5,j6,j7,j8,j9,y1,S1,h1]
      ·simp -implicitDefEqProofs only[op,ef,cl,sq,reduceIte,j2,j3,j4,j5,j6,j7,j8,j9,y1,S1,h2]
      ·simp -implicitDefEqProofs only[op,ef,cl,sq,reduceIte,j2,j3,j4,j5,j6,j7,j8,j9,y1,S1,h3]
      ·simp -implicitDefEqProofs only[op,ef,cl,sq,reduceIte,j2,j3,j4,j5,j6,j7,j8,j9,y1,S1,h9]
      ·simp -implicitDefEqProofs only[op,ef,cl,sq,reduceIte,j2,j3,j4,j5,j6,j7,j8,j9,y1,S1,aG]
      ·simp -implicitDefEqProofs only[op,ef,cl,sq,reduceIte,j2,j3,j4,j5,j6,j7,j8,j9,y1,S1]
      ·rintro k R H2⟨⟨dx,hd,bg,hk,av⟩,h0,h1,h2,h3,h9,aG,aD,nN,CF⟩
       have lc:=aQ hd
       by_cases bT:k<b
       ·simp -implicitDefEqProofs (maxSteps:=1000000) (disch:=omega) only[aa,aU,aV,aW,aX,aY,aZ,wA,bf,wS,ba,wM,S2,op,ef,cl,sq,reduceIte,j2,j3,j4,j5,j6,j7,j8,j9,y1,S1,h0,h1,h2,h3,h9,aG,aD,bT,hd,lc]
        refine mq _ _ _ _ _ _ _ (by simp -implicitDefEqProofs (maxSteps:=1000000) (disch:=omega) only[aa,aU,aV,aW,aX,aY,aZ,wA,bf,wS,ba,wM,S2,op,ef,cl,sq,reduceIte,j2,j3,j4,j5,j6,j7,j8,j9,y1,S1,h0,h1,h2,h3,h9,aG,aD,bT,hd,lc]) ?_
        simp -implicitDefEqProofs (maxSteps:=1000000) (disch:=omega) only[aa,aU,aV,aW,aX,aY,aZ,wA,bf,wS,ba,wM,S2,op,ef,cl,sq,reduceIte,j2,j3,j4,j5,j6,j7,j8,j9,y1,S1,cG,h0,h1,h2,h3,h9,aG,aD,bT,hd,lc,List.append_nil]
        refine ae _ _ _ _ _ _ _ _ (cw dx[k]! dx[k-1]! _) ?_
        rintro u H3⟨hu,hx⟩
        cases hu
        have hx:Ext H2 H3:=hx
        have hd:=hx.get hd
        have lc:=aQ hd
        have av:=av.trans (aB (F:=fun _=>False) hx) (fun _ h=>h.elim)
        have du:a0 dx[k]! dx[k-1]! = decide (dX dx[k]! dx[k-1]!<0):=rfl
        rw[shiftUp,if_pos bT]at hk
        by_cases c1:dX dx[k]! dx[k-1]!<0
        ·simp -implicitDefEqProofs (maxSteps:=1000000) (disch:=omega) only[aa,aU,aV,aW,aX,aY,aZ,wA,bf,wS,ba,wM,S2,op,ef,cl,sq,reduceIte,j2,j3,j4,j5,j6,j7,j8,j9,y1,S1,h0,h1,h2,h3,h9,aG,aD,bT,hd,lc,c1]
         rw[if_neg (lD (du.trans (cA c1)))]at hk
         exact⟨k+1,by omega,.i (.swp hd (by rw[swp_size];exact bg) hk av),rfl,by omega,by omega⟩
        ·simp -implicitDefEqProofs (maxSteps:=1000000) (disch:=omega) only[aa,aU,aV,aW,aX,aY,aZ,wA,bf,wS,ba,wM,S2,op,ef,cl,sq,reduceIte,j2,j3,j4,j5,j6,j7,j8,j9,y1,S1,h0,h1,h2,h3,h9,aG,aD,bT,hd,lc,c1]
         rw[if_pos (fD (du.trans (cy c1)))]at hk
         exact .i ⟨dx,hd,bg,hk,av⟩
       ·simp -implicitDefEqProofs only[op,ef,cl,sq,reduceIte,j2,j3,j4,j5,j6,j7,j8,j9,y1,S1,h0,h1,h2,h3,h9,aG,aD,bT]
        rw[shiftUp,if_neg bT]at hk
        exact .i ⟨dx,hd,bg,hk,av⟩
      ·rintro R H2⟨⟨dx,hd,bg,rfl,av⟩,h0,h1,h2,h3,h9,aG⟩
       simp -implicitDefEqProofs (maxSteps:=1000000) (disch:=omega) only[aa,aU,aV,aW,aX,aY,aZ,wA,bf,wS,ba,wM,S2,op,ef,cl,sq,reduceIte,j2,j3,j4,j5,j6,j7,j8,j9,y1,S1,h0,h1,h2,h3,h9,aG]
       exact⟨j+1,by omega,.i ⟨si,rfl,by omega,by omega,dx,hd,bg,by rw[wh];exact hP,av⟩,rfl,by omega⟩
     ·rw[if_neg hB]at sI
      subst sI
      simp -implicitDefEqProofs (maxSteps:=1000000) (disch:=omega) only[aa,aU,aV,aW,aX,aY,aZ,wA,bf,wS,ba,wM,S2,op,ef,cl,sq,reduceIte,j2,j3,j4,j5,j6,j7,j8,j9,y1,S1,h0,h1,h2,h3,h9,aG,hB]
      exact⟨j+1,by omega,.i ⟨si,rfl,by omega,by omega,d4,hd,qf,by rw[wh];exact hP,av⟩,rfl,by omega⟩
   ·rw[if_neg hA]at oW
    simp -implicitDefEqProofs (maxSteps:=1000000) (disch:=omega) only[aa,aU,aV,aW,aX,aY,aZ,wA,bf,wS,ba,wM,S2,op,ef,cl,sq,reduceIte,j2,j3,j4,j5,j6,j7,j8,j9,y1,S1,h0,h1,h2,h3,h9,aG,hA]
    have hd:=cE
    have qf:=jd
    have av:=ew
    rw[←oW]at hd qf
    by_cases hB:2≤b-si
    ·simp -implicitDefEqProofs (maxSteps:=1000000) (disch:=omega) only[aa,aU,aV,aW,aX,aY,aZ,wA,bf,wS,ba,wM,S2,op,ef,cl,sq,reduceIte,j2,j3,j4,j5,j6,j7,j8,j9,y1,S1,h0,h1,h2,h3,h9,aG,hB]
     rw[if_pos hB]at sI
     refine W.cV 6 (fun (k:Nat) R H'=>At H' (fun H'=>SC c n H (fun dx=>shiftUp a0 b k dx=d4) H')∧R 0=.aC c 0 n 2∧R 1=.int .i64 a∧R 2=.int .i64 b∧R 3=.fn 61 []∧R 9=.int .i64 si∧R 10=.int .i64 j∧R 12=.int .i64 k∧1≤k∧k≤b) (fun k=>b-k) (si+1)
      (fun R H'=>At H' (fun H'=>SC c n H (fun dx=>dx=d4) H')∧R 0=.aC c 0 n 2∧R 1=.int .i64 a∧R 2=.int .i64 b∧R 3=.fn 61 []∧R 9=.int .i64 si∧R 10=.int .i64 j) ⟨.i ⟨d3,hd,qf,sI.symm,av⟩,?_,?_,?_,?_,?_,?_,?_,by omega,by omega⟩ ?_ ?_
     ·simp -implicitDefEqProofs only[op,ef,cl,sq,reduceIte,j2,j3,j4,j5,j6,j7,j8,j9,y1,S1,h0]
     ·simp -implicitDefEqProofs only[op,ef,cl,sq,reduceIte,j2,j3,j4,j5,j6,j7,j8,j9,y1,S1,h1]
     ·simp -implicitDefEqProofs only[op,ef,cl,sq,reduceIte,j2,j3,j4,j5,j6,j7,j8,j9,y1,S1,h2]
     ·simp -implicitDefEqProofs only[op,ef,cl,sq,reduceIte,j2,j3,j4,j5,j6,j7,j8,j9,y1,S1,h3]
     ·simp -implicitDefEqProofs only[op,ef,cl,sq,reduceIte,j2,j3,j4,j5,j6,j7,j8,j9,y1,S1,h9]
     ·simp -implicitDefEqProofs only[op,ef,cl,sq,reduceIte,j2,j3,j4,j5,j6,j7,j8,j9,y1,S1,aG]
     ·simp -implicitDefEqProofs only[op,ef,cl,sq,reduceIte,j2,j3,j4,j5,j6,j7,j8,j9,y1,S1]
     ·rintro k R H2⟨⟨dx,hd,bg,hk,av⟩,h0,h1,h2,h3,h9,aG,aD,nN,CF⟩
      have lc:=aQ hd
      by_cases bT:k<b
      ·simp -implicitDefEqProofs (maxSteps:=1000000) (disch:=omega) only[aa,aU,aV,aW,aX,aY,aZ,wA,bf,wS,ba,wM,S2,op,ef,cl,sq,reduceIte,j2,j3,j4,j5,j6,j7,j8,j9,y1,S1,h0,h1,h2,h3,h9,aG,aD,bT,hd,lc]
       refine mq _ _ _ _ _ _ _ (by simp -implicitDefEqProofs (maxSteps:=1000000) (disch:=omega) only[aa,aU,aV,aW,aX,aY,aZ,wA,bf,wS,ba,wM,S2,op,ef,cl,sq,reduceIte,j2,j3,j4,j5,j6,j7,j8,j9,y1,S1,h0,h1,h2,h3,h9,aG,aD,bT,hd,lc]) ?_
       simp -implicitDefEqProofs (maxSteps:=1000000) (disch:=omega) only[aa,aU,aV,aW,aX,aY,aZ,wA,bf,wS,ba,wM,S2,op,ef,cl,sq,reduceIte,j2,j3,j4,j5,j6,j7,j8,j9,y1,S1,cG,h0,h1,h2,h3,h9,aG,aD,bT,hd,lc,List.append_nil]
       refine ae _ _ _ _ _ _ _ _ (cw dx[k]! dx[k-1]! _) ?_
       rintro u H3⟨hu,hx⟩
       cases hu
       have hx:Ext H2 H3:=hx
       have hd:=hx.get hd
       have lc:=aQ hd
       have av:=av.trans (aB (F:=fun _=>False) hx) (fun _ h=>h.elim)
       have du:a0 dx[k]! dx[k-1]! = decide (dX dx[k]! dx[k-1]!<0):=rfl
       rw[shiftUp,if_pos bT]at hk
       by_cases c1:dX dx[k]! dx[k-1]!<0
       ·simp -implicitDefEqProofs (maxSteps:=1000000) (disch:=omega) only[aa,aU,aV,aW,aX,aY,aZ,wA,bf,wS,ba,wM,S2,op,ef,cl,sq,reduceIte,j2,j3,j4,j5,j6,j7,j8,j9,y1,S1,h0,h1,h2,h3,h9,aG,aD,bT,hd,lc,c1]
        rw[if_neg (lD (du.trans (cA c1)))]at hk
        exact⟨k+1,by omega,.i (.swp hd (by rw[swp_size];exact bg) hk av),rfl,by omega,by omega⟩
       ·simp -implicitDefEqProofs (maxSteps:=1000000) (disch:=omega) only[aa,aU,aV,aW,aX,aY,aZ,wA,bf,wS,ba,wM,S2,op,ef,cl,sq,reduceIte,j2,j3,j4,j5,j6,j7,j8,j9,y1,S1,h0,h1,h2,h3,h9,aG,aD,bT,hd,lc,c1]
        rw[if_pos (fD (du.trans (cy c1)))]at hk
        exact .i ⟨dx,hd,bg,hk,av⟩
      ·simp -implicitDefEqProofs only[op,ef,cl,sq,reduceIte,j2,j3,j4,j5,j6,j7,j8,j9,y1,S1,h0,h1,h2,h3,h9,aG,aD,bT]
       rw[shiftUp,if_neg bT]at hk
       exact .i ⟨dx,hd,bg,hk,av⟩
     ·rintro R H2⟨⟨dx,hd,bg,rfl,av⟩,h0,h1,h2,h3,h9,aG⟩
      simp -implicitDefEqProofs (maxSteps:=1000000) (disch:=omega) only[aa,aU,aV,aW,aX,aY,aZ,wA,bf,wS,ba,wM,S2,op,ef,cl,sq,reduceIte,j2,j3,j4,j5,j6,j7,j8,j9,y1,S1,h0,h1,h2,h3,h9,aG]
      exact⟨j+1,by omega,.i ⟨si,rfl,by omega,by omega,dx,hd,bg,by rw[wh];exact hP,av⟩,rfl,by omega⟩
    ·rw[if_neg hB]at sI
     subst sI
     simp -implicitDefEqProofs (maxSteps:=1000000) (disch:=omega) only[aa,aU,aV,aW,aX,aY,aZ,wA,bf,wS,ba,wM,S2,op,ef,cl,sq,reduceIte,j2,j3,j4,j5,j6,j7,j8,j9,y1,S1,h0,h1,h2,h3,h9,aG,hB]
     exact⟨j+1,by omega,.i ⟨si,rfl,by omega,by omega,d4,hd,qf,by rw[wh];exact hP,av⟩,rfl,by omega⟩
 ·rintro R H1⟨di,hd,bg,hP,av⟩
  simp -implicitDefEqProofs only[op,ef,cl,sq,reduceIte,j2,j3,j4,j5,j6,j7,j8,j9,y1,S1]
  rw[←hP]
  exact⟨rfl,di,hd,bg,rfl,av⟩
theorem oX (a b:Nm):a0 a b=true↔strLt a.1 b.1=true∨(a.1=b.1∧a.2<b.2):=by
 unfold a0 dX SQ C6 C7
 rw[decide_eq_true_eq]
 cases h1:strLt a.1 b.1
 ·cases h2:strLt b.1 a.1
  ·have e:=sd h1 h2
   simp -implicitDefEqProofs only[Bool.false_eq_true,if_false,if_true,false_or,e,true_and]
   split
   ·simp[*]
   ·split<;>simp[*]
  ·have bF:a.1≠b.1:=by intro e;rw[e,fA]at h2;cases h2
   simp[bF]
 ·simp
theorem lj (a:Nm):a0 a a=false:=by
 cases h:a0 a a with
 | false=>rfl
 | true=>rcases(oX a a).1 h with h|h;rw[fA]at h;cases h;omega
theorem kg {a b c:Nm}(h1:a0 a b=true)(h2:a0 b c=true):a0 a c=true:=by
 rw[oX]at h1 h2 ⊢
 rcases h1 with h1|⟨e1,h1⟩<;>rcases h2 with h2|⟨e2,h2⟩
 ·exact .inl (eb h1 h2)
 ·exact .inl (e2▸h1)
 ·exact .inl (e1▸h2)
 ·exact .inr ⟨e1.trans e2,by omega⟩
theorem BU {a b:Nm}(h1:a0 a b=false)(h2:a0 b a=false):a=b:=by
 have n1:¬(strLt a.1 b.1=true∨(a.1=b.1∧a.2<b.2)):=fun h=>by rw[(oX a b).2 h]at h1;cases h1
 have n2:¬(strLt b.1 a.1=true∨(b.1=a.1∧b.2<a.2)):=fun h=>by rw[(oX b a).2 h]at h2;cases h2
 have e1:a.1=b.1:=sd (by cases h:strLt a.1 b.1 with|false=>rfl|true=>exact absurd (.inl h) n1) (by cases h:strLt b.1 a.1 with|false=>rfl|true=>exact absurd (.inl h) n2)
 have q1:¬a.2<b.2:=fun h=>n1 (.inr ⟨e1,h⟩)
 have q2:¬b.2<a.2:=fun h=>n2 (.inr ⟨e1.symm,h⟩)
 exact Prod.ext e1 (by omega)
theorem ra:Go.Sort.SWO a0 where
 irrefl:=lj
 trans _ _ _ h1 h2:=kg h1 h2
 ntrans x y z h1 h2:=by
  cases h:a0 x z with
  | false=>rfl
  | true =>
   cases h3:a0 y x with
   | true=>rw[kg h3 h]at h2;cases h2
   | false=>have:=BU h1 h3;subst this;rw[h]at h2;cases h2
theorem QN (H:af):W env (.call 132 [.sl .nil [],.int .i64 0,.int .i64 0,.fn 61 []]) H (kX (.bC []) H):=by
 refine W.bA rfl rfl rfl ?_
 have wa:IntKind.i64.wrap ((0:Int)+1)=1:=by decide
 simp -implicitDefEqProofs only[BK,op,ef,cl,sq,reduceIte,j2,j3,j4,j5,j6,j7,j8,j9,y1,S1,wa]
 refine W.cO (fun (_:Nat) R H'=>H'=H∧R 2=.int .i64 0∧R 8=.int .i64 1) (fun _=>0) 0 ⟨rfl,rfl,rfl⟩ ?_
 rintro _ R _⟨rfl,h2,h8⟩
 have l0:¬((1:Int)<0):=by decide
 simp -implicitDefEqProofs only[op,ef,cl,sq,reduceIte,j2,j3,j4,j5,j6,j7,j8,j9,y1,S1,h2,h8,l0]
 trivial
theorem ac2 (m:Nat)(H:af):W env (.call 117 [.sl .nil [],.int .i64 0,.int .i64 0,.int .i64 m,.fn 61 []]) H (kX (.bC []) H):=by
 refine W.bA rfl rfl rfl ?_
 have w1:IntKind.i64.wrap ((0:Int)-0)=0:=by decide
 simp -implicitDefEqProofs only[fg,op,ef,cl,sq,reduceIte,j2,j3,j4,j5,j6,j7,j8,j9,y1,S1]
 refine W.cO (fun (_:Nat) R H'=>H'=H∧R 0=.sl .nil []∧R 1=.int .i64 0∧R 2=.int .i64 0∧R 4=.fn 61 []) (fun _=>0) 0 ⟨rfl,rfl,rfl,rfl,rfl⟩ ?_
 rintro _ R _⟨rfl,h0,h1,h2,h4⟩
 have l0:(0:Int)≤12:=by decide
 simp -implicitDefEqProofs only[op,ef,cl,sq,reduceIte,j2,j3,j4,j5,j6,j7,j8,j9,y1,S1,h0,h1,h2,h4,w1,l0]
 refine ae _ _ _ _ _ _ _ _ (QN _) ?_
 rintro u H2⟨hu,rfl⟩
 cases hu
 simp -implicitDefEqProofs only[op,ef,cl,sq,reduceIte,j2,j3,j4,j5,j6,j7,j8,j9,y1,S1]
 trivial
theorem Wf (H:af):W env (.call 93 [.sl .nil [],.fn 61 []]) H (kX (.bC []) H):=by
 refine W.bA rfl rfl rfl ?_
 have w1:IntKind.u64.wrap ((0:Nat):Int)=((0:Nat):Int):=by decide
 have e0:((0:Nat):Int)=0:=rfl
 simp -implicitDefEqProofs only[Lh,op,ef,cl,sq,reduceIte,j2,j3,j4,j5,j6,j7,j8,j9,y1,S1,w1]
 refine ae _ _ _ _ _ _ _ _ (V2 0 (by omega) _) ?_
 rintro u H1⟨rfl,m,hu⟩
 cases hu
 simp -implicitDefEqProofs only[op,ef,cl,sq,reduceIte,j2,j3,j4,j5,j6,j7,j8,j9,y1,S1,e0]
 refine ae _ _ _ _ _ _ _ _ (ac2 m _) ?_
 rintro u H2⟨hu,rfl⟩
 cases hu
 simp -implicitDefEqProofs only[op,ef,cl,sq,reduceIte,j2,j3,j4,j5,j6,j7,j8,j9,y1,S1]
 trivial
def Wg (es:List (Nm×T))(H:af):Out→af→Prop:=fun o H'=>Ext H H'∧∃t l,o=.val t∧lB eN 2 H.length H' t l∧l.Perm (es.map (·.1))∧l.Pairwise (fun a b=>a0 a b=true)
set_option maxHeartbeats 8000000
def dv:C→Nat→Option C
 | .block id a,n=>if id=n then some a else dv a n
 | .seq a b,n=>match dv a n with|some c=>some c | .none=>dv b n
 | .cond _ a b,n=>match dv a n with|some c=>some c | .none=>dv b n
 | .loop a,n=>dv a n
 | _,_=>.none
def fm:C→Nat→C
 | .seq a _,0=>a
 | .seq _ b,k+1=>fm b k
 | c,_=>c
structure PR (R:ax)(c n a b cr:Nat)(wb wp:Bool):Prop where
 r0:R 0=.aC c 0 n 2
 r1:R 1=.int .i64 a
 r2:R 2=.int .i64 b
 r3:R 3=.int .i64 cr
 r4:R 4=.fn 61 []
 r10:R 10=.bool wb
 QO:R 11=.bool wp
 QP:R 12=.int .i64 (b-a:Nat)
open Go.Sort in
theorem ac4 (A:C)(hA:(dv fg.body 1).map (fm · 3)=some A)(c n a b cr:Nat)(wb wp:Bool)(d:Array Nm)(R:ax)(H0 H:af)(K:Out→af→Prop)(hp:PR R c n a b cr wb wp)(hd:SC c n H0 (fun x=>x=d) H)(hb:b≤n)(gY:a+12<b)(hs:n<16777216)(hl:1≤cr∧cr<1000)
  (rest:∀R' H',PR R' c n a b (if (!wb)=true then cr-1 else cr) wb wp→SC c n H0 (fun x=>x=if (!wb)=true then breakPatterns d a b else d) H'→K (.ex .normal R') H'):fJ env A R H K:=by
 simp[fg,dv,fm,sq]at hA
 subst hA
 obtain⟨h0,h1,h2,h3,h4,aG,bh,aD⟩:=hp
 obtain⟨di,hc,hn,rfl,av⟩:=hd
 cases wb with
 | true =>
  simp -implicitDefEqProofs (maxSteps:=1000000) (disch:=omega) only[op,ef,cl,sq,reduceIte,j2,j3,j4,j5,j6,j7,j8,j9,y1,S1,h0,h1,h2,h3,h4,aG,bh,aD]
  exact rest _ _ ⟨by simp -implicitDefEqProofs only[op,ef,cl,sq,reduceIte,j2,j3,j4,j5,j6,j7,j8,j9,y1,S1,h0],by simp -implicitDefEqProofs only[op,ef,cl,sq,reduceIte,j2,j3,j4,j5,j6,j7,j8,j9,y1,S1,h1],by simp -implicitDefEqProofs only[op,ef,cl,sq,reduceIte,j2,j3,j4,j5,j6,j7,j8,j9,y1,S1,h2],by simp -implicitDefEqProofs only[op,ef,cl,sq,reduceIte,j2,j3,j4,j5,j6,j7,j8,j9,y1,S1,h3],by simp -implicitDefEqProofs only[op,ef,cl,sq,reduceIte,j2,j3,j4,j5,j6,j7,j8,j9,y1,S1,h4],by simp -implicitDefEqProofs only[op,ef,cl,sq,reduceIte,j2,j3,j4,j5,j6,j7,j8,j9,y1,S1,aG],by simp -implicitDefEqProofs only[op,ef,cl,sq,reduceIte,j2,j3,j4,j5,j6,j7,j8,j9,y1,S1,bh],by simp -implicitDefEqProofs only[op,ef,cl,sq,reduceIte,j2,j3,j4,j5,j6,j7,j8,j9,y1,S1,aD]⟩ ⟨di,hc,hn,rfl,av⟩
 | false =>
  simp -implicitDefEqProofs (maxSteps:=1000000) (disch:=omega) only[op,ef,cl,sq,reduceIte,j2,j3,j4,j5,j6,j7,j8,j9,y1,S1,h0,h1,h2,h3,h4,aG,bh,aD]
  refine ae _ _ _ _ _ _ _ _ (Lz c n di a b _ hn hc hb gY hs) ?_
  rintro u H2⟨hu,d2,cE,jd,e2,ew⟩
  cases hu
  simp -implicitDefEqProofs (maxSteps:=1000000) (disch:=omega) only[aa,aU,aV,aW,aX,aY,aZ,wA,bf,wS,ba,wM,S2,op,ef,cl,sq,reduceIte,j2,j3,j4,j5,j6,j7,j8,j9,y1,S1,h0,h1,h2,h3,h4,aG,bh,aD]
  exact rest _ _ ⟨by simp -implicitDefEqProofs only[op,ef,cl,sq,reduceIte,j2,j3,j4,j5,j6,j7,j8,j9,y1,S1,h0],by simp -implicitDefEqProofs only[op,ef,cl,sq,reduceIte,j2,j3,j4,j5,j6,j7,j8,j9,y1,S1,h1],by simp -implicitDefEqProofs only[op,ef,cl,sq,reduceIte,j2,j3,j4,j5,j6,j7,j8,j9,y1,S1,h2],by simp -implicitDefEqProofs only[op,ef,cl,sq,reduceIte,j2,j3,j4,j5,j6,j7,j8,j9,y1,S1],by simp -implicitDefEqProofs only[op,ef,cl,sq,reduceIte,j2,j3,j4,j5,j6,j7,j8,j9,y1,S1,h4],by simp -implicitDefEqProofs only[op,ef,cl,sq,reduceIte,j2,j3,j4,j5,j6,j7,j8,j9,y1,S1,aG],by simp -implicitDefEqProofs only[op,ef,cl,sq,reduceIte,j2,j3,j4,j5,j6,j7,j8,j9,y1,S1,bh],by simp -implicitDefEqProofs only[op,ef,cl,sq,reduceIte,j2,j3,j4,j5,j6,j7,j8,j9,y1,S1,aD]⟩ ⟨d2,cE,jd,e2,av.trans ew fun _ h=>.inl h⟩
open Go.Sort in
theorem ac5 (A:C)(hA:(dv fg.body 1).map (fm · 5)=some A)(c n a b cr:Nat)(wb wp:Bool)(d:Array Nm)(pv:Nat)(hi:Hint)(R:ax)(H0 H:af)(K:Out→af→Prop)(hp:PR R c n a b cr wb wp)(bn:R 13=.int .i64 pv)(n5:R 14=.int .i64 (iw hi))(hd:SC c n H0 (fun x=>x=d) H)(hb:b≤n)(gY:a+12<b)(hs:n<16777216)(nk:a≤pv∧pv<b)
  (rest:∀R' H',PR R' c n a b cr wb wp→R' 13=.int .i64 (if hi=.decreasing then(b-1)-(pv-a)else pv:Nat)→R' 14=.int .i64 (iw (if hi=.decreasing then Hint.increasing else hi))→SC c n H0 (fun x=>x=if hi=.decreasing then reverseRange d a b else d) H'→K (.ex .normal R') H'):fJ env A R H K:=by
 simp[fg,dv,fm,sq]at hA
 subst hA
 obtain⟨h0,h1,h2,h3,h4,aG,bh,aD⟩:=hp
 obtain⟨di,hc,hn,rfl,av⟩:=hd
 have e:((iw hi)==2)=decide (hi=.decreasing):=by cases hi<;>decide
 by_cases hh:hi=.decreasing
 ·rw[decide_eq_true hh]at e
  simp -implicitDefEqProofs (maxSteps:=1000000) (disch:=omega) only[op,ef,cl,sq,reduceIte,j2,j3,j4,j5,j6,j7,j8,j9,y1,S1,h0,h1,h2,h3,h4,aG,bh,aD,bn,n5,e]
  refine ae _ _ _ _ _ _ _ _ (V3 c n di a b _ hn hc hb (by omega) (by omega)) ?_
  rintro u H2⟨hu,d2,cE,jd,e2,ew⟩
  cases hu
  simp -implicitDefEqProofs (maxSteps:=1000000) (disch:=omega) only[aa,aU,aV,aW,aX,aY,aZ,wA,bf,wS,ba,wM,S2,op,ef,cl,sq,reduceIte,j2,j3,j4,j5,j6,j7,j8,j9,y1,S1,h0,h1,h2,h3,h4,aG,bh,aD,bn,n5]
  refine rest _ _ ⟨?_,?_,?_,?_,?_,?_,?_,?_⟩ ?_ ?_ ⟨d2,cE,jd,?_,av.trans ew fun _ h=>.inl h⟩
  all_goals simp -implicitDefEqProofs only[op,ef,cl,sq,reduceIte,j2,j3,j4,j5,j6,j7,j8,j9,y1,S1,h0,h1,h2,h3,h4,aG,bh,aD,if_pos hh,iw]
  exact e2
 ·rw[decide_eq_false hh]at e
  simp -implicitDefEqProofs (maxSteps:=1000000) (disch:=omega) only[op,ef,cl,sq,reduceIte,j2,j3,j4,j5,j6,j7,j8,j9,y1,S1,h0,h1,h2,h3,h4,aG,bh,aD,bn,n5,e]
  refine rest _ _ ⟨?_,?_,?_,?_,?_,?_,?_,?_⟩ ?_ ?_ ⟨di,hc,hn,?_,av⟩
  all_goals simp -implicitDefEqProofs only[op,ef,cl,sq,reduceIte,j2,j3,j4,j5,j6,j7,j8,j9,y1,S1,h0,h1,h2,h3,h4,aG,bh,aD,bn,n5,if_neg hh]
open Go.Sort in
theorem ac6 (A:C)(hA:(dv fg.body 1).map (fm · 6)=some A)(c n a b cr:Nat)(wb wp:Bool)(d:Array Nm)(pv:Nat)(hi:Hint)(R:ax)(H0 H:af)(K:Out→af→Prop)(hp:PR R c n a b cr wb wp)(bn:R 13=.int .i64 pv)(n5:R 14=.int .i64 (iw hi))(hd:SC c n H0 (fun x=>x=d) H)(hb:b≤n)(gY:a+12<b)(hs:n<16777216)
  (pi:Array Nm×Bool) (HN:pi=if (wb&&wp&&hi=.increasing)=true then partialInsertionSort a0 d a b else(d,false))
  (je:∀R' H',pi.2=true→SC c n H0 (fun x=>x=pi.1) H'→K (.ex .ret R') H')
  (fE:∀R' H',pi.2=false→PR R' c n a b cr wb wp→R' 13=.int .i64 pv→SC c n H0 (fun x=>x=pi.1) H'→K (.ex .normal R') H'):fJ env A R H K:=by
 simp[fg,dv,fm,sq]at hA
 subst hA
 obtain⟨h0,h1,h2,h3,h4,aG,bh,aD⟩:=hp
 obtain⟨di,hc,hn,rfl,av⟩:=hd
 have e:((iw hi)==1)=decide (hi=.increasing):=by cases hi<;>decide
 have no:(wb&&wp&&decide (hi=.increasing))=false→∀R',PR R' c n a b cr wb wp→R' 13=.int .i64 pv→K (.ex .normal R') H:=fun h R' q q'=>fE R' H (by rw[HN,h];rfl) q q' ⟨di,hc,hn,by rw[HN,h];rfl,av⟩
 cases wb with
 | false =>
  simp -implicitDefEqProofs only[op,ef,cl,sq,reduceIte,j2,j3,j4,j5,j6,j7,j8,j9,y1,S1,h0,h1,h2,h3,h4,aG,bh,aD,bn,n5]
  refine no rfl _ ⟨?_,?_,?_,?_,?_,?_,?_,?_⟩ ?_
  all_goals simp -implicitDefEqProofs only[op,ef,cl,sq,reduceIte,j2,j3,j4,j5,j6,j7,j8,j9,y1,S1,h0,h1,h2,h3,h4,aG,bh,aD,bn]
 | true =>
  cases wp with
  | false =>
   simp -implicitDefEqProofs only[op,ef,cl,sq,reduceIte,j2,j3,j4,j5,j6,j7,j8,j9,y1,S1,h0,h1,h2,h3,h4,aG,bh,aD,bn,n5]
   refine no rfl _ ⟨?_,?_,?_,?_,?_,?_,?_,?_⟩ ?_
   all_goals simp -implicitDefEqProofs only[op,ef,cl,sq,reduceIte,j2,j3,j4,j5,j6,j7,j8,j9,y1,S1,h0,h1,h2,h3,h4,aG,bh,aD,bn]
  | true =>
   by_cases hh:hi=.increasing
   ·rw[decide_eq_true hh]at e
    rw[decide_eq_true hh]at HN
    simp -implicitDefEqProofs only[op,ef,cl,sq,reduceIte,j2,j3,j4,j5,j6,j7,j8,j9,y1,S1,h0,h1,h2,h3,h4,aG,bh,aD,bn,n5,e]
    refine ae _ _ _ _ _ _ _ _ (QL c n di a b _ hn hc hb (by omega) (by omega)) ?_
    rintro u H2⟨hu,d2,cE,jd,e2,ew⟩
    cases hu
    rw[if_pos (show(true&&true&&true)=true from rfl)]at HN
    rw[←HN]at e2 ⊢
    cases lP:pi.2 with
    | true =>
     simp -implicitDefEqProofs only[op,ef,cl,sq,reduceIte,j2,j3,j4,j5,j6,j7,j8,j9,y1,S1]
     exact je _ _ lP ⟨d2,cE,jd,e2,av.trans ew fun _ h=>.inl h⟩
    | false =>
     simp -implicitDefEqProofs only[op,ef,cl,sq,reduceIte,j2,j3,j4,j5,j6,j7,j8,j9,y1,S1]
     refine fE _ _ lP ⟨?_,?_,?_,?_,?_,?_,?_,?_⟩ ?_ ⟨d2,cE,jd,e2,av.trans ew fun _ h=>.inl h⟩
     all_goals simp -implicitDefEqProofs only[op,ef,cl,sq,reduceIte,j2,j3,j4,j5,j6,j7,j8,j9,y1,S1,h0,h1,h2,h3,h4,aG,bh,aD,bn]
   ·rw[decide_eq_false hh]at e
    simp -implicitDefEqProofs only[op,ef,cl,sq,reduceIte,j2,j3,j4,j5,j6,j7,j8,j9,y1,S1,h0,h1,h2,h3,h4,aG,bh,aD,bn,n5,e]
    refine no (by rw[decide_eq_false hh];rfl) _ ⟨?_,?_,?_,?_,?_,?_,?_,?_⟩ ?_
    all_goals simp -implicitDefEqProofs only[op,ef,cl,sq,reduceIte,j2,j3,j4,j5,j6,j7,j8,j9,y1,S1,h0,h1,h2,h3,h4,aG,bh,aD,bn]
open Go.Sort in
theorem ac7 (A:C)(hA:(dv fg.body 1).map (fm · 7)=some A)(c n a b cr:Nat)(wb wp:Bool)(d:Array Nm)(pv:Nat)(R:ax)(H0 H:af)(K:Out→af→Prop)(hp:PR R c n a b cr wb wp)(bn:R 13=.int .i64 pv)(hd:SC c n H0 (fun x=>x=d) H)(hb:b≤n)(gY:a+12<b)(hs:n<16777216)(nk:a≤pv∧pv<b)
  (je:∀R' H',(a>0&&!a0 d[a-1]! d[pv]!)=true→R' 0=.aC c 0 n 2→R' 1=.int .i64 (partitionEqual a0 d a b pv).1→R' 2=.int .i64 b→R' 3=.int .i64 cr→R' 4=.fn 61 []→R' 10=.bool wb→R' 11=.bool wp→SC c n H0 (fun x=>x=(partitionEqual a0 d a b pv).2) H'→K (.ex (.exit 1) R') H')
  (fE:∀R' H',(a>0&&!a0 d[a-1]! d[pv]!)=false→PR R' c n a b cr wb wp→R' 13=.int .i64 pv→SC c n H0 (fun x=>x=d) H'→K (.ex .normal R') H'):fJ env A R H K:=by
 simp[fg,dv,fm,sq]at hA
 subst hA
 obtain⟨h0,h1,h2,h3,h4,aG,bh,aD⟩:=hp
 obtain⟨di,hd,hn,rfl,av⟩:=hd
 have lc:=aQ hd
 by_cases ha:0<a
 ·simp -implicitDefEqProofs (maxSteps:=1000000) (disch:=omega) only[aa,aU,aV,aW,aX,aY,aZ,wA,bf,wS,ba,wM,S2,op,ef,cl,sq,reduceIte,j2,j3,j4,j5,j6,j7,j8,j9,y1,S1,h0,h1,h2,h3,h4,aG,bh,aD,bn,ha,hd,lc]
  refine mq _ _ _ _ _ _ _ (by simp -implicitDefEqProofs (maxSteps:=1000000) (disch:=omega) only[aa,aU,aV,aW,aX,aY,aZ,wA,bf,wS,ba,wM,S2,op,ef,cl,sq,reduceIte,j2,j3,j4,j5,j6,j7,j8,j9,y1,S1,h0,h1,h2,h3,h4,aG,bh,aD,bn,ha,hd,lc]) ?_
  simp -implicitDefEqProofs (maxSteps:=1000000) (disch:=omega) only[aa,aU,aV,aW,aX,aY,aZ,wA,bf,wS,ba,wM,S2,op,ef,cl,sq,reduceIte,j2,j3,j4,j5,j6,j7,j8,j9,y1,S1,cG,h0,h1,h2,h3,h4,aG,bh,aD,bn,ha,hd,lc,List.append_nil]
  refine ae _ _ _ _ _ _ _ _ (cw di[a-1]! di[pv]! _) ?_
  rintro u H3⟨hu,hx⟩
  cases hu
  have hx:Ext H H3:=hx
  have hd:=hx.get hd
  have lc:=aQ hd
  have av:=av.trans (aB (F:=fun _=>False) hx) (fun _ h=>h.elim)
  have du:a0 di[a-1]! di[pv]! = decide (dX di[a-1]! di[pv]!<0):=rfl
  by_cases c1:dX di[a-1]! di[pv]!<0
  ·simp -implicitDefEqProofs (maxSteps:=1000000) (disch:=omega) only[aa,aU,aV,aW,aX,aY,aZ,wA,bf,wS,ba,wM,S2,op,ef,cl,sq,reduceIte,j2,j3,j4,j5,j6,j7,j8,j9,y1,S1,h0,h1,h2,h3,h4,aG,bh,aD,bn,ha,hd,lc,c1]
   refine fE _ _ (by rw[du,cA c1];simp) ⟨?_,?_,?_,?_,?_,?_,?_,?_⟩ ?_ ⟨di,hd,hn,rfl,av⟩
   all_goals simp -implicitDefEqProofs only[op,ef,cl,sq,reduceIte,j2,j3,j4,j5,j6,j7,j8,j9,y1,S1,h0,h1,h2,h3,h4,aG,bh,aD,bn]
  ·simp -implicitDefEqProofs (maxSteps:=1000000) (disch:=omega) only[aa,aU,aV,aW,aX,aY,aZ,wA,bf,wS,ba,wM,S2,op,ef,cl,sq,reduceIte,j2,j3,j4,j5,j6,j7,j8,j9,y1,S1,h0,h1,h2,h3,h4,aG,bh,aD,bn,ha,hd,lc,c1]
   refine ae _ _ _ _ _ _ _ _ (We c n di a b pv _ hn hd hb (by omega) (by omega) (by omega)) ?_
   rintro u H4⟨hu,d2,cE,jd,e2,ew⟩
   cases hu
   simp -implicitDefEqProofs only[op,ef,cl,sq,reduceIte,j2,j3,j4,j5,j6,j7,j8,j9,y1,S1]
   refine je _ _ (by rw[du,cy c1];simp;exact ha) ?_ ?_ ?_ ?_ ?_ ?_ ?_ ⟨d2,cE,jd,e2,av.trans ew fun _ h=>.inl h⟩
   all_goals simp -implicitDefEqProofs only[op,ef,cl,sq,reduceIte,j2,j3,j4,j5,j6,j7,j8,j9,y1,S1,h0,h1,h2,h3,h4,aG,bh,aD,bn]
 ·simp -implicitDefEqProofs only[op,ef,cl,sq,reduceIte,j2,j3,j4,j5,j6,j7,j8,j9,y1,S1,h0,h1,h2,h3,h4,aG,bh,aD,bn,ha]
  refine fE _ _ (by rw[decide_eq_false ha];rfl) ⟨?_,?_,?_,?_,?_,?_,?_,?_⟩ ?_ ⟨di,hd,hn,rfl,av⟩
  all_goals simp -implicitDefEqProofs only[op,ef,cl,sq,reduceIte,j2,j3,j4,j5,j6,j7,j8,j9,y1,S1,h0,h1,h2,h3,h4,aG,bh,aD,bn]
set_option maxHeartbeats 8000000
def HO:C→Nat→C
 | c,0=>c
 | .seq _ b,k+1=>HO b k
 | c,_=>c
open Go.Sort in
theorem HP {d d1 d2:Array Nm}{a b cr fo pv:Nat}{wb wp:Bool}{cp:Nat×Hint}{hi:Hint}{pi:Array Nm×Bool}(aD:¬b-a≤12)(hl:¬cr=0)
  (e1:d1=if (!wb)=true then breakPatterns d a b else d) (el:fo=if (!wb)=true then cr-1 else cr) (ec:cp=choosePivot a0 d1 a b) (e2:d2=if cp.2=.decreasing then reverseRange d1 a b else d1)
  (ep:pv=if cp.2=.decreasing then(b-1)-(cp.1-a)else cp.1) (eh:hi=if cp.2=.decreasing then .increasing else cp.2) (LD:pi=if (wb&&wp&&hi=.increasing)=true then partialInsertionSort a0 d2 a b else(d2,false)) :
  pdq a0 d a b cr wb wp=if pi.2=true then pi.1 else if (a>0&&!a0 pi.1[a-1]! pi.1[pv]!)=true then(if a<(partitionEqual a0 pi.1 a b pv).1∧(partitionEqual a0 pi.1 a b pv).1≤b then pdq a0 (partitionEqual a0 pi.1 a b pv).2 (partitionEqual a0 pi.1 a b pv).1 b fo wb wp else(partitionEqual a0 pi.1 a b pv).2)
   else(if a≤(partition a0 pi.1 a b pv).1∧(partition a0 pi.1 a b pv).1<b then if (partition a0 pi.1 a b pv).1-a<b-(partition a0 pi.1 a b pv).1 then pdq a0 (pdq a0 (partition a0 pi.1 a b pv).2.2 a (partition a0 pi.1 a b pv).1 fo true true) ((partition a0 pi.1 a b pv).1+1) b fo (decide ((partition a0 pi.1 a b pv).1-a≥(b-a)/8)) (partition a0 pi.1 a b pv).2.1
    else pdq a0 (pdq a0 (partition a0 pi.1 a b pv).2.2 ((partition a0 pi.1 a b pv).1+1) b fo true true) a (partition a0 pi.1 a b pv).1 fo (decide (b-(partition a0 pi.1 a b pv).1≥(b-a)/8)) (partition a0 pi.1 a b pv).2.1 else(partition a0 pi.1 a b pv).2.2):=by
 subst LD eh ep e2 ec el e1
 rw[pdq,if_neg aD,if_neg hl]
 rfl
open Go.Sort in
theorem Di (d:Array Nm){a b pv:Nat}(h1:a≤pv)(h2:pv<b)(hb:b≤d.size):a<(partitionEqual a0 d a b pv).1∧(partitionEqual a0 d a b pv).1≤b:=by
 have:=partEqLoop_spec (lt:=a0) a b b (a+1) (b-1) (swp d a pv) (by omega) (by omega) (by omega) (by omega) (by rw[swp_size];exact hb) (fun t h h'=>by omega) (fun t h h'=>by omega)
 exact⟨this.1,this.2.1⟩
theorem ac8 (A:C)(hA:(dv fg.body 1).map (fm · 0)=some A)(c n a b cr:Nat)(wb wp:Bool)(R:ax)(H:af)(K:Out→af→Prop)(h0:R 0=.aC c 0 n 2)(h1:R 1=.int .i64 a)(h2:R 2=.int .i64 b)(h3:R 3=.int .i64 cr)(h4:R 4=.fn 61 [])(aG:R 10=.bool wb)(bh:R 11=.bool wp)(gY:a≤b)(hb:b<16777216)
  (rest:∀R',PR R' c n a b cr wb wp→K (.ex .normal R') H):fJ env A R H K:=by
 simp[fg,dv,fm,sq]at hA
 subst hA
 simp -implicitDefEqProofs (maxSteps:=1000000) (disch:=omega) only[aa,aU,aV,aW,aX,aY,aZ,wA,bf,wS,ba,wM,S2,op,ef,cl,sq,reduceIte,j2,j3,j4,j5,j6,j7,j8,j9,y1,S1,h0,h1,h2,h3,h4,aG,bh]
 refine rest _ ⟨?_,?_,?_,?_,?_,?_,?_,?_⟩
 all_goals simp -implicitDefEqProofs only[op,ef,cl,sq,reduceIte,j2,j3,j4,j5,j6,j7,j8,j9,y1,S1,h0,h1,h2,h3,h4,aG,bh]
open Go.Sort in
theorem ac9 (A:C)(hA:(dv fg.body 1).map (fm · 1)=some A)(c n a b cr:Nat)(wb wp:Bool)(d:Array Nm)(R:ax)(H0 H:af)(K:Out→af→Prop)(hp:PR R c n a b cr wb wp)(hd:SC c n H0 (fun x=>x=d) H)(hb:b≤n)(gY:a≤b)(hs:n<16777216)
  (je:∀R' H',b-a≤12→SC c n H0 (fun x=>x=insertionSort a0 d a b) H'→K (.ex .ret R') H')
  (fE:∀R',¬b-a≤12→PR R' c n a b cr wb wp→K (.ex .normal R') H):fJ env A R H K:=by
 simp[fg,dv,fm,sq]at hA
 subst hA
 obtain⟨h0,h1,h2,h3,h4,aG,bh,aD⟩:=hp
 obtain⟨di,hc,hn,rfl,av⟩:=hd
 by_cases hle:b-a≤12
 ·simp -implicitDefEqProofs only[op,ef,cl,sq,reduceIte,j2,j3,j4,j5,j6,j7,j8,j9,y1,S1,h0,h1,h2,h3,h4,aG,bh,aD,hle]
  have hi:=V0 c di a b H hc (by omega) gY (by omega)
  rw[hn]at hi
  refine ae _ _ _ _ _ _ _ _ hi ?_
  rintro u H2⟨hu,cE,ew⟩
  cases hu
  simp -implicitDefEqProofs only[op,ef,cl,sq,reduceIte,j2,j3,j4,j5,j6,j7,j8,j9,y1,S1]
  exact je _ _ hle ⟨_,cE,by rw[(insertionSort_holds ra di a b gY (by omega)).1.1];exact hn,rfl,av.trans ew fun _ h=>.inl h⟩
 ·simp -implicitDefEqProofs only[op,ef,cl,sq,reduceIte,j2,j3,j4,j5,j6,j7,j8,j9,y1,S1,h0,h1,h2,h3,h4,aG,bh,aD,hle]
  refine fE _ hle ⟨?_,?_,?_,?_,?_,?_,?_,?_⟩
  all_goals simp -implicitDefEqProofs only[op,ef,cl,sq,reduceIte,j2,j3,j4,j5,j6,j7,j8,j9,y1,S1,h0,h1,h2,h3,h4,aG,bh,aD]
open Go.Sort in
theorem ada (A:C)(hA:(dv fg.body 1).map (fm · 2)=some A)(c n a b cr:Nat)(wb wp:Bool)(d:Array Nm)(R:ax)(H0 H:af)(K:Out→af→Prop)(hp:PR R c n a b cr wb wp)(hd:SC c n H0 (fun x=>x=d) H)(hb:b≤n)(gY:a+12<b)(hs:n<16777216)
  (je:∀R' H',cr=0→SC c n H0 (fun x=>x=heapSort a0 d a b) H'→K (.ex .ret R') H')
  (fE:∀R',¬cr=0→PR R' c n a b cr wb wp→K (.ex .normal R') H):fJ env A R H K:=by
 simp[fg,dv,fm,sq]at hA
 subst hA
 obtain⟨h0,h1,h2,h3,h4,aG,bh,aD⟩:=hp
 obtain⟨di,hc,hn,rfl,av⟩:=hd
 by_cases hl:cr=0
 ·subst hl
  have e:(((0:Nat):Int)==0)=true:=rfl
  simp -implicitDefEqProofs only[op,ef,cl,sq,reduceIte,j2,j3,j4,j5,j6,j7,j8,j9,y1,S1,h0,h1,h2,h3,h4,aG,bh,aD,e]
  refine ae _ _ _ _ _ _ _ _ (QG c n di a b _ hn hc hb (by omega) (by omega)) ?_
  rintro u H2⟨hu,d2,cE,jd,e2,ew⟩
  cases hu
  simp -implicitDefEqProofs only[op,ef,cl,sq,reduceIte,j2,j3,j4,j5,j6,j7,j8,j9,y1,S1]
  exact je _ _ rfl ⟨_,cE,jd,e2,av.trans ew fun _ h=>.inl h⟩
 ·have e:((cr:Int)==0)=false:=by simp;omega
  simp -implicitDefEqProofs only[op,ef,cl,sq,reduceIte,j2,j3,j4,j5,j6,j7,j8,j9,y1,S1,h0,h1,h2,h3,h4,aG,bh,aD,e]
  refine fE _ hl ⟨?_,?_,?_,?_,?_,?_,?_,?_⟩
  all_goals simp -implicitDefEqProofs only[op,ef,cl,sq,reduceIte,j2,j3,j4,j5,j6,j7,j8,j9,y1,S1,h0,h1,h2,h3,h4,aG,bh,aD]
open Go.Sort in
theorem adb (A:C)(hA:(dv fg.body 1).map (fm · 4)=some A)(c n a b cr:Nat)(wb wp:Bool)(d:Array Nm)(R:ax)(H0 H:af)(K:Out→af→Prop)(hp:PR R c n a b cr wb wp)(hd:SC c n H0 (fun x=>x=d) H)(hb:b≤n)(gY:a+12<b)(hs:n<16777216)
  (rest:∀R' H',PR R' c n a b cr wb wp→R' 13=.int .i64 (choosePivot a0 d a b).1→R' 14=.int .i64 (iw (choosePivot a0 d a b).2)→SC c n H0 (fun x=>x=d) H'→K (.ex .normal R') H'):fJ env A R H K:=by
 simp[fg,dv,fm,sq]at hA
 subst hA
 obtain⟨h0,h1,h2,h3,h4,aG,bh,aD⟩:=hp
 obtain⟨di,hc,hn,rfl,av⟩:=hd
 simp -implicitDefEqProofs only[op,ef,cl,sq,reduceIte,j2,j3,j4,j5,j6,j7,j8,j9,y1,S1,h0,h1,h2,h3,h4,aG,bh,aD]
 refine ae _ _ _ _ _ _ _ _ (HH c n di a b _ hn hc hb gY (by omega)) ?_
 rintro u H2⟨hu,hx⟩
 cases hu
 simp -implicitDefEqProofs only[op,ef,cl,sq,reduceIte,j2,j3,j4,j5,j6,j7,j8,j9,y1,S1]
 refine rest _ _ ⟨?_,?_,?_,?_,?_,?_,?_,?_⟩ ?_ ?_ ⟨di,hx.get hc,hn,rfl,av.trans (aB (F:=fun _=>False) hx) (fun _ h=>h.elim)⟩
 all_goals simp -implicitDefEqProofs only[op,ef,cl,sq,reduceIte,j2,j3,j4,j5,j6,j7,j8,j9,y1,S1,h0,h1,h2,h3,h4,aG,bh,aD]
theorem YI {a:Nat}(h:a<9223372036854775808):IntKind.i64.wrap ((a:Int).tdiv 8)=((a/8:Nat):Int):=by rw[Int.tdiv_eq_ediv_of_nonneg (by omega),wrap64 (by omega)];omega
open Go.Sort in
theorem ade (A:C)(hA:(dv fg.body 1).map (HO · 8)=some A)(c n a b cr:Nat)(wb wp:Bool)(d:Array Nm)(pv:Nat)(R:ax)(H0 H:af)(K:Out→af→Prop)(hp:PR R c n a b cr wb wp)(bn:R 13=.int .i64 pv)(hd:SC c n H0 (fun x=>x=d) H)(hb:b≤n)(gY:a+12<b)(hs:n<16777216)(nk:a≤pv∧pv<b)
  (ih:∀a' b' (d':Array Nm) H',b'-a'<b-a→a'≤b'→b'≤n→d'.size=n→H'[c]?=some (.cells (aP eN d'.toList))→W env (.call 117 [.aC c 0 n 2,.int .i64 a',.int .i64 b',.int .i64 cr,.fn 61 []]) H' (Ag c n (pdq a0 d' a' b' cr true true) H'))
  (rest:∀R' H' a' b' (d':Array Nm) (LF:Bool),a≤a'→a'≤b'→b'≤b→b'-a'<b-a→R' 0=.aC c 0 n 2→R' 1=.int .i64 (a':Nat)→R' 2=.int .i64 (b':Nat)→R' 3=.int .i64 cr→R' 4=.fn 61 []→R' 10=.bool LF→R' 11=.bool (partition a0 d a b pv).2.1 →
   pdq a0 d' a' b' cr LF (partition a0 d a b pv).2.1=(if (partition a0 d a b pv).1-a<b-(partition a0 d a b pv).1 then pdq a0 (pdq a0 (partition a0 d a b pv).2.2 a (partition a0 d a b pv).1 cr true true) ((partition a0 d a b pv).1+1) b cr (decide ((partition a0 d a b pv).1-a≥(b-a)/8)) (partition a0 d a b pv).2.1
    else pdq a0 (pdq a0 (partition a0 d a b pv).2.2 ((partition a0 d a b pv).1+1) b cr true true) a (partition a0 d a b pv).1 cr (decide (b-(partition a0 d a b pv).1≥(b-a)/8)) (partition a0 d a b pv).2.1) →
   SC c n H0 (fun x=>x=d') H'→K (.ex .normal R') H'):fJ env A R H K:=by
 simp[fg,dv,HO,sq]at hA
 subst hA
 obtain⟨h0,h1,h2,h3,h4,aG,bh,aD⟩:=hp
 obtain⟨di,hc,hn,rfl,av⟩:=hd
 have qv:=partition_holds a0 ra di a b pv nk.1 nk.2 (by omega)
 simp -implicitDefEqProofs only[op,ef,cl,sq,reduceIte,j2,j3,j4,j5,j6,j7,j8,j9,y1,S1,h0,h1,h2,h3,h4,aG,bh,aD,bn]
 refine ae _ _ _ _ _ _ _ _ (QK c n di a b pv _ hn hc hb (by omega) (by omega) (by omega)) ?_
 rintro u H2⟨hu,d2,cE,jd,e2,ew⟩
 cases hu
 generalize partition a0 di a b pv=r at *
 obtain⟨mid,ap,d4⟩:=r
 simp only at qv e2 rest ⊢
 subst e2
 obtain⟨m1,m2,_⟩:=qv
 have lf:=av.trans ew fun _ h=>.inl h
 by_cases aq:mid-a<b-mid
 ·rw[if_pos aq]at rest
  simp -implicitDefEqProofs (maxSteps:=1000000) (disch:=omega) only[aa,aU,aV,aW,aX,aY,aZ,wA,bf,wS,ba,wM,S2,op,ef,cl,sq,reduceIte,j2,j3,j4,j5,j6,j7,j8,j9,y1,S1,YI,h0,h1,h2,h3,h4,aG,bh,aD,bn,aq]
  refine ae _ _ _ _ _ _ _ _ (ih a mid d2 _ (by omega) m1 (by omega) jd cE) ?_
  rintro u H3⟨hu,d3,oW,AV,e3,qc⟩
  cases hu
  simp -implicitDefEqProofs (maxSteps:=1000000) (disch:=omega) only[aa,aU,aV,aW,aX,aY,aZ,wA,bf,wS,ba,wM,S2,op,ef,cl,sq,reduceIte,j2,j3,j4,j5,j6,j7,j8,j9,y1,S1,h0,h1,h2,h3,h4,aG,bh,aD,bn]
  refine rest _ _ (mid+1) b d3 (decide ((b-a)/8≤mid-a)) (by omega) (by omega) (Nat.le_refl _) (by omega) ?_ ?_ ?_ ?_ ?_ ?_ ?_ (by rw[e3]) ⟨d3,oW,AV,rfl,lf.trans qc fun _ h=>.inl h⟩
  all_goals simp -implicitDefEqProofs only[op,ef,cl,sq,reduceIte,j2,j3,j4,j5,j6,j7,j8,j9,y1,S1,h0,h1,h2,h3,h4,aG,bh,aD]
 ·rw[if_neg aq]at rest
  simp -implicitDefEqProofs (maxSteps:=1000000) (disch:=omega) only[aa,aU,aV,aW,aX,aY,aZ,wA,bf,wS,ba,wM,S2,op,ef,cl,sq,reduceIte,j2,j3,j4,j5,j6,j7,j8,j9,y1,S1,YI,h0,h1,h2,h3,h4,aG,bh,aD,bn,aq]
  refine ae _ _ _ _ _ _ _ _ (ih (mid+1) b d2 _ (by omega) m2 (by omega) jd cE) ?_
  rintro u H3⟨hu,d3,oW,AV,e3,qc⟩
  cases hu
  simp -implicitDefEqProofs (maxSteps:=1000000) (disch:=omega) only[aa,aU,aV,aW,aX,aY,aZ,wA,bf,wS,ba,wM,S2,op,ef,cl,sq,reduceIte,j2,j3,j4,j5,j6,j7,j8,j9,y1,S1,h0,h1,h2,h3,h4,aG,bh,aD,bn]
  refine rest _ _ a mid d3 (decide ((b-a)/8≤b-mid)) (by omega) (by omega) (by omega) (by omega) ?_ ?_ ?_ ?_ ?_ ?_ ?_ (by rw[e3]) ⟨d3,oW,AV,rfl,lf.trans qc fun _ h=>.inl h⟩
  all_goals simp -implicitDefEqProofs only[op,ef,cl,sq,reduceIte,j2,j3,j4,j5,j6,j7,j8,j9,y1,S1,h0,h1,h2,h3,h4,aG,bh,aD]
set_option maxHeartbeats 8000000
open Go.Sort in
theorem Wh (c n:Nat)(hs:n<16777216):∀m a b cr (d:Array Nm) H,b-a=m→a≤b→b≤n→cr<1000→d.size=n→H[c]?=some (.cells (aP eN d.toList)) →
  W env (.call 117 [.aC c 0 n 2,.int .i64 (a:Nat),.int .i64 (b:Nat),.int .i64 (cr:Nat),.fn 61 []]) H (Ag c n (pdq a0 d a b cr true true) H):=by
 intro m
 induction m using Nat.strongRecOn with
 | _ m ih =>
 intro a b cr d H hm gY hb adf hn hc
 subst hm
 refine W.bA rfl rfl rfl ?_
 simp -implicitDefEqProofs only[fg,op,ef,cl,sq,reduceIte,j2,j3,j4,j5,j6,j7,j8,j9,y1,S1]
 refine W.cO (fun (q:Nat×Nat×Nat×Bool×Bool) R H'=>At H' (fun H'=>SC c n H (fun di=>pdq a0 di q.1 q.2.1 q.2.2.1 q.2.2.2.1 q.2.2.2.2=pdq a0 d a b cr true true) H')∧R 0=.aC c 0 n 2∧R 1=.int .i64 q.1∧R 2=.int .i64 q.2.1∧R 3=.int .i64 q.2.2.1∧R 4=.fn 61 []∧R 10=.bool q.2.2.2.1∧R 11=.bool q.2.2.2.2∧a≤q.1∧q.1≤q.2.1∧q.2.1≤b∧q.2.2.1≤cr) (fun q=>q.2.1-q.1) (a,b,cr,true,true) ⟨.i ⟨d,hc,hn,rfl,a6.refl _ _⟩,rfl,rfl,rfl,rfl,rfl,rfl,rfl,Nat.le_refl _,gY,Nat.le_refl _,Nat.le_refl _⟩ ?_
 rintro⟨a1,b1,l1,wb,wp⟩ R H1 ⟨⟨di,hd,bg,hP,av⟩,h0,h1,h2,h3,h4,aG,bh,q1,q2,q3,q4⟩
 simp only at hP h1 h2 h3 aG bh q1 q2 q3 q4 ⊢
 rw[qU,gq]
 refine ac8 _ rfl c n a1 b1 l1 wb wp R H1 _ h0 h1 h2 h3 h4 aG bh q2 (by omega) ?_
 intro R1 p1
 rw[ej,cX,gq]
 refine ac9 _ rfl c n a1 b1 l1 wb wp di R1 H H1 _ p1 ⟨di,hd,bg,rfl,av⟩ (by omega) q2 hs ?_ ?_
 ·rintro R' H' hle⟨d',iC,ff,rfl,qQ⟩
  rw[pdq,if_pos hle]at hP
  simp -implicitDefEqProofs only[op,ef,cl,sq,reduceIte,j2,j3,j4,j5,j6,j7,j8,j9,y1,S1]
  exact⟨rfl,_,iC,ff,hP,qQ⟩
 intro R2 aD p2
 rw[ej,cX,gq]
 refine ada _ rfl c n a1 b1 l1 wb wp di R2 H H1 _ p2 ⟨di,hd,bg,rfl,av⟩ (by omega) (by omega) hs ?_ ?_
 ·rintro R' H' zk⟨d',iC,ff,rfl,qQ⟩
  rw[pdq,if_neg aD,if_pos zk]at hP
  simp -implicitDefEqProofs only[op,ef,cl,sq,reduceIte,j2,j3,j4,j5,j6,j7,j8,j9,y1,S1]
  exact⟨rfl,_,iC,ff,hP,qQ⟩
 intro R3 zk p3
 rw[ej,cX,gq]
 refine ac4 _ rfl c n a1 b1 l1 wb wp di R3 H H1 _ p3 ⟨di,hd,bg,rfl,av⟩ (by omega) (by omega) hs (by omega) ?_
 rintro R4 H4 p4⟨d1,sI,DM,e1,zp⟩
 obtain⟨fo,el⟩:∃l,l=if (!wb)=true then l1-1 else l1:=⟨_,rfl⟩
 have rI:fo≤l1:=by rw[el];split<;>omega
 rw[←el]at p4
 rw[ej,cX,gq]
 refine adb _ rfl c n a1 b1 fo wb wp d1 R4 H H4 _ p4 ⟨d1,sI,DM,rfl,zp⟩ (by omega) (by omega) hs ?_
 rintro R5 H5 p5 bn n5⟨LG,hd5,QM,Oe,Wi⟩
 subst Oe
 have Wj:=choosePivot_holds a0 LG a1 b1 (by omega)
 obtain⟨cp,ec⟩:∃x,x=choosePivot a0 LG a1 b1:=⟨_,rfl⟩
 rw[←ec]at bn n5 Wj
 rw[ej,cX,gq]
 refine ac5 _ rfl c n a1 b1 fo wb wp LG cp.1 cp.2 R5 H H5 _ p5 bn n5 ⟨LG,hd5,QM,rfl,Wi⟩ (by omega) (by omega) hs Wj ?_
 rintro R6 H6 p6 bn n5⟨d2,hd6,hs6,e2,Jw⟩
 obtain⟨pv,ep⟩:∃x,x=if cp.2=.decreasing then(b1-1)-(cp.1-a1)else cp.1:=⟨_,rfl⟩
 obtain⟨hi,eh⟩:∃x,x=if cp.2=.decreasing then Hint.increasing else cp.2:=⟨_,rfl⟩
 rw[←ep]at bn
 rw[←eh]at n5
 have nk:a1≤pv∧pv<b1:=by rw[ep];split<;>omega
 rw[ej,cX,gq]
 obtain⟨pi,LD⟩:∃x,x=if (wb&&wp&&hi=.increasing)=true then partialInsertionSort a0 d2 a1 b1 else(d2,false):=⟨_,rfl⟩
 rw[HP aD zk e1 el ec e2 ep eh LD]at hP
 refine ac6 _ rfl c n a1 b1 fo wb wp d2 pv hi R6 H H6 _ p6 bn n5 ⟨d2,hd6,hs6,rfl,Jw⟩ (by omega) (by omega) hs pi LD ?_ ?_
 ·rintro R' H' Jv⟨d',iC,ff,rfl,qQ⟩
  rw[if_pos Jv]at hP
  simp -implicitDefEqProofs only[op,ef,cl,sq,reduceIte,j2,j3,j4,j5,j6,j7,j8,j9,y1,S1]
  exact⟨rfl,_,iC,ff,hP,qQ⟩
 rintro R7 H7 HC p7 bn⟨d3,hd7,LH,e3,hf7⟩
 rw[if_neg (by rw[HC];simp),←e3]at hP
 rw[ej,cX,gq]
 refine ac7 _ rfl c n a1 b1 fo wb wp d3 pv R7 H H7 _ p7 bn ⟨d3,hd7,LH,rfl,hf7⟩ (by omega) (by omega) hs nk ?_ ?_
 ·rintro R' H' lg g0 g1 g2 g3 g4 ub Ar⟨d',iC,ff,e',qQ⟩
  have hr:=Di d3 nk.1 nk.2 (by omega)
  rw[if_pos lg,if_pos hr,←e']at hP
  simp -implicitDefEqProofs only[op,ef,cl,sq,reduceIte,j2,j3,j4,j5,j6,j7,j8,j9,y1,S1]
  exact⟨((partitionEqual a0 d3 a1 b1 pv).1,b1,fo,wb,wp),by simp only;omega,.i ⟨_,iC,ff,hP,qQ⟩,g0,g1,g2,g3,g4,ub,Ar,by simp only;omega,by simp only;omega,by simp only;omega,by simp only;omega⟩
 rintro R8 H8 lg p8 bn⟨BV,TL,hs8,e3',yL⟩
 subst e3'
 have hr:=partition_holds a0 ra BV a1 b1 pv nk.1 nk.2 (by omega)
 rw[if_neg (by rw[lg];simp),if_pos ⟨hr.1,hr.2.1⟩]at hP
 rw[ej,cX]
 refine ade _ rfl c n a1 b1 fo wb wp BV pv R8 H H8 _ p8 bn ⟨BV,TL,hs8,rfl,yL⟩ (by omega) (by omega) hs nk (fun a' b' d' H' aq QQ jN ff ir=>ih _ (by omega) a' b' fo d' H' rfl QQ jN (by omega) ff ir) ?_
 rintro R' H' a' b' d' LF QQ QR jN aq g0 g1 g2 g3 g4 ub Ar e'⟨d'',iC,ff,rfl,qQ⟩
 simp -implicitDefEqProofs only[op,ef,cl,sq,reduceIte,j2,j3,j4,j5,j6,j7,j8,j9,y1,S1]
 exact⟨(a',b',fo,LF,(partition a0 BV a1 b1 pv).2.1),by simp only;omega,.i ⟨_,iC,ff,by simp only;rw[e'];exact hP,qQ⟩,g0,g1,g2,g3,g4,ub,Ar,by simp only;omega,QR,by simp only;omega,by simp only;omega⟩
open Go.Sort in
theorem LI (c:Nat)(d:Array Nm)(H:af)(hc:H[c]?=some (.cells (aP eN d.toList)))(hs:d.size<16777216) :
  W env (.call 93 [.aC c 0 d.size 2,.fn 61 []]) H (Ag c d.size (sort a0 d) H):=by
 refine W.bA rfl rfl rfl ?_
 have w1:IntKind.u64.wrap (d.size:Int)=(d.size:Int):=qx (by omega)
 simp -implicitDefEqProofs only[Lh,op,ef,cl,sq,reduceIte,j2,j3,j4,j5,j6,j7,j8,j9,y1,S1,w1]
 refine ae _ _ _ _ _ _ _ _ (HJ d.size hs _) ?_
 rintro u H1⟨hu,rfl⟩
 cases hu
 have hb:=qZ (n:=d.size) (k:=24) hs
 simp -implicitDefEqProofs only[op,ef,cl,sq,reduceIte,j2,j3,j4,j5,j6,j7,j8,j9,y1,S1]
 refine ae _ _ _ _ _ _ _ _ (Wh c d.size hs _ 0 d.size (bitsLen d.size) d _ rfl (Nat.zero_le _) (Nat.le_refl _) (by omega) rfl hc) ?_
 rintro u H2⟨hu,h2⟩
 cases hu
 simp -implicitDefEqProofs only[op,ef,cl,sq,reduceIte,j2,j3,j4,j5,j6,j7,j8,j9,y1,S1]
 exact⟨rfl,h2⟩
theorem wo {d:Array Nm}(hn:d.toList.Nodup):(Go.Sort.sort a0 d).toList.Perm d.toList∧(Go.Sort.sort a0 d).toList.Pairwise (fun a b=>a0 a b=true):=by
 obtain⟨⟨hs,_,hp⟩,HQ⟩:=Go.Sort.sort_sorts a0 ra d
 have e1:(Go.Sort.sort a0 d).extract 0 d.size=Go.Sort.sort a0 d:=by
  conv=>lhs;arg 3;rw[←hs]
  simp
 have gg:(Go.Sort.sort a0 d).toList.Perm d.toList:=by
  rw[e1]at hp
  simpa using hp
 refine⟨gg,?_⟩
 have DU:(Go.Sort.sort a0 d).toList.Nodup:=gg.nodup_iff.2 hn
 rw[List.pairwise_iff_getElem]
 intro i j hi hj sB
 have h1:=HQ i j (Nat.zero_le _) sB (by rw[←hs];simpa using hj)
 have gi:=jE (d:=Go.Sort.sort a0 d) (i:=i) (by simpa using hi)
 have gj:=jE (d:=Go.Sort.sort a0 d) (i:=j) (by simpa using hj)
 rw[List.getElem?_eq_getElem hi]at gi
 rw[List.getElem?_eq_getElem hj]at gj
 rw[Option.some.inj gi,Option.some.inj gj]
 cases h:a0 (Go.Sort.sort a0 d)[i]! (Go.Sort.sort a0 d)[j]! with
 | true=>rfl
 | false =>
  have e:=BU h h1
  rw[←Option.some.inj gi,←Option.some.inj gj]at e
  have:=(List.getElem_inj DU).1 e
  omega
theorem Dj (es:List (Nm×T))(c mb:Nat)(H:af)(fH:(es.map (·.1)).Nodup)(jm:es.length≤8000000)(hc:H[c]?=some (.cells [.map mb]))(hm:H[mb]?=some (.map (bl kN es))) :
  W env (.call 59 [.fn 94 [.ptr c 0],.fn 61 []]) H (Wg es H):=by
 refine W.bA rfl rfl rfl ?_
 simp -implicitDefEqProofs only[PT,op,ef,cl,sq,reduceIte,j2,j3,j4,j5,j6,j7,j8,j9,y1,S1]
 refine ae _ _ _ _ _ _ _ _ (QC es c mb H fH (by omega) hc hm) ?_
 rintro u H1⟨hx,t,cn,hu,BR,mX⟩
 cases hu
 have gg:cn.Perm (es.map (·.1)):=(List.perm_ext_iff_of_nodup mX.HB fH).2 fun k=>mX.C8 k
 have og:cn.length=es.length:=by have:=mX.len;simpa using this
 rcases BR with⟨rfl,rfl⟩|⟨d,rfl,hd,Jm⟩
 ·simp -implicitDefEqProofs only[op,ef,cl,sq,reduceIte,j2,j3,j4,j5,j6,j7,j8,j9,y1,S1]
  refine ae _ _ _ _ _ _ _ _ (Wf _) ?_
  rintro u H2⟨hu,rfl⟩
  cases hu
  simp -implicitDefEqProofs only[op,ef,cl,sq,reduceIte,j2,j3,j4,j5,j6,j7,j8,j9,y1,S1]
  exact⟨hx,_,[],rfl,kY _ _ _ _,gg,List.Pairwise.nil⟩
 ·simp -implicitDefEqProofs only[op,ef,cl,sq,reduceIte,j2,j3,j4,j5,j6,j7,j8,j9,y1,S1]
  have:=LI d cn.toArray H1 (by simpa using hd) (by simpa using (by omega:cn.length<16777216))
  simp -implicitDefEqProofs only[List.size_toArray]at this
  refine ae _ _ _ _ _ _ _ _ this ?_
  rintro u H2⟨hu,d2,h2,qI,rfl,av⟩
  cases hu
  simp -implicitDefEqProofs only[op,ef,cl,sq,reduceIte,j2,j3,j4,j5,j6,j7,j8,j9,y1,S1]
  have hs:=wo (d:=cn.toArray) (by simpa using mX.HB)
  simp -implicitDefEqProofs only[List.size_toArray]at hs
  refine⟨nZ fun a x Wk=>av.get (hx.get Wk) (by have:=aQ Wk;omega),_,_,rfl,.inr ⟨d,?_,h2,Jm⟩,hs.1.trans gg,hs.2⟩
  rw[hs.1.length_eq]
theorem u5 {α:Type}{enc:α→List T}{n:Nat}(hn:∀x,(enc x).length=n)(h0:n≠0){n0:Nat}{H:af}{t:T}{l:List α}(hm:lB enc n n0 H t l){i:Nat}{x:α}(hx:l[i]?=some x):∃b,H[b]?=some (.cells (aP enc l))∧dK n i t=some (.ptr b (i*n))∧mr n (i*n) (some (.cells (aP enc l)))=some (enc x):=by
 have hi:=(List.getElem?_eq_some_iff.1 hx).1
 rcases hm with⟨rfl,_⟩|⟨b,rfl,hb,_⟩
 ·simp at hi
 ·refine⟨b,hb,by rw[lA];simp[hi,h0],?_⟩
  have:=eD hn hx 0 n (by omega)
  simp -implicitDefEqProofs only[Nat.add_zero,List.drop_zero]at this
  rw[this,List.take_of_length_le (by rw[hn];omega)]
def eK (x:Nm×Hd):List T:=[.str x.1.1,.int .u64 x.1.2,.str x.2.value,.sl .arg (x.2.keys.map eS),.int .i64 x.2.a9]
def qy (s:dH)(l:List Nm):List (Nm×Hd):=l.map fun n=>(n,qG (aj s.vs n))
def Wl (s:dH)(H:af):Out→af→Prop:=fun o H'=>Ext H H'∧∃k l,gI k l∧o=.val (.sl k ((qy s l).map eK))∧l.Perm (s.vs.map (·.1))∧l.Pairwise (fun a b=>a0 a b=true)
theorem QS (b:Bk)(s:dH)(F:Nat→Prop)(H:af)(hs:SH H b s F)(hi:gV s)(hn:s.vs.length≤8000000):W env (.call 18 [.ptr b.s 0]) H (Wl s H):=by
 obtain⟨im,pm,sa⟩:=hs
 refine W.bA rfl rfl rfl ?_
 simp -implicitDefEqProofs only[Pn,op,ef,cl,sq,reduceIte,j2,j3,j4,j5,j6,j7,j8,j9,y1,S1,sa.hs]
 refine ae _ _ _ _ _ _ _ (fun o H'=>o=.val (.fn 94 [.ptr H.length 0])∧H'=H++[.cells [.map b.v]]) ?_ ?_
 ·refine W.bA rfl rfl rfl ?_
  simp -implicitDefEqProofs only[PU,op,ef,cl,sq,reduceIte,j2,j3,j4,j5,j6,j7,j8,j9,y1,S1]
  exact rfl
 rintro u H1⟨hu,rfl⟩
 cases hu
 have lv:=aQ sa.hv
 have yM:(eE s.vs).map (·.1)=s.vs.map (·.1):=by simp[eE]
 simp -implicitDefEqProofs only[op,ef,cl,sq,reduceIte,j2,j3,j4,j5,j6,j7,j8,j9,y1,S1]
 refine ae _ _ _ _ _ _ _ _ (Dj (eE s.vs) H.length b.v _ (by rw[yM];exact hi.nd) (by simpa[eE]using hn) (aE rfl) (by rw[aR lv];exact sa.hv)) ?_
 rintro t H2⟨jc,_,l,hu,BR,gg,QT⟩
 cases hu
 rw[yM]at gg
 have rI:l.length≤8000000:=by rw[gg.length_eq];simpa using hn
 have hlen:=BR.len
 have ku:Ext H H2:=(Ext.rfl'.app _).trans jc
 simp -implicitDefEqProofs only[op,ef,cl,sq,reduceIte,j2,j3,j4,j5,j6,j7,j8,j9,y1,S1,hlen]
 have afm:∀Hx,jG Hx .sl t=some l.length:=fun Hx=>by
  rcases BR with⟨e,rfl⟩|⟨c,rfl,_,_⟩
  ·rw[e];rfl
  ·rfl
 refine W.cO (fun (i:Nat) R H'=>At H' (fun H'=>∃kw,R 3=.sl kw ((qy s (l.take i)).map eK)∧Ext H H'∧Ext H2 H'∧fK H2.length H' kw∧gI kw (l.take i))∧R 0=.ptr b.s 0∧R 11=t∧R 12=.int .i64 l.length∧R 13=.int .i64 i∧i≤l.length) (fun i=>l.length-i) 0 ⟨.i ⟨.nil,rfl,ku,Ext.rfl',ft _ _,fun _=>rfl⟩,rfl,rfl,rfl,rfl,Nat.zero_le _⟩ ?_
 rintro i R H3⟨⟨kw,h3,lC,As,kx,jP⟩,h0,bh,aD,bn,mc⟩
 by_cases aq:i<l.length
 ·obtain⟨m,hm⟩:=bM aq
  have ws:=aw (show i<9223372036854775807 by omega)
  obtain⟨c,g1,g2,g3⟩:=u5 (enc:=eN) (n:=2) (fun _=>rfl) (by decide) (BR.ext As) hm
  have BS:=sa.hO (aB (F:=fun _=>False) lC) (fun _ _ _ h=>h)
  have l0:=aQ BS.hs
  have lv3:=aQ BS.hv
  have nj:=fun Hx z ok=>mw vZ z ok Hx (eE s.vs) m
  simp -implicitDefEqProofs only[kN,eN]at nj
  have hh:=Ac s.vs m
  simp -implicitDefEqProofs only[op,ef,cl,sq,reduceIte,j2,j3,j4,j5,j6,j7,j8,j9,y1,S1,S2,S3,List.length_set,h0,bh,aD,bn,aq,aa,g1,g2,g3,eN,BS.hs,BS.hv,l0,lv3,nj,hh,fC]
  refine ae _ _ _ _ _ _ _ _ (Dd b s F m.1 m.2 _ ⟨im,pm,BS.hO (aB (F:=fun _=>False) (Ext.rfl'.app _)) (fun _ _ _ h=>h)⟩ hi) ?_
  rintro u H4⟨jn,kk,bT,hu⟩
  cases hu
  have c0:H4[H3.length]?=some (.cells [.str m.1,.int .u64 m.2]):=jn.get (by rw[aE rfl])
  have Dk:Ext H3 H4:=(Ext.rfl'.app _).trans jn
  have s4:=Dk.get BS.hs
  have v4:=Dk.get BS.hv
  obtain⟨hd,pY⟩:∃hd,hd=qG (aj s.vs m):=⟨_,rfl⟩
  rw[←pY]at hh bT
  have bD:=all_map (enc:=eK) (n:=5) (fun _=>rfl) (qy s (l.take i))
  have MN:((qy s (l.take i)).map eK).length≤8000000:=by simp -implicitDefEqProofs only[qy,List.length_map,List.length_take];omega
  obtain⟨k',H5,ha,HR,cW⟩:=gC (bytes:=72) ((qy s (l.take i)).map eK) [[T.str m.1,.int .u64 m.2,.str hd.value,.sl .arg (hd.keys.map eS),.int .i64 hd.a9]] (kx.ext Dk) (Nat.le_trans As.len Dk.len) (by simp) (ga (by simp -implicitDefEqProofs only[List.length_cons,List.length_nil];omega))
  have tG:=pW ha (by simp)
  simp -implicitDefEqProofs only[op,ef,cl,sq,reduceIte,j2,j3,j4,j5,j6,j7,j8,j9,y1,S1]at ha
  simp -implicitDefEqProofs only[op,ef,cl,sq,reduceIte,j2,j3,j4,j5,j6,j7,j8,j9,y1,S1,VM,h3,c0,s4,v4,nj,hh,fC,←pY,bD,ha,h0,bh,aD,bn,ws]
  refine⟨i+1,by omega,.i ⟨k',?_,cW.ext H (by have:=ku.len;omega) (lC.trans Dk),cW.ext H2 (Nat.le_refl _) (As.trans Dk),HR,fun h=>absurd h tG⟩,rfl,by omega⟩
  rw[b6 hm]
  simp -implicitDefEqProofs only[qy,List.map_append,List.map_cons,List.map_nil,eK,←pY]
 ·have nY:i=l.length:=by omega
  subst nY
  rw[List.take_length]at h3 jP
  simp -implicitDefEqProofs only[op,ef,cl,sq,reduceIte,j2,j3,j4,j5,j6,j7,j8,j9,y1,S1,h3,aD,bn,aq]
  exact⟨lC,kw,l,jP,rfl,gg,QT⟩
theorem u6:∀(l l':List Nm),l.Pairwise (fun a b=>a0 a b=true)→l'.Pairwise (fun a b=>a0 a b=true)→(∀x,x∈l↔x∈l')→l=l'
 | [],[],_,_,_=>rfl
 | [],b :: l',_,_,h=>by have:=(h b).2 (by simp);simp at this
 | a :: l,[],_,_,h=>by have:=(h a).1 (by simp);simp at this
 | a :: l,b :: l',h1,h2,h=>by
  rw[List.pairwise_cons]at h1 h2
  have e:a=b:=by
   rcases List.mem_cons.1 ((h a).1 (by simp))with e|e
   ·exact e
   ·rcases List.mem_cons.1 ((h b).2 (by simp))with e2|e2
    ·exact e2.symm
    ·have q1:=h2.1 a e
     have q2:=h1.1 b e2
     have:=kg q1 q2
     rw[lj]at this;cases this
  subst e
  rw[u6 l l' h1.2 h2.2 fun x=>?_]
  have hx:=h x
  simp -implicitDefEqProofs only[List.mem_cons]at hx
  constructor
  ·intro hm
   rcases hx.1 (.inr hm)with e|e
   ·subst e;have:=h1.1 x hm;rw[lj]at this;cases this
   ·exact e
  ·intro hm
   rcases hx.2 (.inr hm)with e|e
   ·subst e;have:=h2.1 x hm;rw[lj]at this;cases this
   ·exact e
theorem mem_keys {α β:Type}[DecidableEq α]{es:List (α×β)}{k:α}:k∈es.map (·.1)↔(aj es k).isSome=true:=by
 cases h:aj es k with
 | none=>simp[cz.1 h]
 | some v =>
  simp -implicitDefEqProofs only[Option.isSome_some,iff_true]
  exact List.mem_map.2 ⟨_,Da h,rfl⟩
theorem QU {α:Type}{l l':List α}(h1:l.Nodup)(h2:l'.Nodup)(h:∀x,x∈l↔x∈l'):l.length=l'.length:=((List.perm_ext_iff_of_nodup h1 h2).2 h).length_eq
def tA:ByteArray:=⟨#[97]⟩
def tB:ByteArray:=⟨#[98]⟩
def tX:ByteArray:=⟨#[120]⟩
def tY:ByteArray:=⟨#[121]⟩
def tZ:ByteArray:=⟨#[122]⟩
abbrev l1:List (ByteArray×ByteArray):=[(tA,tX),(tB,tY)]
abbrev l2:List (ByteArray×ByteArray):=[(tA,tZ)]
theorem SH.ext {H H':af}{b:Bk}{s:dH}{F:Nat→Prop}(h:SH H b s F)(hx:Ext H H'):SH H' b s F:=by
 obtain⟨im,pm,sa⟩:=h
 exact⟨im,pm,sa.hO (aB (F:=fun _=>False) hx) (fun _ _ _ h=>h)⟩
theorem a6.more {H H' xz:af}{G:Nat→Prop}(h:a6 (fun _=>False) H H')(h':a6 G H' xz)(hg:∀c,G c→H.length≤c):a6 (fun _=>False) H xz:=h.trans h' fun c hc=>.inr (hg c hc)
theorem a6.ext {H H' xz:af}{F:Nat→Prop}(h:a6 F H H')(h':Ext H' xz):a6 F H xz:=h.trans (aB (F:=fun _=>False) h') fun c hc=>hc.elim
theorem dn {H H':af}(h:a6 (fun _=>False) H H'):Ext H H':=nZ fun c x hx=>h.get hx id
theorem li0 {k:SK}{a b c:List T}(h:a.length=5):dK 5 0 (.sl k [a,b,c])=some (.b0 a):=by simp[dK,h]
theorem li1 {k:SK}{a b c:List T}(h:b.length=5):dK 5 1 (.sl k [a,b,c])=some (.b0 b):=by simp[dK,h]
end Go.Proofs.YtdcpehdijdllpaaGreat.St
end

section
namespace Go.Proofs.YtdcpehdijdllpaaGreat.St
open Go.Rmp Go.Proofs.YtdcpehdijdllpaaGreat.Ir
set_option maxRecDepth 10000
def adn (c:Nat)(d':Array ByteArray)(H:af):Out→af→Prop:=fun o H'=>o=.val (.bC [])∧H'[c]?=some (.cells (aP eS d'.toList))∧a6 (fun x=>x=c) H H'
theorem sJ {Hx:af}{c:Nat}(d:Array ByteArray){i j:Nat}(hi:i<d.size)(hj:j<d.size) :
  qD Hx c [.str d[j]!] (i*1) (some (.cells (aP eS d.toList)))=some (Hx.set c (.cells (aP eS (d.toList.set i d[j]!)))) ∧
  ∀Hy,qD Hy c [.str d[i]!] (j*1) (some (.cells (aP eS (d.toList.set i d[j]!))))=some (Hy.set c (.cells (aP eS (Go.Sort.swp d i j).toList))):=by
 have g1:=mT (enc:=eS) (n:=1) (y:=d[j]!) (fun _=>rfl) (jE hi) Hx c (eS d[j]!) 0 (by simp[eS]) (by simp[eS])
 obtain⟨z,hz⟩:=bM (l:=d.toList.set i d[j]!) (i:=j) (by simpa using hj)
 have g2:=fun Hy=>mT (enc:=eS) (n:=1) (y:=d[i]!) (fun _=>rfl) hz Hy c (eS d[i]!) 0 (by simp[eS]) (by simp[eS])
 refine⟨by simpa[eS]using g1,fun Hy=>?_⟩
 rw[yH]
 simpa[eS]using g2 Hy
theorem Au {d:Array ByteArray}{i:Nat}(h:i<d.size):mr 1 (i*1) (some (.cells (aP eS d.toList)))=some [.str d[i]!]:=by
 have:=eD (enc:=eS) (n:=1) (fun _=>rfl) (jE h) 0 1 (by decide)
 simpa[eS]using this
open Go.Sort in
theorem Wm (c:Nat)(d:Array ByteArray)(a b:Nat)(H:af)(hc:H[c]?=some (.cells (aP eS d.toList)))(hb:b≤d.size)(gY:a≤b)(hs:d.size<4611686018427387903) :
  W env (.call 142 [.aC c 0 d.size 1,.int .i64 a,.int .i64 b]) H (adn c (insertionSort strLt d a b) H):=by
 refine W.bA rfl rfl rfl ?_
 have wa:=aw (show a<9223372036854775807 by omega)
 simp -implicitDefEqProofs only[BM,op,ef,cl,sq,reduceIte,j2,j3,j4,j5,j6,j7,j8,j9,y1,S1,wa]
 refine W.cO (fun (i:Nat) R H'=>At H' (fun H'=>∃di:Array ByteArray,H'[c]?=some (.cells (aP eS di.toList))∧di.size=d.size∧insOuter strLt a b i di=insertionSort strLt d a b∧a6 (fun x=>x=c) H H')∧R 0=.aC c 0 d.size 1∧R 1=.int .i64 a∧R 2=.int .i64 b∧R 6=.int .i64 i∧a+1≤i) (fun i=>b-i) (a+1) ⟨.i ⟨d,hc,rfl,rfl,a6.refl _ _⟩,rfl,rfl,rfl,rfl,Nat.le_refl _⟩ ?_
 rintro i R H1⟨⟨di,hd,bg,Af,av⟩,h0,h1,h2,h6,xm⟩
 by_cases aq:i<b
 ·have wi:=aw (show i<9223372036854775807 by omega)
  simp -implicitDefEqProofs only[op,ef,cl,sq,reduceIte,j2,j3,j4,j5,j6,j7,j8,j9,y1,S1,h0,h1,h2,h6,aq]
  refine W.cV 2 (fun (j:Nat) R H'=>At H' (fun H'=>∃dj:Array ByteArray,H'[c]?=some (.cells (aP eS dj.toList))∧dj.size=d.size∧insInner strLt a j dj=insInner strLt a i di∧a6 (fun x=>x=c) H H')∧R 0=.aC c 0 d.size 1∧R 1=.int .i64 a∧R 2=.int .i64 b∧R 6=.int .i64 i∧R 7=.int .i64 j∧j≤i) (fun j=>j) i
   (fun R H'=>At H' (fun H'=>∃dj:Array ByteArray,H'[c]?=some (.cells (aP eS dj.toList))∧dj.size=d.size∧dj=insInner strLt a i di∧a6 (fun x=>x=c) H H')∧R 0=.aC c 0 d.size 1∧R 1=.int .i64 a∧R 2=.int .i64 b∧R 6=.int .i64 i) ?_ ?_ ?_
  ·refine⟨.i ⟨di,hd,bg,rfl,av⟩,?_,?_,?_,?_,?_,Nat.le_refl _⟩
   all_goals (simp -implicitDefEqProofs only[op,ef,cl,sq,reduceIte,j2,j3,j4,j5,j6,j7,j8,j9,y1,S1,h0,h1,h2,h6])
  ·rintro j R H2⟨⟨dj,cE,qI,sF,lf⟩,q0,q1,q2,q6,q7,TK⟩
   by_cases QE:a<j
   ·obtain⟨j',rfl⟩:∃j',j=j'+1:=⟨j-1,by omega⟩
    have wp:IntKind.i64.wrap (((j'+1:Nat):Int)-1)=(j':Int):=by rw[wrap64 (by omega)];omega
    have j1:j'+1<d.size:=by omega
    have j0:j'<d.size:=by omega
    have i1:dK 1 (j'+1) (.aC c 0 d.size 1)=some (.ptr c ((j'+1)*1)):=by rw[lA];simp[j1]
    have i0:dK 1 j' (.aC c 0 d.size 1)=some (.ptr c (j'*1)):=by rw[lA];simp[j0]
    have v1:=Au (d:=dj) (i:=j'+1) (by omega)
    have v0:=Au (d:=dj) (i:=j') (by omega)
    simp -implicitDefEqProofs only[op,ef,cl,sq,reduceIte,j2,j3,j4,j5,j6,j7,j8,j9,y1,S1,q0,q1,q2,q6,q7,QE,aa,i1,i0,wp,cE,v1,v0]
    refine ae _ _ _ _ _ _ _ _ (et dj[j'+1]! dj[j']! _) ?_
    rintro u H3⟨hu,rfl⟩
    cases hu
    have oW:=cE
    obtain⟨s1,s2⟩:=sJ (Hx:=H3) (c:=c) dj (i:=j'+1) (j:=j') (by omega) (by omega)
    cases nI:strLt dj[j'+1]! dj[j']! with
    | true =>
     simp -implicitDefEqProofs only[op,ef,cl,sq,reduceIte,j2,j3,j4,j5,j6,j7,j8,j9,y1,S1,q0,q1,q2,q6,q7,aa,i1,i0,wp,oW,v1,v0,s1,S2,s2,aQ oW]
     exact⟨j',by omega,.i ⟨swp dj (j'+1) j',bQ (by rw[List.length_set];exact aQ oW),by rw[swp_size];exact qI,by rw[←sF];conv=>{ rhs;rw[insInner,if_pos (by simp -implicitDefEqProofs only[Bool.and_eq_true,decide_eq_true_eq];exact⟨QE,nI⟩)] },(lf.set (.inl rfl) _).set (.inl rfl) _⟩,rfl,by omega⟩
    | false =>
     simp -implicitDefEqProofs only[op,ef,cl,sq,reduceIte,j2,j3,j4,j5,j6,j7,j8,j9,y1,S1,q0,q1,q2,q6,q7]
     exact .i ⟨dj,oW,qI,by rw[←sF,insInner];simp[nI],lf⟩
   ·simp -implicitDefEqProofs only[op,ef,cl,sq,reduceIte,j2,j3,j4,j5,j6,j7,j8,j9,y1,S1,q0,q1,q2,q6,q7,QE]
    refine .i ⟨dj,cE,qI,?_,lf⟩
    rw[←sF]
    cases j with
    | zero=>rfl
    | succ j=>rw[insInner,if_neg (by simp -implicitDefEqProofs only[Bool.and_eq_true,decide_eq_true_eq];omega)]
  ·rintro R H2⟨⟨dj,cE,qI,sF,lf⟩,q0,q1,q2,q6⟩
   simp -implicitDefEqProofs only[op,ef,cl,sq,reduceIte,j2,j3,j4,j5,j6,j7,j8,j9,y1,S1,q0,q1,q2,q6,wi]
   refine⟨i+1,by omega,.i ⟨dj,cE,qI,?_,lf⟩,rfl,by omega⟩
   rw[←Af,sF]
   conv=>rhs;rw[insOuter,if_pos aq]
 ·simp -implicitDefEqProofs only[op,ef,cl,sq,reduceIte,j2,j3,j4,j5,j6,j7,j8,j9,y1,S1,h0,h1,h2,h6,aq]
  rw[insOuter,if_neg aq]at Af
  subst Af
  exact⟨rfl,hd,av⟩
theorem mY:Go.Sort.SWO strLt where
 irrefl:=fA
 trans _ _ _ h1 h2:=eb h1 h2
 ntrans x y z h1 h2:=by
  cases h:strLt x z with
  | false=>rfl
  | true =>
   cases h3:strLt y x with
   | true=>rw[eb h3 h]at h2;cases h2
   | false=>have:=sd h1 h3;subst this;rw[h]at h2;cases h2
theorem QV (H:af):W env (.call 142 [.sl .nil [],.int .i64 0,.int .i64 0]) H (kX (.bC []) H):=by
 refine W.bA rfl rfl rfl ?_
 have wa:IntKind.i64.wrap ((0:Int)+1)=1:=by decide
 simp -implicitDefEqProofs only[BM,op,ef,cl,sq,reduceIte,j2,j3,j4,j5,j6,j7,j8,j9,y1,S1,wa]
 refine W.cO (fun (_:Nat) R H'=>H'=H∧R 2=.int .i64 0∧R 6=.int .i64 1) (fun _=>0) 0 ⟨rfl,rfl,rfl⟩ ?_
 rintro _ R _⟨rfl,h2,h6⟩
 have l0:¬((1:Int)<0):=by decide
 simp -implicitDefEqProofs only[op,ef,cl,sq,reduceIte,j2,j3,j4,j5,j6,j7,j8,j9,y1,S1,h2,h6,l0]
 trivial
theorem QW (m:Nat)(H:af):W env (.call 122 [.sl .nil [],.int .i64 0,.int .i64 0,.int .i64 m]) H (kX (.bC []) H):=by
 refine W.bA rfl rfl rfl ?_
 have w1:IntKind.i64.wrap ((0:Int)-0)=0:=by decide
 simp -implicitDefEqProofs only[fh,op,ef,cl,sq,reduceIte,j2,j3,j4,j5,j6,j7,j8,j9,y1,S1]
 refine W.cO (fun (_:Nat) R H'=>H'=H∧R 0=.sl .nil []∧R 1=.int .i64 0∧R 2=.int .i64 0) (fun _=>0) 0 ⟨rfl,rfl,rfl,rfl⟩ ?_
 rintro _ R _⟨rfl,h0,h1,h2⟩
 have l0:(0:Int)≤12:=by decide
 simp -implicitDefEqProofs only[op,ef,cl,sq,reduceIte,j2,j3,j4,j5,j6,j7,j8,j9,y1,S1,h0,h1,h2,w1,l0]
 refine ae _ _ _ _ _ _ _ _ (QV _) ?_
 rintro u H2⟨hu,rfl⟩
 cases hu
 simp -implicitDefEqProofs only[op,ef,cl,sq,reduceIte,j2,j3,j4,j5,j6,j7,j8,j9,y1,S1]
 trivial
theorem LJ (H:af):W env (.call 99 [.sl .nil []]) H (kX (.bC []) H):=by
 refine W.bA rfl rfl rfl ?_
 have w1:IntKind.u64.wrap ((0:Nat):Int)=((0:Nat):Int):=by decide
 have e0:((0:Nat):Int)=0:=rfl
 simp -implicitDefEqProofs only[Li,op,ef,cl,sq,reduceIte,j2,j3,j4,j5,j6,j7,j8,j9,y1,S1,w1]
 refine ae _ _ _ _ _ _ _ _ (V2 0 (by omega) _) ?_
 rintro u H1⟨rfl,m,hu⟩
 cases hu
 simp -implicitDefEqProofs only[op,ef,cl,sq,reduceIte,j2,j3,j4,j5,j6,j7,j8,j9,y1,S1,e0]
 refine ae _ _ _ _ _ _ _ _ (QW m _) ?_
 rintro u H2⟨hu,rfl⟩
 cases hu
 simp -implicitDefEqProofs only[op,ef,cl,sq,reduceIte,j2,j3,j4,j5,j6,j7,j8,j9,y1,S1]
 trivial
def QX (es:List (ByteArray×T))(H:af):Out→af→Prop:=fun o H'=>Ext H H'∧∃t l,o=.val t∧lB eS 1 H.length H' t l∧l.Perm (es.map (·.1))∧l.Pairwise (fun a b=>strLt a b=true)
def eL (x:ByteArray×Nat):List T:=[.str x.1,.int .u64 x.2]
def qz (s:dH)(l:List ByteArray):List (ByteArray×Nat):=l.map fun k=>(k,bU s k)
def QY (s:dH)(H:af):Out→af→Prop:=fun o H'=>Ext H H'∧∃k l,gI k l∧o=.val (.sl k ((qz s l).map eL))∧l.Perm (s.ls.map (·.1))∧l.Pairwise (fun a b=>strLt a b=true)
end Go.Proofs.YtdcpehdijdllpaaGreat.St
end
