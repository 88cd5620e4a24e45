/- Part of a proof of a law of this seat: the machine of plain values, its simulation, and the contracts of the functions that the law reaches. Conditions: none beyond the given row. -/
import Derived.Test.YtdcpehdijdllpaaGreatM2
import Derived.Sort.AssemblyPlain
open Int renaming reduceLT → j2, reduceLE → j3, reduceBEq → j4, reduceBNe → j5, reduceEq → j6
open Nat renaming reduceAdd → j7, reduceLeDiff → j8, reduceLT → j9, reduceEqDiff → y1
set_option linter.unusedSimpArgs false
set_option linter.unusedVariables false
set_option linter.unnecessarySimpa false
set_option maxHeartbeats 4000000
section
namespace Go.Proofs.YtdcpehdijdllpaaGreat.St
open Go.Rmp Go.Proofs.YtdcpehdijdllpaaGreat.Ir
set_option maxRecDepth 10000
theorem tH.YU {H:af}{b:Bk}{im:List (ByteArray×T)}{pm:List (Nat×T)}{s:dk}{F:Nat→Prop}(h:tH H b im pm s F)(vs:List (Nm×Hd)):tH (H.set b.v (.map (ba kN (dM vs)))) b im pm { s with vs:=vs } F:=by
 obtain⟨n1,n2,n3,n4⟩:=h.ne
 have k:∀{c x},c≠b.v→H[c]?=some x→(H.set b.v (.map (ba kN (dM vs))))[c]?=some x:=fun hc hx=>by rw[bh (Ne.symm hc)];exact hx
 exact⟨k (Ne.symm n1) h.hs,bT (aW h.hv),k (Ne.symm h.vi) h.hi,k (Ne.symm h.vp) h.hp,k (Ne.symm h.vl) h.hl,h.vi,h.vp,h.vl,h.ip,h.il,h.pl,h.F0,
  fun q=>(h.oi q).dE (fun c x hc hx=>k (h.iU hc).2.1 hx) (fun _ _ h=>h),fun q=>(h.op q).dE (fun c x hc hx=>k (h.jX hc).2.1 hx) (fun _ _ h=>h),h.si,h.sp,h.sx,h.np⟩
theorem tH.SO {H:af}{b:Bk}{im:List (ByteArray×T)}{pm:List (Nat×T)}{s:dk}{F:Nat→Prop}(h:tH H b im pm s F)(ls:List (ByteArray×Nat)):tH (H.set b.l (.map (ba T.str (jW ls)))) b im pm { s with ls:=ls } F:=by
 obtain⟨n1,n2,n3,n4⟩:=h.ne
 have k:∀{c x},c≠b.l→H[c]?=some x→(H.set b.l (.map (ba T.str (jW ls))))[c]?=some x:=fun hc hx=>by rw[bh (Ne.symm hc)];exact hx
 exact⟨k (Ne.symm n4) h.hs,k h.vl h.hv,k h.il h.hi,k h.pl h.hp,bT (aW h.hl),h.vi,h.vp,h.vl,h.ip,h.il,h.pl,h.F0,
  fun q=>(h.oi q).dE (fun c x hc hx=>k (h.iU hc).2.2.2.2.1 hx) (fun _ _ h=>h),fun q=>(h.op q).dE (fun c x hc hx=>k (h.jX hc).2.2.2.2.1 hx) (fun _ _ h=>h),h.si,h.sp,h.sx,h.np⟩
def stamped (h:Hd)(now:Int):Hd:={ h with bf:=now }
def VS (v v':List (Nm×Hd))(now:Int)(S:Nm→Prop):Prop:=(v'.map (·.1)).Nodup∧∀m,(ah v m=none→ah v' m=none)∧∀h,ah v m=some h→(S m∧h.bf=-1→ah v' m=some (stamped h now))∧(¬(S m∧h.bf=-1)→ah v' m=some h)
theorem VS.some {v v':List (Nm×Hd)}{now:Int}{S:Nm→Prop}(h:VS v v' now S)(m:Nm):(ah v' m).isSome=(ah v m).isSome:=by
 obtain⟨h1,h2⟩:=h.2 m
 cases e:ah v m with
 | none=>rw[h1 e]
 | some x =>
  by_cases hc:S m∧x.bf=-1
  ·rw[(h2 x e).1 hc];rfl
  ·rw[(h2 x e).2 hc]
theorem VS.inv {s:dk}(hi:fW s){v':List (Nm×Hd)}{now:Int}{S:Nm→Prop}(h:VS s.vs v' now S)(ls:List (ByteArray×Nat))(Hr:(ls.map (·.1)).Nodup):fW { s with vs:=v',ls:=ls }:=by
 refine⟨hi.xd,fun k n=>?_,hi.N8,fun n k=>?_,h.1,fun m x hm=>?_,hi.bi,hi.bp,Hr⟩
 ·show n∈s.ids k↔(ah v' (k,n)).isSome=true
  rw[h.some];exact hi.Hp k n
 ·show k∈s.dn n↔(ah v' (k,n)).isSome=true
  rw[h.some];exact hi.JA n k
 ·have hm:ah v' m=.some x:=hm
  obtain⟨h1,h2⟩:=h.2 m
  cases e:ah s.vs m with
  | none=>rw[h1 e]at hm;cases hm
  | some y =>
   have hy:=hi.SG m y e
   by_cases hc:S m∧y.bf=-1
   ·rw[(h2 y e).1 hc]at hm;cases hm;exact hy
   ·rw[(h2 y e).2 hc]at hm;cases hm;exact hy
theorem VS.nil {v:List (Nm×Hd)}(hn:(v.map (·.1)).Nodup){now:Int}:VS v v now (fun _=>False):=⟨hn,fun m=>⟨id,fun h e=>⟨fun hh=>hh.1.elim,fun _=>e⟩⟩⟩
theorem VS.mono {v v':List (Nm×Hd)}{now:Int}{S S':Nm→Prop}(h:VS v v' now S)(hs:∀m,(ah v m).isSome=true→(S m↔S' m)):VS v v' now S':=⟨h.1,fun m=>⟨(h.2 m).1,fun x e=>by
 have:=hs m (by rw[e];rfl)
 rw[←this];exact(h.2 m).2 x e⟩⟩
theorem VS.add {v v':List (Nm×Hd)}{now:Int}{S:Nm→Prop}(h:VS v v' now S){m:Nm}{x:Hd}(hx:ah v' m=.some x)(hc:x.bf=-1)(hS:¬S m):VS v (cq v' m (stamped x now)) now (fun m'=>S m'∨m'=m):=by
 refine⟨cV h.1 _ _,fun m'=>?_⟩
 rw[bn]
 by_cases e:m'=m
 ·subst e
  simp -implicitDefEqProofs only[if_true]
  have e2:=h.some m'
  rw[hx]at e2
  refine⟨fun hn=>(by rw[hn]at e2;cases e2),fun y hy=>?_⟩
  have:y=x:=by
   have:=((h.2 m').2 y hy).2 fun hh=>hS hh.1
   rw[hx]at this;exact(Option.some.inj this).symm
  subst this
  exact⟨fun _=>rfl,fun hh=>absurd ⟨.inr trivial,hc⟩ hh⟩
 ·simp -implicitDefEqProofs only[e,if_false,or_false]
  exact h.2 m'
theorem VS.skip {v v':List (Nm×Hd)}{now:Int}{S:Nm→Prop}(h:VS v v' now S){m:Nm}{x:Hd}(hx:ah v' m=.some x)(hc:x.bf≠-1)(hS:¬S m):VS v v' now (fun m'=>S m'∨m'=m):=by
 refine⟨h.1,fun m'=>⟨(h.2 m').1,fun y hy=>?_⟩⟩
 by_cases e:m'=m
 ·subst e
  have:=((h.2 m').2 y hy).2 fun hh=>hS hh.1
  have e2:y=x:=by rw[hx]at this;exact(Option.some.inj this).symm
  subst e2
  exact⟨fun hh=>absurd hh.2 hc,fun _=>hx⟩
 ·simp -implicitDefEqProofs only[e,or_false]
  exact(h.2 m').2 y hy
structure sy (s s':dk)(n:Nat)(now:Int)(D:List ByteArray):Prop where
 vs:VS s.vs s'.vs now (fun m=>m.1∈D∧bJ s m.1<n∧m.2<n)
 on:∀k,k∈D→bJ s k<n→ah s'.ls k=.some n
 off:∀k,¬(k∈D∧bJ s k<n)→ah s'.ls k=ah s.ls k
 yu:(s.ls.map (·.1)).Nodup→(s'.ls.map (·.1)).Nodup
def YV (b:Bk)(s:dk)(F:Nat→Prop)(n:Nat)(now:Int)(H:af):Out→af→Prop:=fun o H'=>∃s',o=.val (.bN [.int .i64 (s.dn n).length,.int .i64 0])∧SH H' b s' F∧fW s'∧sy s s' n now (s.dn n)∧s'.n=s.n∧s'.dn=s.dn∧s'.ids=s.ids∧bl F H H'
theorem sy.skip {s s':dk}{n:Nat}{now:Int}{D:List ByteArray}(h:sy s s' n now D){k:ByteArray}(hk:n≤bJ s k):sy s s' n now (D++[k]):=by
 have key:∀k',k'∈D++[k]∧bJ s k'<n→k'∈D:=fun k' hh=>by
  rcases List.mem_append.1 hh.1 with h|h
  ·exact h
  ·simp at h;subst h;omega
 exact⟨h.vs.mono fun m _=>⟨fun hh=>⟨List.mem_append_left _ hh.1,hh.2⟩,fun hh=>⟨key _ ⟨hh.1,hh.2.1⟩,hh.2⟩⟩,fun k' h1 h2=>h.on k' (key _ ⟨h1,h2⟩) h2,fun k' hh=>h.off k' fun h'=>hh ⟨List.mem_append_left _ h'.1,h'.2⟩,h.yu⟩
theorem sy.add {s s' s2:dk}{n:Nat}{now:Int}{D:List ByteArray}(h:sy s s' n now D){k:ByteArray}(hk:bJ s k<n)(hl:s2.ls=cq s'.ls k n)
  (hv:VS s.vs s2.vs now (fun m=>(m.1∈D∧bJ s m.1<n∧m.2<n)∨(m.1=k∧m.2<n))):sy s s2 n now (D++[k]):=by
 refine⟨hv.mono fun m _=>?_,fun k' h1 h2=>?_,fun k' hh=>?_,fun hh=>by rw[hl];exact cV (h.yu hh) _ _⟩
 ·simp -implicitDefEqProofs only[List.mem_append,List.mem_singleton]
  constructor
  ·rintro (⟨a,b,c⟩|⟨a,c⟩)
   ·exact⟨.inl a,b,c⟩
   ·exact⟨.inr a,by rw[a];exact hk,c⟩
  ·rintro⟨a|a,b,c⟩
   ·exact .inl ⟨a,b,c⟩
   ·exact .inr ⟨a,c⟩
 ·rw[hl,bn]
  by_cases e:k'=k
  ·rw[if_pos e]
  ·rw[if_neg e];exact h.on k' (by simpa[e]using h1) h2
 ·rw[hl,bn,if_neg]
  ·exact h.off k' fun h'=>hh ⟨List.mem_append_left _ h'.1,h'.2⟩
  ·rintro rfl;exact hh ⟨by simp,hk⟩
theorem FO (b:Bk)(s:dk)(F:Nat→Prop)(n:Nat)(now:Int)(H:af)(hs:SH H b s F)(hi:fW s)(hn:s.n≤8000000)(SP:65536≤n)(ht:bm now) :
  W env (.call 24 [.ptr b.s 0,.int .u64 n,.int .i64 now]) H (YV b s F n now H):=by
 obtain⟨im,pm,sa⟩:=hs
 have YW:¬(n<65536):=by omega
 obtain⟨t,yx⟩:∃t,iS (ah pm n) (.sl .nil []) false=t:=⟨_,rfl⟩
 have ax:=((sa.op n).mut).len
 rw[yx]at ax
 have hbp:=hi.bp n
 refine W.bS rfl rfl rfl ?_
 simp -implicitDefEqProofs only[EV,op,ef,cl,sq,reduceIte,j2,j3,j4,j5,j6,j7,j8,j9,y1,S1,YW]
 refine ae _ _ _ _ _ _ _ _ (qV now _) ?_
 rintro u H⟨hu,rfl⟩
 have FM:(decide (0≤now)&&decide (now≤1099511627776))=true:=by simp[ht.1,ht.2]
 rw[FM]at hu
 cases hu
 simp -implicitDefEqProofs only[op,ef,cl,sq,reduceIte,j2,j3,j4,j5,j6,j7,j8,j9,y1,S1,sa.hs,sa.hp,kO,yx]
 have hl:=fun Hx (h:pj eS 1 0 Hx t (s.dn n))=>h.len
 have hlH:∀Hx,jc Hx .sl t=some (s.dn n).length:=fun Hx=>by
  have:=(sa.op n).mut
  rw[yx]at this
  rcases this with⟨e,rfl⟩|⟨c,rfl,_,_⟩
  ·rw[e];rfl
  ·rfl
 simp -implicitDefEqProofs only[op,ef,cl,sq,reduceIte,j2,j3,j4,j5,j6,j7,j8,j9,y1,S1,hlH]
 refine W.cF (fun (i:Nat) R H'=>At H' (fun H'=>∃s',tH H' b im pm s' F∧s'.n=s.n∧s'.dn=s.dn∧s'.ids=s.ids∧sy s s' n now ((s.dn n).take i)∧bl F H H')∧R 0=.ptr b.s 0∧R 1=.int .u64 n∧R 2=.int .i64 now∧R 25=t∧R 26=.int .i64 (s.dn n).length∧R 27=.int .i64 i∧i≤(s.dn n).length) (fun i=>(s.dn n).length-i) 0 ?_ ?_
 ·refine⟨.i ⟨s,sa,rfl,rfl,rfl,⟨(VS.nil hi.nd).mono fun m _=>⟨fun h=>h.elim,fun h=>by simp at h⟩,by simp,fun _ _=>rfl,id⟩,bl.refl _ _⟩,?_,?_,?_,?_,?_,?_,Nat.zero_le _⟩
  all_goals (simp -implicitDefEqProofs only[op,ef,cl,sq,reduceIte,j2,j3,j4,j5,j6,j7,j8,j9,y1,S1];try rfl)
 rintro i R H2⟨⟨s',Hu,Ba,vR,JE,rZ,al⟩,h0,h1,h2,YX,Vj,Vk,kC⟩
 by_cases ax:i<(s.dn n).length
 ·obtain⟨k,hk⟩:=cB ax
  have ws:=aU (show i<9223372036854775807 by omega)
  have Ag:pj eS 1 0 H2 t (s.dn n):=by
   have:=(Hu.op n).mut
   rwa[yx,vR]at this
  obtain⟨c,g1,g2,g3⟩:=oM (enc:=eS) (fun _=>rfl) Ag hk
  have oO:k∉(s.dn n).take i:=fun hh=>by
   obtain⟨j,hj,e2⟩:=List.getElem_of_mem hh
   have JD:j<i∧j<(s.dn n).length:=by simp -implicitDefEqProofs only[List.length_take]at hj;omega
   have WB:(s.dn n)[j]?=some k:=by rw[←e2];simp[List.getElem?_eq_getElem JD.2]
   have:=(List.getElem?_inj JD.2 (hi.N8 n)).1 (WB.trans hk.symm)
   omega
  have lT:=nH s' k
  have Hr:bJ s' k=bJ s k:=by unfold bJ;rw[rZ.off k fun h=>oO h.1]
  rw[Hr]at lT
  by_cases dV:n≤bJ s k
  ·simp -implicitDefEqProofs only[op,ef,cl,sq,reduceIte,j2,j3,j4,j5,j6,j7,j8,j9,y1,S1,h0,h1,h2,YX,Vj,Vk,ax,aa,g1,g2,g3,eS,Hu.hs,Hu.hl,fp,lT,dV,ws]
   exact⟨i+1,by omega,.i ⟨s',Hu,Ba,vR,JE,by rw[cC hk];exact rZ.skip dV,al⟩,rfl,by omega⟩
  ·have YY:bJ s k<n:=by omega
   have YZ:∀Hx,wP (.sc .str) Hx b.l (some (.map (ba T.str (jW s'.ls)))) (.str k) (.int .u64 n)=some (bX,Hx.set b.l (.map (ba T.str (jW (cq s'.ls k n))))):=fun Hx=>by
    rw[mC];congr 4;exact congrArg (ba T.str) (nE (fun n:Nat=>T.int .u64 n) s'.ls k n)
   have Ai:=Hu.SO (cq s'.ls k n)
   obtain⟨t2,N9⟩:∃t2,iS (ah im k) (.sl .nil []) false=t2:=⟨_,rfl⟩
   have SQ:∀Hx,jc Hx .sl t2=some (s.ids k).length:=fun Hx=>by
    have:=(sa.oi k).mut
    rw[N9]at this
    rcases this with⟨e,rfl⟩|⟨c,rfl,_,_⟩
    ·rw[e];rfl
    ·rfl
   simp -implicitDefEqProofs only[op,ef,cl,sq,reduceIte,j2,j3,j4,j5,j6,j7,j8,j9,y1,S1,h0,h1,h2,YX,Vj,Vk,ax,aa,g1,g2,g3,eS,Hu.hs,Hu.hl,fp,lT,dV,YZ,Ai.hs,Ai.hi,N9,SQ]
   refine W.cM 2 (fun (j:Nat) R H'=>At H' (fun H'=>∃v',tH H' b im pm { s' with vs:=v',ls:=cq s'.ls k n } F∧VS s.vs v' now (fun m=>(m.1∈(s.dn n).take i∧bJ s m.1<n∧m.2<n)∨(m.1=k∧m.2∈(s.ids k).take j))∧bl F H H')∧R 0=.ptr b.s 0∧R 1=.int .u64 n∧R 2=.int .i64 now∧R 9=.str k∧R 25=t∧R 26=.int .i64 (s.dn n).length∧R 27=.int .i64 i∧R 50=t2∧R 51=.int .i64 (s.ids k).length∧R 52=.int .i64 j∧j≤(s.ids k).length∧∀p a,p<j→(s.ids k)[p]?=some a→a<n) (fun j=>(s.ids k).length-j) 0
    (fun R H'=>At H' (fun H'=>∃v',tH H' b im pm { s' with vs:=v',ls:=cq s'.ls k n } F∧VS s.vs v' now (fun m=>(m.1∈(s.dn n).take i∧bJ s m.1<n∧m.2<n)∨(m.1=k∧m.2<n))∧bl F H H')∧R 0=.ptr b.s 0∧R 1=.int .u64 n∧R 2=.int .i64 now∧R 25=t∧R 26=.int .i64 (s.dn n).length∧R 27=.int .i64 i) ?_ ?_ ?_
   ·refine⟨.i ⟨s'.vs,Ai,rZ.vs.mono fun m _=>⟨.inl,fun h=>h.elim id fun h=>by simp at h⟩,al.set (.inl sa.F0.2.2.2.2) _⟩,?_,?_,?_,?_,?_,?_,?_,?_,?_,?_,Nat.zero_le _,fun p a h=>by omega⟩
    all_goals (simp -implicitDefEqProofs only[op,ef,cl,sq,reduceIte,j2,j3,j4,j5,j6,j7,j8,j9,y1,S1,h0,h1,h2,YX,Vj,Vk,SQ];try rfl)
   ·rintro j R H3⟨⟨v',BX,hY,BZ⟩,q0,q1,q2,q9,PZ,P0,P1,Vl,Vm,Vn,PD,cn⟩
    by_cases hj:j<(s.ids k).length
    ·obtain⟨o,ho⟩:=cB hj
     have wj:=aU (show j<9223372036854775807 by have:=hi.bi k;omega)
     have JC:pj eU 1 0 H3 t2 (s.ids k):=by
      have:=(BX.oi k).mut
      simp -implicitDefEqProofs only[JE]at this
      rwa[N9]at this
     obtain⟨c2,e1,e2,e3⟩:=oM (enc:=eU) (fun _=>rfl) JC ho
     by_cases PE:n≤o
     ·simp -implicitDefEqProofs only[op,ef,cl,sq,reduceIte,j2,j3,j4,j5,j6,j7,j8,j9,y1,S1,q0,q1,q2,q9,PZ,P0,P1,Vl,Vm,Vn,hj,aa,e1,e2,e3,eU,PE]
      refine⟨v',BX,hY.mono fun m hm=>?_,BZ⟩
      refine or_congr Iff.rfl ⟨fun ⟨a1,a2⟩=>⟨a1,?_⟩,fun ⟨a1,a2⟩=>⟨a1,?_⟩⟩
      ·obtain⟨p,hp,e⟩:=List.getElem_of_mem a2
       have vq:p<j∧p<(s.ids k).length:=by simp -implicitDefEqProofs only[List.length_take]at hp;omega
       exact cn p m.2 vq.1 (by rw[←e];simp[List.getElem?_eq_getElem vq.2])
      ·have iB:=(hi.Hp k m.2).2 (by rw[←a1];exact hm)
       obtain⟨p,hp,e⟩:=List.getElem_of_mem iB
       have P2:(s.ids k)[p]?=some m.2:=by rw[List.getElem?_eq_getElem hp,e]
       rcases Nat.lt_trichotomy p j with h|h|h
       ·exact List.mem_of_getElem? (i:=p) (by rw[List.getElem?_take,if_pos h];exact P2)
       ·subst h;rw[ho]at P2;cases P2;omega
       ·have:=hi.xd k j p o m.2 h ho P2;omega
     ·have yg:=(hi.Hp k o).1 (List.mem_of_getElem? ho)
      rw[←hY.some]at yg
      obtain⟨x,hx⟩:=Option.isSome_iff_exists.1 yg
      have oN:=yv v' (k,o)
      rw[hx]at oN
      have Oa:=fun Hx z ok=>kM uK z ok Hx (dM v') (k,o)
      simp -implicitDefEqProofs only[kN,eN]at Oa
      have hnS:¬(((k,o):Nm).1∈(s.dn n).take i∧bJ s ((k,o):Nm).1<n∧((k,o):Nm).2<n∨((k,o):Nm).1=k∧((k,o):Nm).2∈(s.ids k).take j):=by
       rintro (hh|⟨_,hh⟩)
       ·exact oO hh.1
       ·obtain⟨p,hp,e⟩:=List.getElem_of_mem hh
        have vq:p<j∧p<(s.ids k).length:=by simp -implicitDefEqProofs only[List.length_take]at hp;omega
        have e:((s.ids k).take j)[p]=o:=e
        have P2:(s.ids k)[p]?=some o:=by rw[←e];simp[List.getElem?_eq_getElem vq.2]
        have:=hi.xd k p j o o vq.1 P2 ho;omega
      have hSS:∀m:Nm,(((m.1∈(s.dn n).take i∧bJ s m.1<n∧m.2<n)∨(m.1=k∧m.2∈(s.ids k).take j))∨m=(k,o))↔((m.1∈(s.dn n).take i∧bJ s m.1<n∧m.2<n)∨(m.1=k∧m.2∈(s.ids k).take (j+1))):=fun m=>by
       rw[cC ho,List.mem_append,List.mem_singleton,or_assoc]
       refine or_congr Iff.rfl ?_
       constructor
       ·rintro (⟨a1,a2⟩|rfl)
        ·exact⟨a1,.inl a2⟩
        ·exact⟨rfl,.inr rfl⟩
       ·rintro⟨a1,a2|a2⟩
        ·exact .inl ⟨a1,a2⟩
        ·exact .inr (Prod.ext a1 a2)
      have lX:∀p a,p<j+1→(s.ids k)[p]?=some a→a<n:=fun p a hp ha=>by
       by_cases e:p=j
       ·subst e;rw[ho]at ha;cases ha;omega
       ·exact cn p a (by omega) ha
      have l0:=aW BX.hs
      have lv:=aW BX.hv
      have Ah:=fun Hx v=>uC uK Hx b.v (dM v') (k,o) v
      simp -implicitDefEqProofs only[kN,eN]at Ah
      by_cases dF:x.bf=-1
      ·simp -implicitDefEqProofs only[op,ef,cl,sq,reduceIte,j2,j3,j4,j5,j6,j7,j8,j9,y1,S1,S2,S3,List.length_set,q0,q1,q2,q9,PZ,P0,P1,Vl,Vm,Vn,hj,aa,e1,e2,e3,eU,PE,BX.hs,BX.hv,Oa,oN,pA,Option.getD_some,eY,dF,l0,lv,Ah,wj]
       have e:cq (dM v') (k,o) (T.agg [T.str x.value,T.sl x.kk (x.keys.map eS),T.int IntKind.i64 now])=dM (cq v' (k,o) (stamped x now)):=nE eY v' (k,o) (stamped x now)
       rw[e]
       exact⟨j+1,by omega,.i ⟨_,(BX.YU (cq v' (k,o) (stamped x now))).ma (aA (F:=fun _=>False) (Ext.rfl'.app _)) (fun _ _ _ h=>h),(hY.add hx dF hnS).mono fun m _=>hSS m,(BZ.set (.inl sa.F0.2.1) _).app _⟩,rfl,by omega,lX⟩
      ·have Ob:(x.bf==-1)=false:=by simpa using dF
       simp -implicitDefEqProofs only[op,ef,cl,sq,reduceIte,j2,j3,j4,j5,j6,j7,j8,j9,y1,S1,S2,S3,List.length_set,q0,q1,q2,q9,PZ,P0,P1,Vl,Vm,Vn,hj,aa,e1,e2,e3,eU,PE,BX.hs,BX.hv,Oa,oN,pA,Option.getD_some,eY,Ob,l0,lv,wj]
       exact⟨j+1,by omega,.i ⟨v',BX.ma (aA (F:=fun _=>False) (Ext.rfl'.app _)) (fun _ _ _ h=>h),(hY.skip hx dF hnS).mono fun m _=>hSS m,BZ.app _⟩,rfl,by omega,lX⟩
    ·have Y0:j=(s.ids k).length:=by omega
     subst Y0
     simp -implicitDefEqProofs only[op,ef,cl,sq,reduceIte,j2,j3,j4,j5,j6,j7,j8,j9,y1,S1,q0,q1,q2,q9,PZ,P0,P1,Vl,Vm,Vn,hj]
     refine⟨v',BX,hY.mono fun m hm=>?_,BZ⟩
     rw[List.take_length]
     refine or_congr Iff.rfl ⟨fun ⟨a1,a2⟩=>⟨a1,?_⟩,fun ⟨a1,a2⟩=>⟨a1,(hi.Hp k m.2).2 (by rw[←a1];exact hm)⟩⟩
     obtain⟨p,hp,e⟩:=List.getElem_of_mem a2
     exact cn p m.2 hp (by rw[List.getElem?_eq_getElem hp,e])
   ·rintro R H3⟨⟨v',BX,hY,BZ⟩,q0,q1,q2,PZ,P0,P1⟩
    simp -implicitDefEqProofs only[op,ef,cl,sq,reduceIte,j2,j3,j4,j5,j6,j7,j8,j9,y1,S1,q0,q1,q2,PZ,P0,P1,ws]
    exact⟨i+1,by omega,.i ⟨_,BX,Ba,vR,JE,by rw[cC hk];exact rZ.add YY rfl hY,BZ⟩,rfl,by omega⟩
 ·have mE:i=(s.dn n).length:=by omega
  subst mE
  rw[List.take_length]at rZ
  simp -implicitDefEqProofs only[op,ef,cl,sq,reduceIte,j2,j3,j4,j5,j6,j7,j8,j9,y1,S1,h0,h1,Vj,Vk,ax,Hu.hs,Hu.hp,kO,yx,hlH]
  exact⟨s',rfl,⟨im,pm,Hu⟩,(rZ.vs.inv hi s'.ls (rZ.yu hi.yu)) |> fun h=>(by have e:s'={ s with vs:=s'.vs,ls:=s'.ls }:=(by cases s';cases s;simp_all);rw[e];exact h),rZ,Ba,vR,JE,al⟩
section
variable {α β γ:Type} [DecidableEq α]
theorem oP (e:α×β)(es:List (α×β))(k:α):lR (e :: es) k=if k=e.1 then es else e :: lR es k:=by
 unfold lR
 rw[List.findIdx?_cons]
 by_cases hk:k=e.1
 ·simp[hk]
 ·simp -implicitDefEqProofs only[hk,decide_false,if_false,Bool.false_eq_true]
  cases List.findIdx? (fun e=>decide (k=e.1)) es<;>simp
theorem FP (f:β→γ)(es:List (α×β))(k:α):lR (es.map fun e=>(e.1,f e.2)) k=(lR es k).map fun e=>(e.1,f e.2):=by
 induction es with
 | nil=>rfl
 | cons e es ih=>simp -implicitDefEqProofs only[List.map_cons,oP,ih];split<;>simp
theorem jm {es:List (α×β)}(h:(es.map (·.1)).Nodup)(k k':α):ah (lR es k) k'=if k'=k then none else ah es k':=by
 induction es with
 | nil=>simp[lR,dC]
 | cons e es ih =>
  rw[List.map_cons,List.nodup_cons]at h
  rw[oP]
  by_cases hk:k=e.1
  ·subst hk
   by_cases kg:k'=e.1
   ·subst kg;simp -implicitDefEqProofs only[if_true];exact cw.2 h.1
   ·simp[bG,kg]
  ·simp -implicitDefEqProofs only[hk,if_false,bG,ih h.2]
   by_cases kg:k'=e.1
   ·subst kg;simp[Ne.symm hk]
   ·simp[kg]
theorem yz {es:List (α×β)}(h:(es.map (·.1)).Nodup)(k:α):((lR es k).map (·.1)).Nodup:=by
 induction es with
 | nil=>simp[lR]
 | cons e es ih =>
  rw[List.map_cons,List.nodup_cons]at h
  rw[oP];split
  ·exact h.2
  ·rw[List.map_cons,List.nodup_cons]
   refine⟨fun hm=>h.1 ?_,ih h.2⟩
   have:ah (lR es k) e.1≠none:=fun hn=>cw.1 hn hm
   rw[jm h.2]at this
   split at this
   ·exact absurd rfl this
   ·exact Classical.byContradiction fun hh=>this (cw.2 hh)
end
theorem xe {α:Type}[DecidableEq α]{l:List α}{x a:α}:a∈dZ l x↔a∈l∧a≠x:=by simp[dZ]
theorem xf {α:Type}[DecidableEq α](l:List α)(x:α):(dZ l x).length≤l.length:=List.length_filter_le ..
def dk.drop (s:dk)(k:ByteArray)(n:Nat):dk:=⟨lR s.vs (k,n),s.ls,fun k'=>if k'=k then dZ (s.ids k) n else s.ids k',fun n'=>if n'=n then dZ (s.dn n) k else s.dn n',s.n⟩
theorem fW.drop {s:dk}(hi:fW s)(k:ByteArray)(n:Nat):fW (s.drop k n):=by
 refine⟨fun k'=>?_,fun k' n'=>?_,fun n'=>?_,fun n' k'=>?_,yz hi.nd _,fun m h hm=>?_,fun k'=>?_,fun n'=>?_,hi.yu⟩
 ·simp -implicitDefEqProofs only[dk.drop];split
  ·exact uL.2 ((uL.1 (hi.xd k)).sublist List.filter_sublist)
  ·exact hi.xd k'
 ·simp -implicitDefEqProofs only[dk.drop,jm hi.nd]
  by_cases e:k'=k
  ·subst e
   simp -implicitDefEqProofs only[if_true,xe,hi.Hp,Prod.mk.injEq,true_and]
   by_cases e2:n'=n<;>simp[e2]
  ·simp[e,hi.Hp]
 ·simp -implicitDefEqProofs only[dk.drop];split
  ·exact(hi.N8 n).sublist List.filter_sublist
  ·exact hi.N8 n'
 ·simp -implicitDefEqProofs only[dk.drop,jm hi.nd]
  by_cases e:n'=n
  ·subst e
   simp -implicitDefEqProofs only[if_true,xe,hi.JA,Prod.mk.injEq,and_true]
   by_cases e2:k'=k<;>simp[e2]
  ·simp[e,hi.JA]
 ·simp -implicitDefEqProofs only[dk.drop,jm hi.nd]at hm
  split at hm
  ·cases hm
  ·exact hi.SG m h hm
 ·have:=hi.bi k'
  simp -implicitDefEqProofs only[dk.drop];split
  ·rename_i e;subst e;exact Nat.le_trans (xf _ _) this
  ·exact this
 ·have:=hi.bp n'
  simp -implicitDefEqProofs only[dk.drop];split
  ·rename_i e;subst e;exact Nat.le_trans (xf _ _) this
  ·exact this
def SS (b:Bk)(s:dk)(F:Nat→Prop)(k:ByteArray)(n:Nat)(H:af):Out→af→Prop:=fun o H' =>
 (ah s.vs (k,n)=none∧o=.val (.int .i64 110)∧Ext H H')∨(∃h,ah s.vs (k,n)=some h∧h.bf=-1∧o=.val (.int .i64 1)∧Ext H H') ∨
 ∃h,ah s.vs (k,n)=some h∧h.bf≠-1∧o=.val (.int .i64 0)∧SH H' b (s.drop k n) F∧bl F H H'
theorem Oc (b:Bk)(s:dk)(F:Nat→Prop)(k:ByteArray)(n:Nat)(H:af)(hs:SH H b s F)(hi:fW s)(hn:s.n≤8000000) :
  W env (.call 25 [.ptr b.s 0,.str k,.int .u64 n]) H (SS b s F k n H):=by
 obtain⟨im,pm,sa⟩:=hs
 have l0:=aW sa.hs
 have lv:=aW sa.hv
 have LC:b.s<H.length+1:=by omega
 have lT:=fun Hx z ok=>kM uK z ok Hx (dM s.vs) (k,n)
 simp -implicitDefEqProofs only[kN,eN]at lT
 have oN:iS (ah (dM s.vs) (k,n)) (.agg [.str ⟨#[]⟩,.sl .nil [],.int .i64 0]) true=.bN [eY (pA (ah s.vs (k,n))),.bool (ah s.vs (k,n)).isSome]:=by
  unfold dM;rw[fI]
  cases ah s.vs (k,n)<;>rfl
 refine W.bS rfl rfl rfl ?_
 cases e:ah s.vs (k,n)with
 | none =>
  rw[e]at oN
  simp -implicitDefEqProofs only[Option.isSome_none]at oN
  simp -implicitDefEqProofs only[EW,op,ef,cl,sq,reduceIte,j2,j3,j4,j5,j6,j7,j8,j9,y1,S1,S2,S3,List.length_set,sa.hs,sa.hv,l0,LC,lv,lT,oN,eY]
  exact .inl ⟨e,rfl,((Ext.rfl'.app _).app _)⟩
 | some h =>
  rw[e]at oN
  simp -implicitDefEqProofs only[Option.isSome_some,pA,Option.getD_some]at oN
  by_cases dF:h.bf=-1
  ·simp -implicitDefEqProofs only[EW,op,ef,cl,sq,reduceIte,j2,j3,j4,j5,j6,j7,j8,j9,y1,S1,S2,S3,List.length_set,sa.hs,sa.hv,l0,LC,lv,lT,oN,eY,dF]
   exact .inr (.inl ⟨h,e,dF,rfl,((Ext.rfl'.app _).app _)⟩)
  ·have Ob:(h.bf==-1)=false:=by simpa using dF
   have MR:=fun Hx=>D9 uK Hx b.v (dM s.vs) (k,n) (v:=eY h) (by unfold dM;rw[fI,e];rfl)
   simp -implicitDefEqProofs only[kN,eN]at MR
   have Ml:pz (dM s.vs) (k,n)=dM (lR s.vs (k,n)):=FP eY s.vs (k,n)
   rw[Ml]at MR
   obtain⟨c,js,pw,hcF⟩:∃c,ah im k=some (.ay c 0 (s.ids k).length 1)∧H[c]?=some (.cells (aJ eU (s.ids k)))∧F c:=by
    have:=sa.oi k
    cases em:ah im k with
    | none =>
     rw[em]at this
     have h0:s.ids k=[]:=this
     have:=(hi.Hp k n).2 (by rw[e];rfl)
     rw[h0]at this;cases this
    | some t=>rw[em]at this;obtain⟨c,rfl,h1,h2⟩:=this;exact⟨c,rfl,h1,h2⟩
   obtain⟨d,pf,cr,hdF⟩:∃d,ah pm n=some (.ay d 0 (s.dn n).length 1)∧H[d]?=some (.cells (aJ eS (s.dn n)))∧F d:=by
    have:=sa.op n
    cases em:ah pm n with
    | none =>
     rw[em]at this
     have h0:s.dn n=[]:=this
     have:=(hi.JA n k).2 (by rw[e];rfl)
     rw[h0]at this;cases this
    | some t=>rw[em]at this;obtain⟨c,rfl,h1,h2⟩:=this;exact⟨c,rfl,h1,h2⟩
   have bc:=sa.iU (k:=k) (c:=c) (by rw[js];rfl)
   have bd:=sa.jX (n:=n) (c:=d) (by rw[pf];rfl)
   have hcd:c≠d:=fun h=>sa.sx k n c (by rw[js];rfl) (by rw[pf,h];rfl)
   obtain⟨n1,n2,n3,n4⟩:=sa.ne
   have li:=aW sa.hi
   simp -implicitDefEqProofs only[EW,op,ef,cl,sq,reduceIte,j2,j3,j4,j5,j6,j7,j8,j9,y1,S1,S2,S3,List.length_set,sa.hs,sa.hv,l0,LC,lv,lT,oN,eY,Ob,MR,n1,sa.hi,li,sa.vi,fp,js]
   generalize vB:H.set b.v (B.map (ba kN (dM (lR s.vs (k,n)))))++[B.cells [T.str k,T.int IntKind.u64 n]]++[B.cells [T.str h.value,T.sl h.kk (h.keys.map eS),T.int IntKind.i64 h.bf]]=H1
   have YK:H1.length=H.length+2:=by rw[←vB];simp
   have gv:∀{c x},c≠b.v→H[c]?=some x→H1[c]?=some x:=fun hc hx=>by
    have:=aW hx
    rw[←vB,aV (by simp;omega),aV (by simpa using this),bh (Ne.symm hc)];exact hx
   have v1:H1[b.v]?=some (.map (ba kN (dM (lR s.vs (k,n))))):=by rw[←vB,aV (by simp;omega),aV (by simpa using lv),bT lv]
   have s1:=gv (Ne.symm n1) sa.hs
   have i1:=gv (Ne.symm sa.vi) sa.hi
   have p1:=gv (Ne.symm sa.vp) sa.hp
   have w1:=gv (Ne.symm sa.vl) sa.hl
   refine ae _ _ _ _ _ _ _ _ (YH c (s.ids k) n H1 (gv bc.2.1 pw) (by have:=hi.bi k;omega)) ?_
   rintro u H2⟨hu,c2,zE⟩
   cases hu
   have qZ:∀{a x},a≠c→H1[a]?=some x→H2[a]?=some x:=fun ha hx=>zE.get hx ha
   have s2:=qZ (Ne.symm bc.1) s1
   have v2:=qZ (Ne.symm bc.2.1) v1
   have i2:=qZ (Ne.symm bc.2.2.1) i1
   have p2:=qZ (Ne.symm bc.2.2.2.1) p1
   have w2:=qZ (Ne.symm bc.2.2.2.2.1) w1
   have d2:=qZ (Ne.symm hcd) (gv bd.2.1 cr)
   obtain⟨H3,B0⟩:∃H3,H3=H2.set b.i (.map (ba T.str (cq im k (.ay c 0 (dZ (s.ids k) n).length 1)))):=⟨_,rfl⟩
   have fX:∀{a x},a≠b.i→H2[a]?=some x→H3[a]?=some x:=fun ha hx=>by rw[B0,bh (Ne.symm ha)];exact hx
   have s3:=fX (Ne.symm n2) s2
   have v3:=fX sa.vi v2
   have i3:H3[b.i]?=some (.map (ba T.str (cq im k (.ay c 0 (dZ (s.ids k) n).length 1)))):=by rw[B0,bT (aW i2)]
   have p3:=fX (Ne.symm sa.ip) p2
   have w3:=fX (Ne.symm sa.il) w2
   have c3:=fX bc.2.2.1 c2
   have d3:=fX bd.2.2.1 d2
   simp -implicitDefEqProofs only[op,ef,cl,sq,reduceIte,j2,j3,j4,j5,j6,j7,j8,j9,y1,S1,s2,i2,mC,←B0,s3,p3,kO,pf]
   refine ae _ _ _ _ _ _ _ _ (YJ d (s.dn n) k H3 d3 (by have:=hi.bp n;omega)) ?_
   rintro u H4⟨hu,d4,Cw⟩
   cases hu
   have fY:∀{a x},a≠d→H3[a]?=some x→H4[a]?=some x:=fun ha hx=>Cw.get hx ha
   have s4:=fY (Ne.symm bd.1) s3
   have v4:=fY (Ne.symm bd.2.1) v3
   have i4:=fY (Ne.symm bd.2.2.1) i3
   have p4:=fY (Ne.symm bd.2.2.2.1) p3
   have w4:=fY (Ne.symm bd.2.2.2.2.1) w3
   have c4:=fY hcd c3
   obtain⟨H5,SU⟩:∃H5,H5=H4.set b.p (.map (ba kU (cq pm n (.ay d 0 (dZ (s.dn n) k).length 1)))):=⟨_,rfl⟩
   have fz:∀{a x},a≠b.p→H4[a]?=some x→H5[a]?=some x:=fun ha hx=>by rw[SU,bh (Ne.symm ha)];exact hx
   have s5:=fz (Ne.symm n3) s4
   have p5:H5[b.p]?=some (.map (ba kU (cq pm n (.ay d 0 (dZ (s.dn n) k).length 1)))):=by rw[SU,bT (aW p4)]
   have l2:ah (cq pm n (.ay d 0 (dZ (s.dn n) k).length 1)) n=some (.ay d 0 (dZ (s.dn n) k).length 1):=by rw[bn,if_pos rfl]
   have adB:H5.length=H4.length:=by rw[SU];simp
   have YL:H3.length=H2.length:=by rw[B0];simp
   have FQ:∀{a x},a≠b.v→a≠c→a≠b.i→a≠d→a≠b.p→H[a]?=some x→H5[a]?=some x:=fun e1 e2 e3 e4 e5 hx=>fz e5 (fY e4 (fX e3 (qZ e2 (gv e1 hx))))
   have frF:bl F H H5:=⟨by have:=zE.1;have:=Cw.1;omega,fun a ha hF=>by
    obtain⟨x,hx⟩:=cB ha
    have ne:∀{c'},F c'→a≠c':=fun h e=>hF (e▸h)
    rw[hx]
    exact FQ (ne sa.F0.2.1) (ne hcF) (ne sa.F0.2.2.1) (ne hdF) (ne sa.F0.2.2.2.1) hx⟩
   have PS:=fun Hx=>D9 Nb Hx b.p (cq pm n (.ay d 0 (dZ (s.dn n) k).length 1)) n l2
   simp -implicitDefEqProofs only[kU]at PS
   have fin:∀(JF:List (Nat×T)) (H6:af),(∀n',ah JF n'=if n'=n then ah JF n else ah pm n')→Hq eS F H5 (ah JF n) (dZ (s.dn n) k)→(∀a,dP (ah JF n)=some a→a=d)→(JF.map (·.1)).Nodup→H6[b.p]?=some (.map (ba kU JF))→(∀{a x},a≠b.p→H5[a]?=some x→H6[a]?=some x)→tH H6 b (cq im k (.ay c 0 (dZ (s.ids k) n).length 1)) JF (s.drop k n) F:=by
    intro JF H6 hl ho hb fv hp hk
    have kI:∀{k' a x},k'≠k→dP (ah im k')=some a→H[a]?=some x→H6[a]?=some x:=fun {k' a x} bO ha hx=>by
     obtain⟨e1,e2,e3,e4,e5,_,e6⟩:=sa.iU ha
     exact hk e4 (FQ e2 (fun e=>bO (sa.si k' k c (e▸ha) (by rw[js];rfl))) e3 (fun e=>sa.sx k' n d (e▸ha) (by rw[pf];rfl)) e4 hx)
    have kP:∀{n' a x},n'≠n→dP (ah pm n')=some a→H[a]?=some x→H6[a]?=some x:=fun {n' a x} bO ha hx=>by
     obtain⟨e1,e2,e3,e4,e5,_,e6⟩:=sa.jX ha
     exact hk e4 (FQ e2 (fun e=>sa.sx k n' c (by rw[js];rfl) (e▸ha)) e3 (fun e=>bO (sa.sp n' n d (e▸ha) (by rw[pf];rfl))) e4 hx)
    have bI:∀k' a,dP (ah (cq im k (.ay c 0 (dZ (s.ids k) n).length 1)) k')=some a→dP (ah im k')=some a:=fun k' a ha=>by
     rw[bn]at ha
     split at ha
     ·rename_i e;subst e;rw[js];exact ha
     ·exact ha
    have bP:∀n' a,dP (ah JF n')=some a→dP (ah pm n')=some a:=fun n' a ha=>by
     rw[hl]at ha
     split at ha
     ·rename_i e;subst e;rw[pf,hb a ha];rfl
     ·exact ha
    refine⟨hk (Ne.symm n3) s5,hk sa.vp (fz sa.vp v4),hk sa.ip (fz sa.ip i4),hp,hk (Ne.symm sa.pl) (fz (Ne.symm sa.pl) w4),sa.vi,sa.vp,sa.vl,sa.ip,sa.il,sa.pl,sa.F0,fun k'=>?_,fun n'=>?_,fun k1 k2 a h1 h2=>sa.si k1 k2 a (bI _ _ h1) (bI _ _ h2),fun k1 k2 a h1 h2=>sa.sp k1 k2 a (bP _ _ h1) (bP _ _ h2),fun k1 k2 a h1 h2=>sa.sx k1 k2 a (bI _ _ h1) (bP _ _ h2),fv⟩
    ·simp -implicitDefEqProofs only[dk.drop,bn]
     by_cases e:k'=k
     ·simp -implicitDefEqProofs only[e,if_true]
      exact⟨c,rfl,hk bc.2.2.2.1 (fz bc.2.2.2.1 c4),hcF⟩
     ·simp -implicitDefEqProofs only[e,if_false]
      exact(sa.oi k').dE (fun a x ha hx=>kI e ha hx) fun _ _ h=>h
    ·rw[hl]
     simp -implicitDefEqProofs only[dk.drop]
     by_cases e:n'=n
     ·simp -implicitDefEqProofs only[e,if_true]
      refine ho.dE (fun a x ha hx=>hk ?_ hx) fun _ _ h=>h
      rw[hb a ha];exact bd.2.2.2.1
     ·simp -implicitDefEqProofs only[e,if_false]
      exact(sa.op n').dE (fun a x ha hx=>kP e ha hx) fun _ _ h=>h
   by_cases hz:(dZ (s.dn n) k).length=0
   ·have pQ:((dZ (s.dn n) k).length=0)=True:=eq_true hz
    simp -implicitDefEqProofs only[op,ef,cl,sq,reduceIte,j2,j3,j4,j5,j6,j7,j8,j9,y1,S1,s4,p4,qR,←SU,s5,p5,kO,l2,pQ,PS]
    refine .inr (.inr ⟨h,e,dF,rfl,⟨_,_,fin (pz (cq pm n (.ay d 0 (dZ (s.dn n) k).length 1)) n) _ (fun n'=>?_) ?_ (fun a ha=>?_) (yr (cV sa.np _ _) _) (bT (aW p5)) (fun ha hx=>by rw[bh (Ne.symm ha)];exact hx)⟩,frF.set (.inl sa.F0.2.2.2.1) _⟩)
    ·simp -implicitDefEqProofs only[lF (cV sa.np _ _),bn];split<;>simp
    ·rw[lF (cV sa.np _ _),if_pos rfl];exact List.eq_nil_of_length_eq_zero hz
    ·rw[lF (cV sa.np _ _),if_pos rfl]at ha;cases ha
   ·simp -implicitDefEqProofs only[op,ef,cl,sq,reduceIte,j2,j3,j4,j5,j6,j7,j8,j9,y1,S1,s4,p4,qR,←SU,s5,p5,kO,l2,hz]
    refine .inr (.inr ⟨h,e,dF,rfl,⟨_,_,fin _ H5 (fun n'=>?_) ?_ (fun a ha=>?_) (cV sa.np _ _) p5 (fun _ h=>h)⟩,frF⟩)
    ·simp -implicitDefEqProofs only[bn];split<;>simp
    ·rw[l2];exact⟨d,rfl,fz bd.2.2.2.1 d4,hdF⟩
    ·rw[l2]at ha;cases ha;rfl
abbrev tJ (n:Nat)(R0:ar)(ps:List Nat)(bZ body:C):B:=.loop .ready Option.none n R0 ps bZ body
abbrev LD (n:Nat)(R0:ar)(ps:List Nat)(bZ body:C):B:=.loop .busy Option.none n R0 ps bZ body
theorem mG {H H':af}(h:∀(c:Nat) x,H[c]?=some x→H'[c]?=some x):Ext H H':=by
 have hl:H.length≤H'.length:=by
  rcases Nat.eq_zero_or_pos H.length with h0|h0
  ·omega
  ·obtain⟨x,hx⟩:=cB (l:=H) (i:=H.length-1) (by omega)
   have:=aW (h _ x hx)
   omega
 refine⟨H'.drop H.length,List.ext_getElem? fun i=>?_⟩
 by_cases hi:i<H.length
 ·obtain⟨x,hx⟩:=cB hi
  rw[List.getElem?_append_left hi,hx,h i x hx]
 ·rw[List.getElem?_append_right (by omega),List.getElem?_drop]
  congr 1;omega
structure RI {α β:Type}(es:List (α×β))(ix:List Nat)(b0:List α):Prop where
 len:ix.length+b0.length=es.length
 lt:∀i∈ix,i<es.length
 Y1:ix.Nodup
 FR:b0.Nodup
 mem:∀k,k∈b0↔∃i v,es[i]?=some (k,v)∧i∉ix
theorem RI.start {α β:Type}(es:List (α×β)):RI es (List.range es.length) []:=⟨by simp,fun i h=>List.mem_range.1 h,List.nodup_range,by simp,fun k=>by
 simp -implicitDefEqProofs only[List.not_mem_nil,false_iff,not_exists,not_and]
 intro i v h hn
 exact hn (List.mem_range.2 (List.getElem?_eq_some_iff.1 h).1)⟩
theorem RI.step {α β:Type}{es:List (α×β)}(hn:(es.map (·.1)).Nodup){ix:List Nat}{b0:List α}(h:RI es ix b0){i:Nat}{k:α}{v:β}(hi:i∈ix)(he:es[i]?=some (k,v)):RI es (ix.erase i) (b0++[k]):=by
 have inj:∀j w,es[j]?=some (k,w)→j=i:=fun j w hj=>by
  have h1:(es.map (·.1))[j]?=some k:=by rw[List.getElem?_map,hj];rfl
  have h2:(es.map (·.1))[i]?=some k:=by rw[List.getElem?_map,he];rfl
  exact(List.getElem?_inj (List.getElem?_eq_some_iff.1 h1).1 hn).1 (h1.trans h2.symm)
 have hk:k∉b0:=fun hk=>by
  obtain⟨j,w,hj,hn⟩:=(h.mem k).1 hk
  exact hn (inj j w hj▸hi)
 refine⟨?_,fun j hj=>h.lt j (List.mem_of_mem_erase hj),h.Y1.erase _,?_,fun k'=>?_⟩
 ·have:=h.len
  have:=List.length_pos_of_mem hi
  rw[List.length_erase_of_mem hi,List.length_append,List.length_singleton];omega
 ·rw[List.nodup_append];exact⟨h.FR,by simp,fun a ha c hc=>by simp at hc;subst hc;rintro rfl;exact hk ha⟩
 ·rw[List.mem_append,List.mem_singleton,h.mem]
  constructor
  ·rintro (⟨j,w,hj,Y2⟩|rfl)
   ·exact⟨j,w,hj,fun hm=>Y2 (List.mem_of_mem_erase hm)⟩
   ·exact⟨i,v,he,fun hm=>(h.Y1.mem_erase_iff.1 hm).1 rfl⟩
  ·rintro⟨j,w,hj,Y2⟩
   by_cases e:j=i
   ·subst e;rw[he]at hj;cases hj;exact .inr rfl
   ·exact .inl ⟨j,w,hj,fun hm=>Y2 (h.Y1.mem_erase_iff.2 ⟨e,hm⟩)⟩
theorem RI.BQ {α β:Type}{es:List (α×β)}{b0:List α}(h:RI es [] b0)(k:α):k∈b0↔k∈es.map (·.1):=by
 rw[h.mem]
 constructor
 ·rintro⟨i,v,he,_⟩;exact List.mem_map.2 ⟨_,List.mem_of_getElem? he,rfl⟩
 ·intro hk
  obtain⟨e,he,rfl⟩:=List.mem_map.1 hk
  obtain⟨i,hi,e2⟩:=List.getElem_of_mem he
  exact⟨i,e.2,by rw[List.getElem?_eq_getElem hi,e2],by simp⟩
theorem Od {n:Nat}{R0:ar}{ps:List Nat}{bZ body:C}(es:List (Nm×T))(c b mb:Nat)(H:af)(I:List Nm→af→Prop)(Y3:ps.length=1)(fv:(es.map (·.1)).Nodup)(h0:I [] H)(hb:H[b]?=some (tJ n R0 ps bZ body))(hc:H[c]?=some (.cells [.map mb]))(hm:H[mb]?=some (.map (ba kN es)))
  (ky:∀b0 H' y,I b0 H'→I b0 (H'.set mb y)) (qM:∀b0 H' (l:af),I b0 H'→I b0 (H'++l))
  (bR:∀b0 v H',b0.length<es.length→I b0 H'→H'[b]?=some (tJ n R0 ps bZ body)→H.length<H'.length→eD env bZ (iq R0 ps [(kN v)]) H' (fun o H1=>∃R1,o=.ex .normal R1∧H1[b]?=some (tJ n R0 ps bZ body) ∧
   eD env body R1 (H1.set b (LD n R0 ps bZ body)) (fun o H2=>∃R2,o=.ex .normal R2∧H2[b]?=some (LD n R0 ps bZ body)∧I (b0++[v]) (H2.set b (tJ n R0 ps bZ body))∧∀a y,H'[a]?=some y→a=mb∨a=H.length→H2[a]?=some y))) :
  W env (.call 94 [.mO b,.ptr c 0]) H (fun _ H'=>∃b0,I b0 H'∧RI es [] b0∧H'[b]?=some (tJ n R0 ps bZ body)∧H'[mb]?=some (.map (ba kN es))):=by
 have lm:=aW hm
 have lb:=aW hb
 have Hv:b≠mb:=by rintro rfl;rw[hm]at hb;cases hb
 have Dd:(ba kN es).length=es.length:=by simp[ba]
 refine W.bS rfl rfl rfl ?_
 simp -implicitDefEqProofs only[NZ,op,ef,cl,sq,reduceIte,j2,j3,j4,j5,j6,j7,j8,j9,y1,S1,hc,hm]
 refine W.cF (fun (b0:List Nm) R H'=>At H' (fun H'=>∃ix cur,I b0 H'∧RI es ix b0∧H'[b]?=some (tJ n R0 ps bZ body)∧H'[mb]?=some (.cP (ba kN es) ix H.length cur)∧H'[H.length]?=some (.ua mb))∧R 0=.mO b∧R 5=.ptr H.length 0) (fun b0=>es.length-b0.length) [] ?_ ?_
 ·refine⟨.i ⟨List.range (ba kN es).length,none,qM _ _ _ (ky _ _ _ h0),by rw[Dd];exact RI.start es,?_,?_,?_⟩,rfl,rfl⟩
  ·rw[aV (by simpa using lb),bh (Ne.symm Hv)];exact hb
  ·rw[aV (by simpa using lm),bT lm]
  ·rw[aX (by simp)]
 rintro b0 R H1⟨⟨ix,cur,hI,lG,kb,JG,BR⟩,r0,r5⟩
 have lb1:=aW kb
 have SV:=aW JG
 have Y4:=aW BR
 have Y5:b≠H.length:=by rintro rfl;rw[BR]at kb;cases kb
 have Cq:mb≠H.length:=by omega
 simp -implicitDefEqProofs only[op,ef,cl,sq,reduceIte,j2,j3,j4,j5,j6,j7,j8,j9,y1,S1,r5]
 refine yn _ _ _ _ _ _ _ r5 JG ?_
 rintro t H2 (⟨rfl,rfl,rfl⟩|⟨i,e,hi,he,rfl,rfl⟩)
 ·simp -implicitDefEqProofs only[op,ef,cl,sq,reduceIte,j2,j3,j4,j5,j6,j7,j8,j9,y1,S1]
  exact⟨b0,ky _ _ _ hI,lG,by rw[bh (Ne.symm Hv)];exact kb,bT SV⟩
 obtain⟨⟨k,v0⟩,LF⟩:=cB (lG.lt i hi)
 have Cr:e=(kN k,v0):=by
  rw[ba,List.getElem?_map,LF]at he;exact(Option.some.inj he).symm
 subst Cr
 have b2:(H1.set mb (.cP (ba kN es) (ix.erase i) H.length (some i)))[b]?=some (tJ n R0 ps bZ body):=by rw[bh (Ne.symm Hv)];exact kb
 have m2:(H1.set mb (.cP (ba kN es) (ix.erase i) H.length (some i)))[mb]?=some (.cP (ba kN es) (ix.erase i) H.length (some i)):=bT SV
 have i2:(H1.set mb (.cP (ba kN es) (ix.erase i) H.length (some i)))[H.length]?=some (.ua mb):=by rw[bh Cq];exact BR
 have Y6:(H1.set mb (.cP (ba kN es) (ix.erase i) H.length (some i))).length=H1.length:=by simp
 have SW:=ky b0 H1 (.cP (ba kN es) (ix.erase i) H.length (some i)) hI
 generalize H1.set mb (.cP (ba kN es) (ix.erase i) H.length (some i))=H2 at *
 have mR:b0.length<es.length:=by have:=lG.len;have:=List.length_pos_of_mem hi;omega
 have fin:∀H3,Ext H2 H3→I b0 H3→eD env bZ (iq R0 ps [kN k]) H3 (fun o H1=>∃R1,o=.ex .normal R1∧H1[b]?=some (tJ n R0 ps bZ body)∧eD env body R1 (H1.set b (LD n R0 ps bZ body)) (fun o H2=>∃R2,o=.ex .normal R2∧H2[b]?=some (LD n R0 ps bZ body) ∧
   ∃y:List Nm,es.length-y.length<es.length-b0.length∧At (H2.set b (tJ n R0 ps bZ body)) (fun H'=>∃ix cur,I y H'∧RI es ix y∧H'[b]?=some (tJ n R0 ps bZ body)∧H'[mb]?=some (.cP (ba kN es) ix H.length cur)∧H'[H.length]?=some (.ua mb))∧R 0=.mO b∧R 5=.ptr H.length 0)):=by
  intro H3 hx h3
  have Bv:=hx.len
  refine cL _ _ _ (fun o H4=>?_) (bR b0 k H3 mR h3 (hx.get b2) (by omega))
  rintro⟨R1,rfl,hr,hw⟩
  refine⟨R1,rfl,hr,cL _ _ _ (fun o H5=>?_) hw⟩
  rintro⟨R2,rfl,uw,Y7,rO⟩
  have Cx:=aW uw
  have SL:=rO mb _ (hx.get m2) (.inl rfl)
  have SJ:=rO H.length _ (hx.get i2) (.inr rfl)
  exact⟨R2,rfl,uw,b0++[k],by rw[List.length_append,List.length_singleton];omega,.i ⟨_,_,Y7,lG.step fv hi LF,bT Cx,by rw[bh Hv];exact SL,by rw[bh Y5];exact SJ⟩,r0,r5⟩
 have Y8:=aW b2
 simp -implicitDefEqProofs only[op,ef,cl,sq,reduceIte,j2,j3,j4,j5,j6,j7,j8,j9,y1,S1,r0,r5,i2,m2,he,kN,eN,S2]
 refine Lj (b:=b) (n:=n) (R0:=R0) (ps:=ps) (bZ:=bZ) (body:=body) (by simp -implicitDefEqProofs only[op,ef,cl,sq,reduceIte,j2,j3,j4,j5,j6,j7,j8,j9,y1,S1,r0]) (by first|exact b2|(rw[aV Y8];exact b2)) (by rw[Y3];rfl) ?_
 simp -implicitDefEqProofs only[op,ef,cl,sq,reduceIte,j2,j3,j4,j5,j6,j7,j8,j9,y1,S1]
 first
  | exact fin _ ⟨_,rfl⟩ (qM _ _ _ SW)
  | exact fin _ Ext.rfl' SW
theorem Oe {n:Nat}{R0:ar}{ps:List Nat}{bZ body:C}(es:List (ByteArray×T))(c b mb:Nat)(H:af)(I:List ByteArray→af→Prop)(Y3:ps.length=1)(fv:(es.map (·.1)).Nodup)(h0:I [] H)(hb:H[b]?=some (tJ n R0 ps bZ body))(hc:H[c]?=some (.cells [.map mb]))(hm:H[mb]?=some (.map (ba T.str es)))
  (ky:∀b0 H' y,I b0 H'→I b0 (H'.set mb y)) (qM:∀b0 H' (l:af),I b0 H'→I b0 (H'++l))
  (bR:∀b0 v H',b0.length<es.length→I b0 H'→H'[b]?=some (tJ n R0 ps bZ body)→H.length<H'.length→eD env bZ (iq R0 ps [(T.str v)]) H' (fun o H1=>∃R1,o=.ex .normal R1∧H1[b]?=some (tJ n R0 ps bZ body) ∧
   eD env body R1 (H1.set b (LD n R0 ps bZ body)) (fun o H2=>∃R2,o=.ex .normal R2∧H2[b]?=some (LD n R0 ps bZ body)∧I (b0++[v]) (H2.set b (tJ n R0 ps bZ body))∧∀a y,H'[a]?=some y→a=mb∨a=H.length→H2[a]?=some y))) :
  W env (.call 100 [.mO b,.ptr c 0]) H (fun _ H'=>∃b0,I b0 H'∧RI es [] b0∧H'[b]?=some (tJ n R0 ps bZ body)∧H'[mb]?=some (.map (ba T.str es))):=by
 have lm:=aW hm
 have lb:=aW hb
 have Hv:b≠mb:=by rintro rfl;rw[hm]at hb;cases hb
 have Dd:(ba T.str es).length=es.length:=by simp[ba]
 refine W.bS rfl rfl rfl ?_
 simp -implicitDefEqProofs only[EZ,op,ef,cl,sq,reduceIte,j2,j3,j4,j5,j6,j7,j8,j9,y1,S1,hc,hm]
 refine W.cF (fun (b0:List ByteArray) R H'=>At H' (fun H'=>∃ix cur,I b0 H'∧RI es ix b0∧H'[b]?=some (tJ n R0 ps bZ body)∧H'[mb]?=some (.cP (ba T.str es) ix H.length cur)∧H'[H.length]?=some (.ua mb))∧R 0=.mO b∧R 5=.ptr H.length 0) (fun b0=>es.length-b0.length) [] ?_ ?_
 ·refine⟨.i ⟨List.range (ba T.str es).length,none,qM _ _ _ (ky _ _ _ h0),by rw[Dd];exact RI.start es,?_,?_,?_⟩,rfl,rfl⟩
  ·rw[aV (by simpa using lb),bh (Ne.symm Hv)];exact hb
  ·rw[aV (by simpa using lm),bT lm]
  ·rw[aX (by simp)]
 rintro b0 R H1⟨⟨ix,cur,hI,lG,kb,JG,BR⟩,r0,r5⟩
 have lb1:=aW kb
 have SV:=aW JG
 have Y4:=aW BR
 have Y5:b≠H.length:=by rintro rfl;rw[BR]at kb;cases kb
 have Cq:mb≠H.length:=by omega
 simp -implicitDefEqProofs only[op,ef,cl,sq,reduceIte,j2,j3,j4,j5,j6,j7,j8,j9,y1,S1,r5]
 refine yn _ _ _ _ _ _ _ r5 JG ?_
 rintro t H2 (⟨rfl,rfl,rfl⟩|⟨i,e,hi,he,rfl,rfl⟩)
 ·simp -implicitDefEqProofs only[op,ef,cl,sq,reduceIte,j2,j3,j4,j5,j6,j7,j8,j9,y1,S1]
  exact⟨b0,ky _ _ _ hI,lG,by rw[bh (Ne.symm Hv)];exact kb,bT SV⟩
 obtain⟨⟨k,v0⟩,LF⟩:=cB (lG.lt i hi)
 have Cr:e=(T.str k,v0):=by
  rw[ba,List.getElem?_map,LF]at he;exact(Option.some.inj he).symm
 subst Cr
 have b2:(H1.set mb (.cP (ba T.str es) (ix.erase i) H.length (some i)))[b]?=some (tJ n R0 ps bZ body):=by rw[bh (Ne.symm Hv)];exact kb
 have m2:(H1.set mb (.cP (ba T.str es) (ix.erase i) H.length (some i)))[mb]?=some (.cP (ba T.str es) (ix.erase i) H.length (some i)):=bT SV
 have i2:(H1.set mb (.cP (ba T.str es) (ix.erase i) H.length (some i)))[H.length]?=some (.ua mb):=by rw[bh Cq];exact BR
 have Y6:(H1.set mb (.cP (ba T.str es) (ix.erase i) H.length (some i))).length=H1.length:=by simp
 have SW:=ky b0 H1 (.cP (ba T.str es) (ix.erase i) H.length (some i)) hI
 generalize H1.set mb (.cP (ba T.str es) (ix.erase i) H.length (some i))=H2 at *
 have mR:b0.length<es.length:=by have:=lG.len;have:=List.length_pos_of_mem hi;omega
 have fin:∀H3,Ext H2 H3→I b0 H3→eD env bZ (iq R0 ps [T.str k]) H3 (fun o H1=>∃R1,o=.ex .normal R1∧H1[b]?=some (tJ n R0 ps bZ body)∧eD env body R1 (H1.set b (LD n R0 ps bZ body)) (fun o H2=>∃R2,o=.ex .normal R2∧H2[b]?=some (LD n R0 ps bZ body) ∧
   ∃y:List ByteArray,es.length-y.length<es.length-b0.length∧At (H2.set b (tJ n R0 ps bZ body)) (fun H'=>∃ix cur,I y H'∧RI es ix y∧H'[b]?=some (tJ n R0 ps bZ body)∧H'[mb]?=some (.cP (ba T.str es) ix H.length cur)∧H'[H.length]?=some (.ua mb))∧R 0=.mO b∧R 5=.ptr H.length 0)):=by
  intro H3 hx h3
  have Bv:=hx.len
  refine cL _ _ _ (fun o H4=>?_) (bR b0 k H3 mR h3 (hx.get b2) (by omega))
  rintro⟨R1,rfl,hr,hw⟩
  refine⟨R1,rfl,hr,cL _ _ _ (fun o H5=>?_) hw⟩
  rintro⟨R2,rfl,uw,Y7,rO⟩
  have Cx:=aW uw
  have SL:=rO mb _ (hx.get m2) (.inl rfl)
  have SJ:=rO H.length _ (hx.get i2) (.inr rfl)
  exact⟨R2,rfl,uw,b0++[k],by rw[List.length_append,List.length_singleton];omega,.i ⟨_,_,Y7,lG.step fv hi LF,bT Cx,by rw[bh Hv];exact SL,by rw[bh Y5];exact SJ⟩,r0,r5⟩
 have Y8:=aW b2
 simp -implicitDefEqProofs only[op,ef,cl,sq,reduceIte,j2,j3,j4,j5,j6,j7,j8,j9,y1,S1,r0,r5,i2,m2,he,kN,eN,S2]
 refine Lj (b:=b) (n:=n) (R0:=R0) (ps:=ps) (bZ:=bZ) (body:=body) (by simp -implicitDefEqProofs only[op,ef,cl,sq,reduceIte,j2,j3,j4,j5,j6,j7,j8,j9,y1,S1,r0]) (by first|exact b2|(rw[aV Y8];exact b2)) (by rw[Y3];rfl) ?_
 simp -implicitDefEqProofs only[op,ef,cl,sq,reduceIte,j2,j3,j4,j5,j6,j7,j8,j9,y1,S1]
 first
  | exact fin _ ⟨_,rfl⟩ (qM _ _ _ SW)
  | exact fin _ Ext.rfl' SW
def JH {α:Type}(enc:α→List T)(n:Nat)(es:List (α×T))(H:af):Out→af→Prop:=fun o H'=>Ext H H'∧∃t b0,o=.val t∧pj enc n H.length H' t b0∧RI es [] b0
def iH (H:af):T→af
 | .ay b _ _ _=>H.set b .dead
 | _=>H
theorem jn (H:af)(t:T):(iH H t).length=H.length:=by cases t<;>simp[iH]
theorem nI {H:af}{t:T}{a:Nat}(h:∀off len m,t≠.ay a off len m):(iH H t)[a]?=H[a]?:=by
 cases t with
 | ay b off len m=>exact bh (fun e=>h off len m (by rw[e]))
 | _=>rfl
theorem xg {α:Type}{enc:α→List T}{n n0 bytes:Nat}(hn:∀x,(enc x).length=n){H:af}{t:T}{l:List α}(h:pj enc n n0 H t l)(v:α)(hr:da (l.length+1) bytes=true):mX H n bytes t [enc v]=some (.ay H.length 0 (l.length+1) n,iH H t++[.cells (aJ enc (l++[v]))]):=by
 have qM:aJ enc l++enc v=aJ enc (l++[v]):=by simp[aJ]
 rcases h with⟨rfl,rfl⟩|⟨b,rfl,hb,_⟩
 ·simp -implicitDefEqProofs only[List.length_nil,Nat.zero_add]at hr
  simp[mX,hr,iH,aJ]
 ·have hc:l.length*n=(aJ enc l).length:=(cY hn l).symm
  simp[mX,hb,hc,hr,iH,qM]
theorem SX (es:List (Nm×T))(c mb:Nat)(H:af)(fv:(es.map (·.1)).Nodup)(hJ:es.length≤8000000)(hc:H[c]?=some (.cells [.map mb]))(hm:H[mb]?=some (.map (ba kN es))) :
  W env (.call 116 [.sl .nil [],.fn 94 [.ptr c 0]]) H (JH eN 2 es H):=by
 have lm:=aW hm
 have lc:=aW hc
 refine W.QZ rfl rfl ?_
 simp -implicitDefEqProofs only[E7,op,ef,cl,sq,reduceIte,j2,j3,j4,j5,j6,j7,j8,j9,y1,S1,S2]
 generalize hR:nY (nY (nY (gp [T.sl SK.nil [],T.fn 94 [T.ptr c 0]]) 2 (T.ptr H.length 0)) 4 (T.sl SK.nil [])) 6 (T.fn 94 [T.ptr c 0])=R0
 have r2:R0 2=.ptr H.length 0:=by rw[←hR];simp -implicitDefEqProofs only[op,ef,cl,sq,reduceIte,j2,j3,j4,j5,j6,j7,j8,j9,y1,S1]
 have r6:R0 6=.fn 94 [.ptr c 0]:=by rw[←hR];simp -implicitDefEqProofs only[op,ef,cl,sq,reduceIte,j2,j3,j4,j5,j6,j7,j8,j9,y1,S1]
 have Y9:R0 13=.bN []:=by rw[←hR];rfl
 refine W.DZ (f:=94) (cs:=[.ptr c 0]) (by simp -implicitDefEqProofs only[op,ef,cl,sq,reduceIte,j2,j3,j4,j5,j6,j7,j8,j9,y1,S1,r6]) ?_
 have a1:(H++[B.cells [T.sl SK.nil []]]).length=H.length+1:=by simp
 rw[a1,Y9,Lv]
 have e1:H.length+1+1=H.length+2:=rfl
 rw[e1]
 generalize ud:H.length=f at *
 have n02:¬(f=f+2):=by omega
 have Za:¬(f+1=f+2):=by omega
 have jV:∀x y:B,(H++[B.cells [T.sl SK.nil []]]++[y,x])[f+2]?=some x:=fun x y=>by
  rw[List.getElem?_append_right (by omega),a1]
  have:f+2-(f+1)=1:=by omega
  rw[this];rfl
 have SY:∀x y:B,(H++[B.cells [T.sl SK.nil []]]++[y,x]).length=f+3:=fun x y=>by simp[ud]
 have Of:∀(x y:B) (a:Nat) z,H[a]?=some z→(H++[B.cells [T.sl SK.nil []]]++[y,x])[a]?=some z:=fun x y a z hz=>by
  have:=aW hz
  rw[aV (by omega),aV (by omega)];exact hz
 refine W.use (Od (hb:=jV _ _) es c (f+2) mb _ (fun b0 H'=>At H' fun H'=>∃t,H'[f]?=some (.cells [t])∧pj eN 2 (f+4) H' t b0∧H'[f+1]?=some .zf∧∀(a:Nat) y,H[a]?=some y→a≠mb→H'[a]?=some y) rfl fv ?_ (Of _ _ _ _ hc) (Of _ _ _ _ hm) ?_ ?_ ?_) ?_
 ·refine .i ⟨.sl .nil [],?_,nw _ _ _ _,?_,fun a y hy _=>Of _ _ _ _ hy⟩
  ·rw[aV (by omega),aX (by omega)]
  ·rw[aX (by omega)]
 ·rintro b0 H' y⟨t,h1,h2,h3,h4⟩
  refine .i ⟨t,by rw[bh (by omega)];exact h1,?_,by rw[bh (by omega)];exact h3,fun a z hz ha=>by rw[bh (Ne.symm ha)];exact h4 a z hz ha⟩
  rcases h2 with h2|⟨d,e1,e2,e3⟩
  ·exact .inl h2
  ·exact .inr ⟨d,e1,by rw[bh (by omega)];exact e2,e3⟩
 ·rintro b0 H' l⟨t,h1,h2,h3,h4⟩
  exact .i ⟨t,by rw[aV (aW h1)];exact h1,h2.ext ⟨_,rfl⟩,by rw[aV (aW h3)];exact h3,fun a z hz ha=>by rw[aV (aW (h4 a z hz ha))];exact h4 a z hz ha⟩
 ·rintro b0 v H' mR⟨t,h1,h2,h3,h4⟩ hb hlen
  rw[SY]at hlen
  have mf:=aW h1
  have m1:=aW h3
  have m2:=aW hb
  have bF:∀a,a<f+4→∀off len m,t≠.ay a off len m:=fun a ha off len m he=>by
   rcases h2 with⟨_,e⟩|⟨d,e,_,e3⟩
   ·rw[e]at he;cases he
   ·rw[e]at he;cases he;omega
  have Jp:zg t=t:=by rcases h2 with⟨_,rfl⟩|⟨d,rfl,_⟩<;>rfl
  have hL:∀y:B,(H'.set (f+2) y++[B.cells (eN v)]).length=H'.length+1:=fun y=>by simp
  have mD:∀y:B,mX (H'.set (f+2) y++[B.cells (eN v)]) 2 24 t [eN v]=some (.ay (H'.length+1) 0 (b0++[v]).length 2,iH (H'.set (f+2) y++[B.cells (eN v)]) t++[.cells (aJ eN (b0++[v]))]):=fun y=>by
   have:=xg (enc:=eN) (n:=2) (bytes:=24) (n0:=f+4) (H:=H'.set (f+2) y++[B.cells (eN v)]) (t:=t) (l:=b0) (fun _=>rfl) (by
    rcases h2 with h2|⟨d,e1,e2,e3⟩
    ·exact .inl h2
    ·refine .inr ⟨d,e1,?_,e3⟩
     first
      | (rw[aV (by rw[List.length_set];exact aW e2),bh (by omega)];exact e2)
      | (rw[bh (by omega)];exact e2)) v (tF (by omega) (by omega))
   rw[hL]at this
   rw[this,List.length_append];rfl
  simp -implicitDefEqProofs only[eN]at mD
  have oF:∀(y:B) (a:Nat) z,H'[a]?=some z→a≠f+2→a<f+4→(iH (H'.set (f+2) y++[B.cells (eN v)]) t++[.cells (aJ eN (b0++[v]))])[a]?=some z:=fun y a z hz h2 h4=>by
   have:=aW hz
   rw[aV (by rw[jn];simp;omega),nI (bF a h4)]
   first
    | (rw[aV (by rw[List.length_set];exact this),bh (Ne.symm h2)];exact hz)
    | (rw[bh (Ne.symm h2)];exact hz)
  have Zb:¬(f+2=H'.length):=by omega
  have Zc:¬(f+2=f):=by omega
  have Zd:¬(H'.length=f):=by omega
  simp -implicitDefEqProofs only[op,ef,cl,sq,reduceIte,j2,j3,j4,j5,j6,j7,j8,j9,y1,S1,S2,iq,kN,eN]
  refine⟨_,rfl,?_,?_⟩
  ·first
    | exact hb
    | (rw[aV m2];exact hb)
  have FT:=fun y=>oF y f _ h1 (by omega) (by omega)
  have SZ:∀y:B,(iH (H'.set (f+2) y++[B.cells (eN v)]) t++[.cells (aJ eN (b0++[v]))])[f+2]?=some y:=fun y=>by
   rw[aV (by rw[jn];simp;omega),nI (bF _ (by omega))]
   first
    | (rw[aV (by rw[List.length_set];exact m2),bT m2])
    | (rw[bT m2])
  have uM:∀y:B,(iH (H'.set (f+2) y++[B.cells (eN v)]) t++[.cells (aJ eN (b0++[v]))])[H'.length+1]?=some (.cells (aJ eN (b0++[v]))):=fun y=>by
   rw[aX (by rw[jn,hL])]
  try simp -implicitDefEqProofs only[eN]at FT
  try simp -implicitDefEqProofs only[eN]at SZ
  try simp -implicitDefEqProofs only[eN]at uM
  try simp -implicitDefEqProofs only[eN]at oF
  simp -implicitDefEqProofs only[op,ef,cl,sq,reduceIte,j2,j3,j4,j5,j6,j7,j8,j9,y1,S1,S2,List.length_set,r2,mf,m2,Zb,Zc,Zd,h1,Jp,mD,FT]
  refine⟨_,rfl,by rw[bh (by omega)];exact SZ _,.i ⟨_,by rw[bh (by omega),bT (aW (FT _))],.inr ⟨_,rfl,by rw[bh (by omega),bh (by omega)];exact uM _,by omega⟩,by rw[bh (by omega),bh (by omega)];exact oF _ _ _ h3 (by omega) (by omega),fun a y hy ha=>?_⟩,fun a y hy ha=>?_⟩
  ·have:=aW hy
   rw[bh (by omega),bh (by omega)];exact oF _ _ _ (h4 a y hy ha) (by omega) (by omega)
  ·rw[SY]at ha
   rw[bh (by omega)];exact oF _ _ _ hy (by omega) (by omega)
 ·rintro o H'⟨b0,⟨t,h1,h2,h3,h4⟩,lG,hb,qn⟩
  refine⟨hb,?_⟩
  have k2:¬(f+2=f+1):=by omega
  have Ze:¬(f+2=f):=by omega
  simp -implicitDefEqProofs only[op,ef,cl,sq,reduceIte,j2,j3,j4,j5,j6,j7,j8,j9,y1,S1,S2,r2,Ze,h1]
  refine ES (b:=f+1) (by simp -implicitDefEqProofs only[op,ef,cl,sq,reduceIte,j2,j3,j4,j5,j6,j7,j8,j9,y1,S1]) (by rw[bh (by omega)];exact h3) ?_
  simp -implicitDefEqProofs only[op,ef,cl,sq,reduceIte,j2,j3,j4,j5,j6,j7,j8,j9,y1,S1]
  refine⟨mG fun a y hy=>?_,t,b0,rfl,?_,lG⟩
  ·have:=aW hy
   rw[bh (by omega),bh (by omega)]
   by_cases ha:a=mb
   ·subst ha;rw[hm]at hy;cases hy;exact qn
   ·exact h4 a y hy ha
  ·rcases h2 with h2|⟨d,e1,e2,e3⟩
   ·exact .inl h2
   ·exact .inr ⟨d,e1,by rw[bh (by omega),bh (by omega)];exact e2,by omega⟩
theorem S0 (es:List (ByteArray×T))(c mb:Nat)(H:af)(fv:(es.map (·.1)).Nodup)(hJ:es.length≤8000000)(hc:H[c]?=some (.cells [.map mb]))(hm:H[mb]?=some (.map (ba T.str es))) :
  W env (.call 121 [.sl .nil [],.fn 100 [.ptr c 0]]) H (JH eS 1 es H):=by
 have lm:=aW hm
 have lc:=aW hc
 refine W.QZ rfl rfl ?_
 simp -implicitDefEqProofs only[Fa,op,ef,cl,sq,reduceIte,j2,j3,j4,j5,j6,j7,j8,j9,y1,S1,S2]
 generalize hR:nY (nY (nY (gp [T.sl SK.nil [],T.fn 100 [T.ptr c 0]]) 2 (T.ptr H.length 0)) 4 (T.sl SK.nil [])) 6 (T.fn 100 [T.ptr c 0])=R0
 have r2:R0 2=.ptr H.length 0:=by rw[←hR];simp -implicitDefEqProofs only[op,ef,cl,sq,reduceIte,j2,j3,j4,j5,j6,j7,j8,j9,y1,S1]
 have r6:R0 6=.fn 100 [.ptr c 0]:=by rw[←hR];simp -implicitDefEqProofs only[op,ef,cl,sq,reduceIte,j2,j3,j4,j5,j6,j7,j8,j9,y1,S1]
 have Y9:R0 13=.bN []:=by rw[←hR];rfl
 refine W.DZ (f:=100) (cs:=[.ptr c 0]) (by simp -implicitDefEqProofs only[op,ef,cl,sq,reduceIte,j2,j3,j4,j5,j6,j7,j8,j9,y1,S1,r6]) ?_
 have a1:(H++[B.cells [T.sl SK.nil []]]).length=H.length+1:=by simp
 rw[a1,Y9,Lv]
 have e1:H.length+1+1=H.length+2:=rfl
 rw[e1]
 generalize ud:H.length=f at *
 have n02:¬(f=f+2):=by omega
 have Za:¬(f+1=f+2):=by omega
 have jV:∀x y:B,(H++[B.cells [T.sl SK.nil []]]++[y,x])[f+2]?=some x:=fun x y=>by
  rw[List.getElem?_append_right (by omega),a1]
  have:f+2-(f+1)=1:=by omega
  rw[this];rfl
 have SY:∀x y:B,(H++[B.cells [T.sl SK.nil []]]++[y,x]).length=f+3:=fun x y=>by simp[ud]
 have Of:∀(x y:B) (a:Nat) z,H[a]?=some z→(H++[B.cells [T.sl SK.nil []]]++[y,x])[a]?=some z:=fun x y a z hz=>by
  have:=aW hz
  rw[aV (by omega),aV (by omega)];exact hz
 refine W.use (Oe (hb:=jV _ _) es c (f+2) mb _ (fun b0 H'=>At H' fun H'=>∃t,H'[f]?=some (.cells [t])∧pj eS 1 (f+4) H' t b0∧H'[f+1]?=some .zf∧∀(a:Nat) y,H[a]?=some y→a≠mb→H'[a]?=some y) rfl fv ?_ (Of _ _ _ _ hc) (Of _ _ _ _ hm) ?_ ?_ ?_) ?_
 ·refine .i ⟨.sl .nil [],?_,nw _ _ _ _,?_,fun a y hy _=>Of _ _ _ _ hy⟩
  ·rw[aV (by omega),aX (by omega)]
  ·rw[aX (by omega)]
 ·rintro b0 H' y⟨t,h1,h2,h3,h4⟩
  refine .i ⟨t,by rw[bh (by omega)];exact h1,?_,by rw[bh (by omega)];exact h3,fun a z hz ha=>by rw[bh (Ne.symm ha)];exact h4 a z hz ha⟩
  rcases h2 with h2|⟨d,e1,e2,e3⟩
  ·exact .inl h2
  ·exact .inr ⟨d,e1,by rw[bh (by omega)];exact e2,e3⟩
 ·rintro b0 H' l⟨t,h1,h2,h3,h4⟩
  exact .i ⟨t,by rw[aV (aW h1)];exact h1,h2.ext ⟨_,rfl⟩,by rw[aV (aW h3)];exact h3,fun a z hz ha=>by rw[aV (aW (h4 a z hz ha))];exact h4 a z hz ha⟩
 ·rintro b0 v H' mR⟨t,h1,h2,h3,h4⟩ hb hlen
  rw[SY]at hlen
  have mf:=aW h1
  have m1:=aW h3
  have m2:=aW hb
  have bF:∀a,a<f+4→∀off len m,t≠.ay a off len m:=fun a ha off len m he=>by
   rcases h2 with⟨_,e⟩|⟨d,e,_,e3⟩
   ·rw[e]at he;cases he
   ·rw[e]at he;cases he;omega
  have Jp:zg t=t:=by rcases h2 with⟨_,rfl⟩|⟨d,rfl,_⟩<;>rfl
  have hL:∀y:B,(H'.set (f+2) y).length=H'.length:=fun y=>by simp
  have mD:∀y:B,mX (H'.set (f+2) y) 1 16 t [eS v]=some (.ay (H'.length) 0 (b0++[v]).length 1,iH (H'.set (f+2) y) t++[.cells (aJ eS (b0++[v]))]):=fun y=>by
   have:=xg (enc:=eS) (n:=1) (bytes:=16) (n0:=f+4) (H:=H'.set (f+2) y) (t:=t) (l:=b0) (fun _=>rfl) (by
    rcases h2 with h2|⟨d,e1,e2,e3⟩
    ·exact .inl h2
    ·refine .inr ⟨d,e1,?_,e3⟩
     first
      | (rw[aV (by rw[List.length_set];exact aW e2),bh (by omega)];exact e2)
      | (rw[bh (by omega)];exact e2)) v (tF (by omega) (by omega))
   rw[hL]at this
   rw[this,List.length_append];rfl
  simp -implicitDefEqProofs only[eS]at mD
  have oF:∀(y:B) (a:Nat) z,H'[a]?=some z→a≠f+2→a<f+4→(iH (H'.set (f+2) y) t++[.cells (aJ eS (b0++[v]))])[a]?=some z:=fun y a z hz h2 h4=>by
   have:=aW hz
   rw[aV (by rw[jn];simp;omega),nI (bF a h4)]
   first
    | (rw[aV (by rw[List.length_set];exact this),bh (Ne.symm h2)];exact hz)
    | (rw[bh (Ne.symm h2)];exact hz)
  have Zb:¬(f+2=H'.length):=by omega
  have Zc:¬(f+2=f):=by omega
  have Zd:¬(H'.length=f):=by omega
  simp -implicitDefEqProofs only[op,ef,cl,sq,reduceIte,j2,j3,j4,j5,j6,j7,j8,j9,y1,S1,S2,iq,kN,eN]
  refine⟨_,rfl,?_,?_⟩
  ·first
    | exact hb
    | (rw[aV m2];exact hb)
  have FT:=fun y=>oF y f _ h1 (by omega) (by omega)
  have SZ:∀y:B,(iH (H'.set (f+2) y) t++[.cells (aJ eS (b0++[v]))])[f+2]?=some y:=fun y=>by
   rw[aV (by rw[jn];simp;omega),nI (bF _ (by omega))]
   first
    | (rw[aV (by rw[List.length_set];exact m2),bT m2])
    | (rw[bT m2])
  have uM:∀y:B,(iH (H'.set (f+2) y) t++[.cells (aJ eS (b0++[v]))])[H'.length]?=some (.cells (aJ eS (b0++[v]))):=fun y=>by
   rw[aX (by rw[jn,hL])]
  try simp -implicitDefEqProofs only[eS]at FT
  try simp -implicitDefEqProofs only[eS]at SZ
  try simp -implicitDefEqProofs only[eS]at uM
  try simp -implicitDefEqProofs only[eS]at oF
  simp -implicitDefEqProofs only[op,ef,cl,sq,reduceIte,j2,j3,j4,j5,j6,j7,j8,j9,y1,S1,S2,List.length_set,r2,mf,m2,Zb,Zc,Zd,h1,Jp,mD,FT]
  refine⟨_,rfl,by rw[bh (by omega)];exact SZ _,.i ⟨_,by rw[bh (by omega),bT (aW (FT _))],.inr ⟨_,rfl,by rw[bh (by omega),bh (by omega)];exact uM _,by omega⟩,by rw[bh (by omega),bh (by omega)];exact oF _ _ _ h3 (by omega) (by omega),fun a y hy ha=>?_⟩,fun a y hy ha=>?_⟩
  ·have:=aW hy
   rw[bh (by omega),bh (by omega)];exact oF _ _ _ (h4 a y hy ha) (by omega) (by omega)
  ·rw[SY]at ha
   rw[bh (by omega)];exact oF _ _ _ hy (by omega) (by omega)
 ·rintro o H'⟨b0,⟨t,h1,h2,h3,h4⟩,lG,hb,qn⟩
  refine⟨hb,?_⟩
  have k2:¬(f+2=f+1):=by omega
  have Ze:¬(f+2=f):=by omega
  simp -implicitDefEqProofs only[op,ef,cl,sq,reduceIte,j2,j3,j4,j5,j6,j7,j8,j9,y1,S1,S2,r2,Ze,h1]
  refine ES (b:=f+1) (by simp -implicitDefEqProofs only[op,ef,cl,sq,reduceIte,j2,j3,j4,j5,j6,j7,j8,j9,y1,S1]) (by rw[bh (by omega)];exact h3) ?_
  simp -implicitDefEqProofs only[op,ef,cl,sq,reduceIte,j2,j3,j4,j5,j6,j7,j8,j9,y1,S1]
  refine⟨mG fun a y hy=>?_,t,b0,rfl,?_,lG⟩
  ·have:=aW hy
   rw[bh (by omega),bh (by omega)]
   by_cases ha:a=mb
   ·subst ha;rw[hm]at hy;cases hy;exact qn
   ·exact h4 a y hy ha
  ·rcases h2 with h2|⟨d,e1,e2,e3⟩
   ·exact .inl h2
   ·exact .inr ⟨d,e1,by rw[bh (by omega),bh (by omega)];exact e2,by omega⟩
theorem Og (es:List (Nm×T))(c mb:Nat)(H:af)(fv:(es.map (·.1)).Nodup)(hJ:es.length≤8000000)(hc:H[c]?=some (.cells [.map mb]))(hm:H[mb]?=some (.map (ba kN es))) :
  W env (.call 92 [.fn 94 [.ptr c 0]]) H (JH eN 2 es H):=by
 refine W.bS rfl rfl rfl ?_
 simp -implicitDefEqProofs only[NY,op,ef,cl,sq,reduceIte,j2,j3,j4,j5,j6,j7,j8,j9,y1,S1]
 refine ae _ _ _ _ _ _ _ _ (SX es c mb H fv hJ hc hm) ?_
 rintro u H1⟨hx,t,b0,hu,h1,h2⟩
 cases hu
 simp -implicitDefEqProofs only[op,ef,cl,sq,reduceIte,j2,j3,j4,j5,j6,j7,j8,j9,y1,S1]
 exact⟨hx,_,b0,rfl,h1,h2⟩
theorem Oh (es:List (ByteArray×T))(c mb:Nat)(H:af)(fv:(es.map (·.1)).Nodup)(hJ:es.length≤8000000)(hc:H[c]?=some (.cells [.map mb]))(hm:H[mb]?=some (.map (ba T.str es))) :
  W env (.call 98 [.fn 100 [.ptr c 0]]) H (JH eS 1 es H):=by
 refine W.bS rfl rfl rfl ?_
 simp -implicitDefEqProofs only[N3,op,ef,cl,sq,reduceIte,j2,j3,j4,j5,j6,j7,j8,j9,y1,S1]
 refine ae _ _ _ _ _ _ _ _ (S0 es c mb H fv hJ hc hm) ?_
 rintro u H1⟨hx,t,b0,hu,h1,h2⟩
 cases hu
 simp -implicitDefEqProofs only[op,ef,cl,sq,reduceIte,j2,j3,j4,j5,j6,j7,j8,j9,y1,S1]
 exact⟨hx,_,b0,rfl,h1,h2⟩
theorem iI {α:Type}[Inhabited α]{d:Array α}{i:Nat}(h:i<d.size):d.toList[i]?=some d[i]!:=by
 rw[Array.getElem?_toList,Array.getElem?_eq_getElem h,getElem!_pos d i h]
theorem xh {α:Type}[Inhabited α](d:Array α)(i j:Nat):(Go.Sort.swp d i j).toList=(d.toList.set i d[j]!).set j d[i]!:=by
 simp[Go.Sort.swp,Array.toList_setIfInBounds]
theorem swp_size {α:Type}[Inhabited α](d:Array α)(i j:Nat):(Go.Sort.swp d i j).size=d.size:=by simp[Go.Sort.swp]
def aY (a b:Nm):Bool:=decide (dz a b<0)
def Zf (c:Nat)(d':Array Nm)(H:af):Out→af→Prop:=fun o H'=>o=.val (.bN [])∧H'[c]?=some (.cells (aJ eN d'.toList))∧bl (fun x=>x=c) H H'
theorem uN {Hx:af}{c:Nat}(d:Array Nm){i j:Nat}(hi:i<d.size)(hj:j<d.size) :
  oJ Hx c [.str d[j]!.1,.int .u64 d[j]!.2] (i*2) (some (.cells (aJ eN d.toList)))=some (Hx.set c (.cells (aJ eN (d.toList.set i d[j]!)))) ∧
  ∀Hy,oJ Hy c [.str d[i]!.1,.int .u64 d[i]!.2] (j*2) (some (.cells (aJ eN (d.toList.set i d[j]!))))=some (Hy.set c (.cells (aJ eN (Go.Sort.swp d i j).toList))):=by
 have g1:=jI (enc:=eN) (n:=2) (y:=d[j]!) (fun _=>rfl) (iI hi) Hx c (eN d[j]!) 0 (by simp[eN]) (by simp[eN])
 obtain⟨z,hz⟩:=cB (l:=d.toList.set i d[j]!) (i:=j) (by simpa using hj)
 have g2:=fun Hy=>jI (enc:=eN) (n:=2) (y:=d[i]!) (fun _=>rfl) hz Hy c (eN d[i]!) 0 (by simp[eN]) (by simp[eN])
 refine⟨by simpa[eN]using g1,fun Hy=>?_⟩
 rw[xh]
 simpa[eN]using g2 Hy
theorem FU {d:Array Nm}{i:Nat}(h:i<d.size):qP 2 (i*2) (some (.cells (aJ eN d.toList)))=some [.str d[i]!.1,.int .u64 d[i]!.2]:=by
 have:=iD (enc:=eN) (n:=2) (fun _=>rfl) (iI h) 0 2 (by decide)
 simpa[eN]using this
open Go.Sort in
theorem S4 (c:Nat)(d:Array Nm)(a b:Nat)(H:af)(hc:H[c]?=some (.cells (aJ eN d.toList)))(hb:b≤d.size)(fZ:a≤b)(hs:d.size<4611686018427387903) :
  W env (.call 132 [.ay c 0 d.size 2,.int .i64 a,.int .i64 b,.fn 61 []]) H (Zf c (insertionSort aY d a b) H):=by
 refine W.bS rfl rfl rfl ?_
 have wa:=aU (show a<9223372036854775807 by omega)
 simp -implicitDefEqProofs only[z9,op,ef,cl,sq,reduceIte,j2,j3,j4,j5,j6,j7,j8,j9,y1,S1,wa]
 refine W.cF (fun (i:Nat) R H'=>At H' (fun H'=>∃di:Array Nm,H'[c]?=some (.cells (aJ eN di.toList))∧di.size=d.size∧insOuter aY a b i di=insertionSort aY d a b∧bl (fun x=>x=c) H H')∧R 0=.ay c 0 d.size 2∧R 1=.int .i64 a∧R 2=.int .i64 b∧R 3=.fn 61 []∧R 8=.int .i64 i∧a+1≤i) (fun i=>b-i) (a+1) ⟨.i ⟨d,hc,rfl,rfl,bl.refl _ _⟩,rfl,rfl,rfl,rfl,rfl,Nat.le_refl _⟩ ?_
 rintro i R H1⟨⟨di,hd,a7,yA,al⟩,h0,h1,h2,h3,h8,vA⟩
 by_cases ax:i<b
 ·have wi:=aU (show i<9223372036854775807 by omega)
  simp -implicitDefEqProofs only[op,ef,cl,sq,reduceIte,j2,j3,j4,j5,j6,j7,j8,j9,y1,S1,h0,h1,h2,h3,h8,ax]
  refine W.cM 2 (fun (j:Nat) R H'=>At H' (fun H'=>∃dj:Array Nm,H'[c]?=some (.cells (aJ eN dj.toList))∧dj.size=d.size∧insInner aY a j dj=insInner aY a i di∧bl (fun x=>x=c) H H')∧R 0=.ay c 0 d.size 2∧R 1=.int .i64 a∧R 2=.int .i64 b∧R 3=.fn 61 []∧R 8=.int .i64 i∧R 9=.int .i64 j∧j≤i) (fun j=>j) i
   (fun R H'=>At H' (fun H'=>∃dj:Array Nm,H'[c]?=some (.cells (aJ eN dj.toList))∧dj.size=d.size∧dj=insInner aY a i di∧bl (fun x=>x=c) H H')∧R 0=.ay c 0 d.size 2∧R 1=.int .i64 a∧R 2=.int .i64 b∧R 3=.fn 61 []∧R 8=.int .i64 i) ?_ ?_ ?_
  ·refine⟨.i ⟨di,hd,a7,rfl,al⟩,?_,?_,?_,?_,?_,?_,Nat.le_refl _⟩
   all_goals (simp -implicitDefEqProofs only[op,ef,cl,sq,reduceIte,j2,j3,j4,j5,j6,j7,j8,j9,y1,S1,h0,h1,h2,h3,h8])
  ·rintro j R H2⟨⟨dj,cr,pB,ra,jK⟩,q0,q1,q2,q3,q8,q9,MD⟩
   by_cases Oi:a<j
   ·obtain⟨j',rfl⟩:∃j',j=j'+1:=⟨j-1,by omega⟩
    have wp:IntKind.i64.wrap (((j'+1:Nat):Int)-1)=(j':Int):=by rw[wrap64 (by omega)];omega
    have j1:j'+1<d.size:=by omega
    have j0:j'<d.size:=by omega
    have i1:eI 2 (j'+1) (.ay c 0 d.size 2)=some (.ptr c ((j'+1)*2)):=by rw[jk];simp[j1]
    have i0:eI 2 j' (.ay c 0 d.size 2)=some (.ptr c (j'*2)):=by rw[jk];simp[j0]
    have v1:=FU (d:=dj) (i:=j'+1) (by omega)
    have v0:=FU (d:=dj) (i:=j') (by omega)
    simp -implicitDefEqProofs only[op,ef,cl,sq,reduceIte,j2,j3,j4,j5,j6,j7,j8,j9,y1,S1,q0,q1,q2,q3,q8,q9,Oi,aa,i1,i0,wp,cr,v1,v0]
    refine kJ _ _ _ _ _ _ _ (by simp -implicitDefEqProofs only[op,ef,cl,sq,reduceIte,j2,j3,j4,j5,j6,j7,j8,j9,y1,S1]) ?_
    simp -implicitDefEqProofs only[op,ef,cl,sq,reduceIte,j2,j3,j4,j5,j6,j7,j8,j9,y1,S1,cu,q0,q1,q2,q3,q8,q9,List.append_nil]
    refine ae _ _ _ _ _ _ _ _ (cd dj[j'+1]! dj[j']! _) ?_
    rintro u H3⟨hu,hx⟩
    cases hu
    have hx:Ext H2 H3:=hx
    have nJ:=hx.get cr
    obtain⟨s1,s2⟩:=uN (Hx:=H3) (c:=c) dj (i:=j'+1) (j:=j') (by omega) (by omega)
    have S5:bl (fun x=>x=c) H H3:=jK.trans (aA (F:=fun _=>False) hx) (fun _ h=>h.elim)
    have ltd:aY dj[j'+1]! dj[j']! = decide (dz dj[j'+1]! dj[j']!<0):=rfl
    by_cases mh:dz dj[j'+1]! dj[j']!<0
    ·simp -implicitDefEqProofs only[op,ef,cl,sq,reduceIte,j2,j3,j4,j5,j6,j7,j8,j9,y1,S1,q0,q1,q2,q3,q8,q9,mh,aa,i1,i0,wp,nJ,v1,v0,s1,S2,s2,aW nJ]
     exact⟨j',by omega,.i ⟨swp dj (j'+1) j',bT (by rw[List.length_set];exact aW nJ),by rw[swp_size];exact pB,by rw[←ra];conv=>{ rhs;rw[insInner,if_pos (by simp -implicitDefEqProofs only[Bool.and_eq_true,decide_eq_true_eq,ltd];exact⟨Oi,mh⟩)] },(S5.set (.inl rfl) _).set (.inl rfl) _⟩,rfl,by omega⟩
    ·simp -implicitDefEqProofs only[op,ef,cl,sq,reduceIte,j2,j3,j4,j5,j6,j7,j8,j9,y1,S1,q0,q1,q2,q3,q8,q9,mh]
     exact .i ⟨dj,nJ,pB,by rw[←ra,insInner,ltd];simp[mh],S5⟩
   ·simp -implicitDefEqProofs only[op,ef,cl,sq,reduceIte,j2,j3,j4,j5,j6,j7,j8,j9,y1,S1,q0,q1,q2,q3,q8,q9,Oi]
    refine .i ⟨dj,cr,pB,?_,jK⟩
    rw[←ra]
    cases j with
    | zero=>rfl
    | succ j=>rw[insInner,if_neg (by simp -implicitDefEqProofs only[Bool.and_eq_true,decide_eq_true_eq];omega)]
  ·rintro R H2⟨⟨dj,cr,pB,ra,jK⟩,q0,q1,q2,q3,q8⟩
   simp -implicitDefEqProofs only[op,ef,cl,sq,reduceIte,j2,j3,j4,j5,j6,j7,j8,j9,y1,S1,q0,q1,q2,q3,q8,wi]
   refine⟨i+1,by omega,.i ⟨dj,cr,pB,?_,jK⟩,rfl,by omega⟩
   rw[←yA,ra]
   conv=>rhs;rw[insOuter,if_pos ax]
 ·simp -implicitDefEqProofs only[op,ef,cl,sq,reduceIte,j2,j3,j4,j5,j6,j7,j8,j9,y1,S1,h0,h1,h2,h3,h8,ax]
  rw[insOuter,if_neg ax]at yA
  subst yA
  exact⟨rfl,hd,al⟩
theorem JI {β:Type}{K:Option β→Prop}{A:Array UInt8}{n:Nat}(hn:n<A.size)(f:UInt8→β)(h:∀c,K (some (f c))):K (Option.map f A[n]?):=by rw[Array.getElem?_eq_getElem hn];exact h _
theorem S6 (n:Nat)(hn:n<256)(H:af):W env (.call 118 [.int .u64 n]) H (fun o H'=>H'=H∧∃m:Nat,o=.val (.int .i64 m)):=by
 refine W.bS rfl rfl rfl ?_
 simp -implicitDefEqProofs only[z7,op,ef,cl,sq,reduceIte,j2,j3,j4,j5,j6,j7,j8,j9,y1,S1]
 refine ae _ _ _ _ _ _ _ (fun o H'=>H'=H∧∃m:Nat,o=.val (.int .i64 m)) ?_ ?_
 ·refine W.bS rfl rfl rfl ?_
  have h1:¬(4294967296≤n):=by omega
  have h2:¬(65536≤n):=by omega
  have h3:¬(256≤n):=by omega
  have Oj:=w7 hn
  simp -implicitDefEqProofs only[tE,op,ef,cl,sq,reduceIte,j2,j3,j4,j5,j6,j7,j8,j9,y1,S1,h1,h2,h3,Oj,aa]
  refine JI (K:=kH env _ _ _ _ _ _ _ _) (by show n<256;exact hn) _ fun ch=>?_
  have CC:ch.toNat<256:=ch.toNat_lt
  have wc:IntKind.i64.wrap ((ch.toNat:Nat):Int)=((ch.toNat:Nat):Int):=wrap64 (by omega)
  have wc2:IntKind.i64.wrap (0+((ch.toNat:Nat):Int))=((ch.toNat:Nat):Int):=by rw[wrap64 (by omega)];omega
  simp -implicitDefEqProofs only[op,ef,cl,sq,reduceIte,j2,j3,j4,j5,j6,j7,j8,j9,y1,S1,wc,wc2]
  exact⟨ch.toNat,rfl⟩
 ·rintro u H'⟨rfl,m,hu⟩
  cases hu
  simp -implicitDefEqProofs only[op,ef,cl,sq,reduceIte,j2,j3,j4,j5,j6,j7,j8,j9,y1,S1]
  exact⟨m,rfl⟩
set_option maxHeartbeats 8000000
theorem wA {a b:Nat}(h:a+b<9223372036854775808):IntKind.i64.wrap ((a:Int)+(b:Int))=((a+b:Nat):Int):=by rw[wrap64 (by omega)];omega
theorem a0 {a:Nat}(h:a+1<9223372036854775808):IntKind.i64.wrap ((a:Int)+1)=((a+1:Nat):Int):=by rw[wrap64 (by omega)];omega
theorem wS {a b:Nat}(h:b≤a∧a<9223372036854775808):IntKind.i64.wrap ((a:Int)-(b:Int))=((a-b:Nat):Int):=by rw[wrap64 (by omega)];omega
theorem aZ {a:Nat}(h:1≤a∧a<9223372036854775808):IntKind.i64.wrap ((a:Int)-1)=((a-1:Nat):Int):=by rw[wrap64 (by omega)];omega
theorem wM {a:Nat}(h:2*a<9223372036854775808):IntKind.i64.wrap (2*(a:Int))=((2*a:Nat):Int):=by rw[wrap64 (by omega)];omega
section
variable {c n i j:Nat} {d:Array Nm}
theorem aM (h:i<n):eI 2 i (.ay c 0 n 2)=some (.ptr c (i*2)):=by rw[jk];simp[h]
theorem rb {l:List Nm}:(aJ eN l).length=l.length*2:=by rw[cY (n:=2) (fun _=>rfl)]
theorem aO (h:i<d.size):(i*2+2≤(aJ eN d.toList).length)=True:=by rw[rb];simp;omega
theorem aP (h:i<d.size):List.take 2 (List.drop (i*2) (aJ eN d.toList))=[.str d[i]!.1,.int .u64 d[i]!.2]:=by
 have:=FU h
 rw[mB,if_pos (by rw[rb];simp;omega)]at this
 exact Option.some.inj this
theorem aQ {x:Nm}(h:i<d.size):(i*2+2≤(aJ eN (d.toList.set j x)).length)=True:=by rw[rb];simp;omega
theorem aR (h:i<d.size)(h':j<d.size):(List.take (i*2) (aJ eN d.toList)++[.str d[j]!.1,.int .u64 d[j]!.2])++List.drop (i*2+2) (aJ eN d.toList)=aJ eN (d.toList.set i d[j]!):=by
 have:=(uN (Hx:=[.cells []]) (c:=0) d h h').1
 rw[gW,if_pos (by rw[rb];simp;omega)]at this
 simpa using this
theorem aS (h:i<d.size)(h':j<d.size):(List.take (j*2) (aJ eN (d.toList.set i d[j]!))++[.str d[i]!.1,.int .u64 d[i]!.2])++List.drop (j*2+2) (aJ eN (d.toList.set i d[j]!))=aJ eN (Go.Sort.swp d i j).toList:=by
 have:=(uN (Hx:=[.cells []]) (c:=0) d h h').2 [.cells []]
 rw[gW,if_pos (by rw[rb];simp;omega)]at this
 simpa using this
end
theorem cg {p:Prop}[Decidable p](h:p):decide p=true:=decide_eq_true h
theorem cf {p:Prop}[Decidable p](h:¬p):decide p=false:=decide_eq_false h
theorem fA {a b:Bool}(h:a=true)(h':b=true):(a&&b)=true:=by rw[h,h'];rfl
theorem dc {a b:Bool}(h:a=false):¬((a&&b)=true):=by rw[h];simp
theorem dI {a b:Bool}(h:b=false):¬((a&&b)=true):=by rw[h];simp
theorem jS {a:Bool}(h:a=true):¬((!a)=true):=by rw[h];simp
theorem eZ {a:Bool}(h:a=false):(!a)=true:=by rw[h];rfl
def SC (c n:Nat)(H:af)(P:Array Nm→Prop)(H':af):Prop:=∃d:Array Nm,H'[c]?=some (.cells (aJ eN d.toList))∧d.size=n∧P d∧bl (fun x=>x=c) H H'
theorem SC.swp {c n:Nat}{H H1:af}{P:Array Nm→Prop}{y x:B}{d':Array Nm}(hd:H1[c]?=some y)(hs:d'.size=n)(hP:P d')(hf:bl (fun x=>x=c) H H1):SC c n H P ((H1.set c x).set c (.cells (aJ eN d'.toList))) :=
 ⟨d',bT (by rw[List.length_set];exact aW hd),hs,hP,(hf.set (.inl rfl) _).set (.inl rfl) _⟩
def yB (c n:Nat)(d':Array Nm)(H:af):Out→af→Prop:=fun o H'=>o=.val (.bN [])∧SC c n H (fun x=>x=d') H'
open Go.Sort in
theorem S7 (c n:Nat)(d:Array Nm)(a b:Nat)(H:af)(hn:d.size=n)(hc:H[c]?=some (.cells (aJ eN d.toList)))(hb:b≤n)(fZ:a<b)(hs:n<4611686018427387903) :
  W env (.call 136 [.ay c 0 n 2,.int .i64 a,.int .i64 b,.fn 61 []]) H (yB c n (reverseRange d a b) H):=by
 refine W.bS rfl rfl rfl ?_
 simp -implicitDefEqProofs (maxSteps:=1000000) (disch:=omega) only[Fj,op,ef,cl,sq,reduceIte,j2,j3,j4,j5,j6,j7,j8,j9,y1,S1,aZ]
 refine W.cF (fun (i:Nat) R H'=>At H' (fun H'=>∃j,R 9=.int .i64 (j:Nat)∧i+j=a+b-1∧a≤i∧SC c n H (fun di=>reverseLoop i j di=reverseRange d a b) H')∧R 0=.ay c 0 n 2∧R 8=.int .i64 i) (fun i=>a+b-i) a ⟨.i ⟨b-1,rfl,by omega,Nat.le_refl _,d,hc,hn,rfl,bl.refl _ _⟩,rfl,rfl⟩ ?_
 rintro i R H1⟨⟨j,h9,qW,FV,di,hd,a7,yC,al⟩,h0,h8⟩
 have lc:=aW hd
 by_cases ax:i<j
 ·simp -implicitDefEqProofs (maxSteps:=1000000) (disch:=omega) only[aa,aM,aO,aP,aQ,aR,aS,wA,a0,wS,aZ,wM,S2,op,ef,cl,sq,reduceIte,j2,j3,j4,j5,j6,j7,j8,j9,y1,S1,h0,h8,h9,ax,hd,lc]
  exact⟨i+1,by omega,.i ⟨j-1,rfl,by omega,by omega,.swp hd (by rw[swp_size];exact a7) (by rw[←yC];conv=>{ rhs;rw[reverseLoop,if_pos ax] }) al⟩,rfl⟩
 ·simp -implicitDefEqProofs only[op,ef,cl,sq,reduceIte,j2,j3,j4,j5,j6,j7,j8,j9,y1,S1,h0,h8,h9,ax]
  rw[reverseLoop,if_neg ax]at yC
  exact⟨rfl,di,hd,a7,yC,al⟩
set_option maxHeartbeats 8000000
open Go.Sort in
theorem FW (c n:Nat)(d:Array Nm)(lo hi first:Nat)(H:af)(hn:d.size=n)(hc:H[c]?=some (.cells (aJ eN d.toList)))(hb:first+hi≤n)(nZ:lo≤n)(hs:n<2305843009213693951) :
  W env (.call 153 [.ay c 0 n 2,.int .i64 lo,.int .i64 hi,.int .i64 first,.fn 61 []]) H (yB c n (siftDown aY hi first lo d) H):=by
 refine W.bS rfl rfl rfl ?_
 simp -implicitDefEqProofs only[Fy,op,ef,cl,sq,reduceIte,j2,j3,j4,j5,j6,j7,j8,j9,y1,S1]
 refine W.cF (fun (r:Nat) R H'=>At H' (fun H'=>SC c n H (fun di=>siftDown aY hi first r di=siftDown aY hi first lo d) H')∧R 0=.ay c 0 n 2∧R 2=.int .i64 hi∧R 3=.int .i64 first∧R 4=.fn 61 []∧R 10=.int .i64 r∧r≤n) (fun r=>hi-r) lo ⟨.i ⟨d,hc,hn,rfl,bl.refl _ _⟩,rfl,rfl,rfl,rfl,rfl,nZ⟩ ?_
 rintro r R H1⟨⟨di,hd,a7,hP,al⟩,h0,h2,h3,h4,aC,hr⟩
 have lc:=aW hd
 by_cases dV:2*r+1≥hi
 ·simp -implicitDefEqProofs (maxSteps:=1000000) (disch:=omega) only[aa,aM,aO,aP,aQ,aR,aS,wA,a0,wS,aZ,wM,S2,op,ef,cl,sq,reduceIte,j2,j3,j4,j5,j6,j7,j8,j9,y1,S1,h0,h2,h3,h4,aC,dV]
  rw[siftDown,dif_pos dV]at hP
  exact⟨rfl,di,hd,a7,hP,al⟩
 by_cases dg:2*r+1+1<hi
 ·simp -implicitDefEqProofs (maxSteps:=1000000) (disch:=omega) only[aa,aM,aO,aP,aQ,aR,aS,wA,a0,wS,aZ,wM,S2,op,ef,cl,sq,reduceIte,j2,j3,j4,j5,j6,j7,j8,j9,y1,S1,h0,h2,h3,h4,aC,dV,dg,hd,lc]
  refine kJ _ _ _ _ _ _ _ (by simp -implicitDefEqProofs (maxSteps:=1000000) (disch:=omega) only[aa,aM,aO,aP,aQ,aR,aS,wA,a0,wS,aZ,wM,S2,op,ef,cl,sq,reduceIte,j2,j3,j4,j5,j6,j7,j8,j9,y1,S1,h0,h2,h3,h4,aC,dV,dg,hd,lc]) ?_
  simp -implicitDefEqProofs (maxSteps:=1000000) (disch:=omega) only[aa,aM,aO,aP,aQ,aR,aS,wA,a0,wS,aZ,wM,S2,op,ef,cl,sq,reduceIte,j2,j3,j4,j5,j6,j7,j8,j9,y1,S1,cu,h0,h2,h3,h4,aC,dV,dg,hd,lc,List.append_nil]
  refine ae _ _ _ _ _ _ _ _ (cd di[first+(2*r+1)]! di[first+(2*r+1)+1]! _) ?_
  rintro u H2⟨hu,hx⟩
  cases hu
  have hx:Ext H1 H2:=hx
  have hd:=hx.get hd
  have lc:=aW hd
  have al:=al.trans (aA (F:=fun _=>False) hx) (fun _ h=>h.elim)
  have cW:aY di[first+(2*r+1)]! di[first+(2*r+1)+1]! = decide (dz di[first+(2*r+1)]! di[first+(2*r+1)+1]!<0):=rfl
  by_cases c1:dz di[first+(2*r+1)]! di[first+(2*r+1)+1]!<0
  ·simp -implicitDefEqProofs (maxSteps:=1000000) (disch:=omega) only[aa,aM,aO,aP,aQ,aR,aS,wA,a0,wS,aZ,wM,S2,op,ef,cl,sq,reduceIte,j2,j3,j4,j5,j6,j7,j8,j9,y1,S1,h0,h2,h3,h4,aC,dV,dg,hd,lc,c1]
   refine kJ _ _ _ _ _ _ _ (by simp -implicitDefEqProofs (maxSteps:=1000000) (disch:=omega) only[aa,aM,aO,aP,aQ,aR,aS,wA,a0,wS,aZ,wM,S2,op,ef,cl,sq,reduceIte,j2,j3,j4,j5,j6,j7,j8,j9,y1,S1,h0,h2,h3,h4,aC,dV,dg,hd,lc]) ?_
   simp -implicitDefEqProofs (maxSteps:=1000000) (disch:=omega) only[aa,aM,aO,aP,aQ,aR,aS,wA,a0,wS,aZ,wM,S2,op,ef,cl,sq,reduceIte,j2,j3,j4,j5,j6,j7,j8,j9,y1,S1,cu,h0,h2,h3,h4,aC,dV,dg,hd,lc,List.append_nil]
   refine ae _ _ _ _ _ _ _ _ (cd di[first+r]! di[first+(2*r+1+1)]! _) ?_
   rintro u H3⟨hu,hx⟩
   cases hu
   have hx:Ext H2 H3:=hx
   have hd:=hx.get hd
   have lc:=aW hd
   have al:=al.trans (aA (F:=fun _=>False) hx) (fun _ h=>h.elim)
   have xi:aY di[first+r]! di[first+(2*r+1+1)]! = decide (dz di[first+r]! di[first+(2*r+1+1)]!<0):=rfl
   by_cases c2:dz di[first+r]! di[first+(2*r+1+1)]!<0
   ·simp -implicitDefEqProofs (maxSteps:=1000000) (disch:=omega) only[aa,aM,aO,aP,aQ,aR,aS,wA,a0,wS,aZ,wM,S2,op,ef,cl,sq,reduceIte,j2,j3,j4,j5,j6,j7,j8,j9,y1,S1,h0,h2,h3,h4,aC,dV,dg,hd,lc,c2]
    refine⟨2*r+1+1,by omega,.i (.swp hd (by rw[swp_size];exact a7) ?_ al),rfl,by omega⟩
    rw[←hP]
    conv=>{ rhs;rw[siftDown,dif_neg dV,if_pos (fA (cg dg) (cW.trans (cg c1))),if_neg (jS (xi.trans (cg c2))),dif_pos dg] }
   ·simp -implicitDefEqProofs (maxSteps:=1000000) (disch:=omega) only[aa,aM,aO,aP,aQ,aR,aS,wA,a0,wS,aZ,wM,S2,op,ef,cl,sq,reduceIte,j2,j3,j4,j5,j6,j7,j8,j9,y1,S1,h0,h2,h3,h4,aC,dV,dg,hd,lc,c2]
    rw[siftDown,dif_neg dV,if_pos (fA (cg dg) (cW.trans (cg c1))),if_pos (eZ (xi.trans (cf c2)))]at hP
    exact⟨rfl,di,hd,a7,hP,al⟩
  ·simp -implicitDefEqProofs (maxSteps:=1000000) (disch:=omega) only[aa,aM,aO,aP,aQ,aR,aS,wA,a0,wS,aZ,wM,S2,op,ef,cl,sq,reduceIte,j2,j3,j4,j5,j6,j7,j8,j9,y1,S1,h0,h2,h3,h4,aC,dV,dg,hd,lc,c1]
   refine kJ _ _ _ _ _ _ _ (by simp -implicitDefEqProofs (maxSteps:=1000000) (disch:=omega) only[aa,aM,aO,aP,aQ,aR,aS,wA,a0,wS,aZ,wM,S2,op,ef,cl,sq,reduceIte,j2,j3,j4,j5,j6,j7,j8,j9,y1,S1,h0,h2,h3,h4,aC,dV,dg,hd,lc]) ?_
   simp -implicitDefEqProofs (maxSteps:=1000000) (disch:=omega) only[aa,aM,aO,aP,aQ,aR,aS,wA,a0,wS,aZ,wM,S2,op,ef,cl,sq,reduceIte,j2,j3,j4,j5,j6,j7,j8,j9,y1,S1,cu,h0,h2,h3,h4,aC,dV,dg,hd,lc,List.append_nil]
   refine ae _ _ _ _ _ _ _ _ (cd di[first+r]! di[first+(2*r+1)]! _) ?_
   rintro u H3⟨hu,hx⟩
   cases hu
   have hx:Ext H2 H3:=hx
   have hd:=hx.get hd
   have lc:=aW hd
   have al:=al.trans (aA (F:=fun _=>False) hx) (fun _ h=>h.elim)
   have xi:aY di[first+r]! di[first+(2*r+1)]! = decide (dz di[first+r]! di[first+(2*r+1)]!<0):=rfl
   by_cases c2:dz di[first+r]! di[first+(2*r+1)]!<0
   ·simp -implicitDefEqProofs (maxSteps:=1000000) (disch:=omega) only[aa,aM,aO,aP,aQ,aR,aS,wA,a0,wS,aZ,wM,S2,op,ef,cl,sq,reduceIte,j2,j3,j4,j5,j6,j7,j8,j9,y1,S1,h0,h2,h3,h4,aC,dV,dg,hd,lc,c2]
    refine⟨2*r+1,by omega,.i (.swp hd (by rw[swp_size];exact a7) ?_ al),rfl,by omega⟩
    rw[←hP]
    conv=>{ rhs;rw[siftDown,dif_neg dV,if_neg (dI (cW.trans (cf c1))),if_neg (jS (xi.trans (cg c2)))] }
   ·simp -implicitDefEqProofs (maxSteps:=1000000) (disch:=omega) only[aa,aM,aO,aP,aQ,aR,aS,wA,a0,wS,aZ,wM,S2,op,ef,cl,sq,reduceIte,j2,j3,j4,j5,j6,j7,j8,j9,y1,S1,h0,h2,h3,h4,aC,dV,dg,hd,lc,c2]
    rw[siftDown,dif_neg dV,if_neg (dI (cW.trans (cf c1))),if_pos (eZ (xi.trans (cf c2)))]at hP
    exact⟨rfl,di,hd,a7,hP,al⟩
 ·simp -implicitDefEqProofs (maxSteps:=1000000) (disch:=omega) only[aa,aM,aO,aP,aQ,aR,aS,wA,a0,wS,aZ,wM,S2,op,ef,cl,sq,reduceIte,j2,j3,j4,j5,j6,j7,j8,j9,y1,S1,h0,h2,h3,h4,aC,dV,dg,hd,lc]
  simp -implicitDefEqProofs only[op,ef,cl,sq,reduceIte,j2,j3,j4,j5,j6,j7,j8,j9,y1,S1]
  simp -implicitDefEqProofs (maxSteps:=1000000) (disch:=omega) only[aa,aM,aO,aP,aQ,aR,aS,wA,a0,wS,aZ,wM,S2,op,ef,cl,sq,reduceIte,j2,j3,j4,j5,j6,j7,j8,j9,y1,S1,h0,h2,h3,h4,aC,dV,dg,hd,lc]
  refine kJ _ _ _ _ _ _ _ (by simp -implicitDefEqProofs (maxSteps:=1000000) (disch:=omega) only[aa,aM,aO,aP,aQ,aR,aS,wA,a0,wS,aZ,wM,S2,op,ef,cl,sq,reduceIte,j2,j3,j4,j5,j6,j7,j8,j9,y1,S1,h0,h2,h3,h4,aC,dV,dg,hd,lc]) ?_
  simp -implicitDefEqProofs (maxSteps:=1000000) (disch:=omega) only[aa,aM,aO,aP,aQ,aR,aS,wA,a0,wS,aZ,wM,S2,op,ef,cl,sq,reduceIte,j2,j3,j4,j5,j6,j7,j8,j9,y1,S1,cu,h0,h2,h3,h4,aC,dV,dg,hd,lc,List.append_nil]
  refine ae _ _ _ _ _ _ _ _ (cd di[first+r]! di[first+(2*r+1)]! _) ?_
  rintro u H3⟨hu,hx⟩
  cases hu
  have hx:Ext H1 H3:=hx
  have hd:=hx.get hd
  have lc:=aW hd
  have al:=al.trans (aA (F:=fun _=>False) hx) (fun _ h=>h.elim)
  have xi:aY di[first+r]! di[first+(2*r+1)]! = decide (dz di[first+r]! di[first+(2*r+1)]!<0):=rfl
  by_cases c2:dz di[first+r]! di[first+(2*r+1)]!<0
  ·simp -implicitDefEqProofs (maxSteps:=1000000) (disch:=omega) only[aa,aM,aO,aP,aQ,aR,aS,wA,a0,wS,aZ,wM,S2,op,ef,cl,sq,reduceIte,j2,j3,j4,j5,j6,j7,j8,j9,y1,S1,h0,h2,h3,h4,aC,dV,dg,hd,lc,c2]
   refine⟨2*r+1,by omega,.i (.swp hd (by rw[swp_size];exact a7) ?_ al),rfl,by omega⟩
   rw[←hP]
   conv=>{ rhs;rw[siftDown,dif_neg dV,if_neg (dc (cf dg)),if_neg (jS (xi.trans (cg c2)))] }
  ·simp -implicitDefEqProofs (maxSteps:=1000000) (disch:=omega) only[aa,aM,aO,aP,aQ,aR,aS,wA,a0,wS,aZ,wM,S2,op,ef,cl,sq,reduceIte,j2,j3,j4,j5,j6,j7,j8,j9,y1,S1,h0,h2,h3,h4,aC,dV,dg,hd,lc,c2]
   rw[siftDown,dif_neg dV,if_neg (dc (cf dg)),if_pos (eZ (xi.trans (cf c2)))]at hP
   exact⟨rfl,di,hd,a7,hP,al⟩
set_option maxHeartbeats 8000000
theorem wQ2 {a:Nat}(h:a<9223372036854775808):IntKind.i64.wrap ((a:Int).tdiv 2)=((a/2:Nat):Int):=by rw[Int.tdiv_eq_ediv_of_nonneg (by omega),wrap64 (by omega)];omega
theorem Vo {a:Nat}(h:a<9223372036854775808):IntKind.i64.wrap ((a:Int)-1)=(a:Int)-1:=wrap64 (by omega)
theorem JJ {a:Nat}:(((a:Nat):Int)≥0)=True:=by simp
open Go.Sort in
theorem Ol (c n:Nat)(d:Array Nm)(a b:Nat)(H:af)(hn:d.size=n)(hc:H[c]?=some (.cells (aJ eN d.toList)))(hb:b≤n)(fZ:a<b)(hs:n<2305843009213693951) :
  W env (.call 133 [.ay c 0 n 2,.int .i64 a,.int .i64 b,.fn 61 []]) H (yB c n (heapSort aY d a b) H):=by
 refine W.bS rfl rfl rfl ?_
 simp -implicitDefEqProofs (maxSteps:=1000000) (disch:=omega) only[Fh,aa,aM,aO,aP,aQ,aR,aS,wA,a0,wS,aZ,wM,S2,op,ef,cl,sq,reduceIte,j2,j3,j4,j5,j6,j7,j8,j9,y1,S1,wQ2]
 refine W.cM 0 (fun (k:Nat) R H'=>At H' (fun H'=>SC c n H (fun di=>heapBuild aY (b-a) a k di=heapBuild aY (b-a) a ((b-a-1)/2+1) d) H')∧R 0=.ay c 0 n 2∧R 3=.fn 61 []∧R 8=.int .i64 a∧R 9=.int .i64 0∧R 10=.int .i64 (b-a:Nat)∧R 11=.int .i64 ((k:Int)-1)∧k≤b-a) (fun k=>k) ((b-a-1)/2+1)
  (fun R H'=>At H' (fun H'=>SC c n H (fun di=>di=heapBuild aY (b-a) a ((b-a-1)/2+1) d) H')∧R 0=.ay c 0 n 2∧R 3=.fn 61 []∧R 8=.int .i64 a∧R 9=.int .i64 0∧R 10=.int .i64 (b-a:Nat))
  ⟨.i ⟨d,hc,hn,rfl,bl.refl _ _⟩,rfl,rfl,rfl,rfl,rfl,by simp[nY],by omega⟩ ?_ ?_
 ·rintro k R H1⟨⟨di,hd,a7,hP,al⟩,h0,h3,h8,h9,aC,a6,hk⟩
  cases k with
  | zero =>
   rw[show(((0:Nat):Int)-1)=-1 from rfl]at a6
   simp -implicitDefEqProofs (maxSteps:=1000000) (disch:=omega) only[aa,aM,aO,aP,aQ,aR,aS,wA,a0,wS,aZ,wM,S2,op,ef,cl,sq,reduceIte,j2,j3,j4,j5,j6,j7,j8,j9,y1,S1,h0,h3,h8,h9,aC,a6]
   exact .i ⟨di,hd,a7,hP,al⟩
  | succ k =>
   rw[show(((k+1:Nat):Int)-1)=(k:Int) by omega]at a6
   simp -implicitDefEqProofs (maxSteps:=1000000) (disch:=omega) only[aa,aM,aO,aP,aQ,aR,aS,wA,a0,wS,aZ,wM,S2,op,ef,cl,sq,reduceIte,j2,j3,j4,j5,j6,j7,j8,j9,y1,S1,h0,h3,h8,h9,aC,a6,JJ]
   refine ae _ _ _ _ _ _ _ _ (FW c n di k (b-a) a _ a7 hd (by omega) (by omega) hs) ?_
   rintro u H2⟨hu,d2,cr,gX,rfl,dN⟩
   cases hu
   simp -implicitDefEqProofs (maxSteps:=1000000) (disch:=omega) only[Vo,op,ef,cl,sq,reduceIte,j2,j3,j4,j5,j6,j7,j8,j9,y1,S1,h0,h3,h8,h9,aC,a6]
   exact⟨k,by omega,.i ⟨_,cr,gX,hP,al.trans dN fun _ h=>.inl h⟩,rfl,by omega⟩
 ·rintro R H1⟨⟨di,hd,a7,hP,al⟩,h0,h3,h8,h9,aC⟩
  simp -implicitDefEqProofs (maxSteps:=1000000) (disch:=omega) only[aa,aM,aO,aP,aQ,aR,aS,wA,a0,wS,aZ,wM,S2,op,ef,cl,sq,reduceIte,j2,j3,j4,j5,j6,j7,j8,j9,y1,S1,h0,h3,h8,h9,aC]
  refine W.cF (fun (k:Nat) R H'=>At H' (fun H'=>SC c n H (fun di=>heapPop aY a k di=heapSort aY d a b) H')∧R 0=.ay c 0 n 2∧R 3=.fn 61 []∧R 8=.int .i64 a∧R 9=.int .i64 0∧R 10=.int .i64 (b-a:Nat)∧R 12=.int .i64 ((k:Int)-1)∧k≤b-a) (fun k=>k) (b-a) ⟨.i ⟨di,hd,a7,by rw[hP];rfl,al⟩,?_,?_,?_,?_,?_,?_,Nat.le_refl _⟩ ?_
  ·simp -implicitDefEqProofs only[op,ef,cl,sq,reduceIte,j2,j3,j4,j5,j6,j7,j8,j9,y1,S1,h0]
  ·simp -implicitDefEqProofs only[op,ef,cl,sq,reduceIte,j2,j3,j4,j5,j6,j7,j8,j9,y1,S1,h3]
  ·simp -implicitDefEqProofs only[op,ef,cl,sq,reduceIte,j2,j3,j4,j5,j6,j7,j8,j9,y1,S1,h8]
  ·simp -implicitDefEqProofs only[op,ef,cl,sq,reduceIte,j2,j3,j4,j5,j6,j7,j8,j9,y1,S1,h9]
  ·simp -implicitDefEqProofs only[op,ef,cl,sq,reduceIte,j2,j3,j4,j5,j6,j7,j8,j9,y1,S1,aC]
  ·simp -implicitDefEqProofs only[op,ef,cl,sq,reduceIte,j2,j3,j4,j5,j6,j7,j8,j9,y1,S1];omega
  rintro k R H1⟨⟨di,hd,a7,hP,al⟩,h0,h3,h8,h9,aC,aB,hk⟩
  have lc:=aW hd
  cases k with
  | zero =>
   rw[show(((0:Nat):Int)-1)=-1 from rfl]at aB
   simp -implicitDefEqProofs (maxSteps:=1000000) (disch:=omega) only[aa,aM,aO,aP,aQ,aR,aS,wA,a0,wS,aZ,wM,S2,op,ef,cl,sq,reduceIte,j2,j3,j4,j5,j6,j7,j8,j9,y1,S1,h0,h3,h8,h9,aC,aB]
   exact⟨rfl,di,hd,a7,hP,al⟩
  | succ k =>
   rw[show(((k+1:Nat):Int)-1)=(k:Int) by omega]at aB
   simp -implicitDefEqProofs (maxSteps:=1000000) (disch:=omega) only[aa,aM,aO,aP,aQ,aR,aS,wA,a0,wS,aZ,wM,S2,op,ef,cl,sq,reduceIte,j2,j3,j4,j5,j6,j7,j8,j9,y1,S1,h0,h3,h8,h9,aC,aB,JJ,hd,lc]
   obtain⟨d1,pf,yD,rfl,oQ⟩:=SC.swp (n:=n) (P:=fun x=>x=swp di a (a+k)) (x:=.cells (aJ eN (di.toList.set a di[a+k]!))) hd (by rw[Go.Sort.swp_size];exact a7) rfl al
   refine ae _ _ _ _ _ _ _ _ (FW c n _ 0 k a _ yD pf (by omega) (by omega) hs) ?_
   rintro u H2⟨hu,d2,cr,gX,rfl,dN⟩
   cases hu
   simp -implicitDefEqProofs (maxSteps:=1000000) (disch:=omega) only[Vo,op,ef,cl,sq,reduceIte,j2,j3,j4,j5,j6,j7,j8,j9,y1,S1,h0,h3,h8,h9,aC,aB]
   exact⟨k,by omega,.i ⟨_,cr,gX,hP,oQ.trans dN fun _ h=>.inl h⟩,rfl,by omega⟩
set_option maxHeartbeats 8000000
def S8 (p:Nat)(r:Nat×Nat×Nat)(H:af):Out→af→Prop:=fun o H'=>o=.val (.bN [.int .i64 r.1,.int .i64 r.2.1])∧H'[p]?=some (.cells [.int .i64 r.2.2])∧bl (fun x=>x=p) H H'
open Go.Sort in
theorem yE (c n p sw:Nat)(d:Array Nm)(a b:Nat)(H:af)(hn:d.size=n)(hc:H[c]?=some (.cells (aJ eN d.toList)))(hp:H[p]?=some (.cells [.int .i64 sw]))(ha:a<n)(hb:b<n)(hs:n<2305843009213693951)(Om:sw<1000) :
  W env (.call 162 [.ay c 0 n 2,.int .i64 a,.int .i64 b,.ptr p 0,.fn 61 []]) H (S8 p (order2 aY d a b sw) H):=by
 refine W.bS rfl rfl rfl ?_
 have hd:=hc
 have al:=bl.refl (fun x=>x=p) H
 simp -implicitDefEqProofs (maxSteps:=1000000) (disch:=omega) only[FG,aa,aM,aO,aP,aQ,aR,aS,wA,a0,wS,aZ,wM,S2,op,ef,cl,sq,reduceIte,j2,j3,j4,j5,j6,j7,j8,j9,y1,S1,hd]
 refine kJ _ _ _ _ _ _ _ (by simp -implicitDefEqProofs (maxSteps:=1000000) (disch:=omega) only[aa,aM,aO,aP,aQ,aR,aS,wA,a0,wS,aZ,wM,S2,op,ef,cl,sq,reduceIte,j2,j3,j4,j5,j6,j7,j8,j9,y1,S1,hd]) ?_
 simp -implicitDefEqProofs (maxSteps:=1000000) (disch:=omega) only[aa,aM,aO,aP,aQ,aR,aS,wA,a0,wS,aZ,wM,S2,op,ef,cl,sq,reduceIte,j2,j3,j4,j5,j6,j7,j8,j9,y1,S1,cu,hd,List.append_nil]
 refine ae _ _ _ _ _ _ _ _ (cd d[b]! d[a]! _) ?_
 rintro u H1⟨hu,hx⟩
 cases hu
 have hx:Ext H H1:=hx
 have hd:=hx.get hd
 have lc:=aW hd
 have al:=al.trans (aA (F:=fun _=>False) hx) (fun _ h=>h.elim)
 have lk:=hx.get hp
 have lp:=aW lk
 have cW:aY d[b]! d[a]! = decide (dz d[b]! d[a]!<0):=rfl
 by_cases c1:dz d[b]! d[a]!<0
 ·simp -implicitDefEqProofs (maxSteps:=1000000) (disch:=omega) only[aa,aM,aO,aP,aQ,aR,aS,wA,a0,wS,aZ,wM,S2,op,ef,cl,sq,reduceIte,j2,j3,j4,j5,j6,j7,j8,j9,y1,S1,hd,c1,lk,lp]
  refine⟨?_,?_,?_⟩
  ·rw[order2,if_pos (cW.trans (cg c1))]
  ·rw[order2,if_pos (cW.trans (cg c1))];exact bT lp
  ·exact al.set (.inl rfl) _
 ·simp -implicitDefEqProofs (maxSteps:=1000000) (disch:=omega) only[aa,aM,aO,aP,aQ,aR,aS,wA,a0,wS,aZ,wM,S2,op,ef,cl,sq,reduceIte,j2,j3,j4,j5,j6,j7,j8,j9,y1,S1,hd,c1,lk,lp]
  refine⟨?_,?_,?_⟩
  ·rw[order2,if_neg (by rw[cW,cf c1];simp)]
  ·rw[order2,if_neg (by rw[cW,cf c1];simp)];exact lk
  ·exact al
theorem yF (d:Array Nm){n a b sw:Nat}(ha:a<n)(hb:b<n):(Go.Sort.order2 aY d a b sw).1<n∧(Go.Sort.order2 aY d a b sw).2.1<n∧(Go.Sort.order2 aY d a b sw).2.2≤sw+1:=by
 unfold Go.Sort.order2
 split
 ·exact⟨hb,ha,Nat.le_refl _⟩
 ·exact⟨ha,hb,Nat.le_succ _⟩
def JK (p:Nat)(r:Nat×Nat)(H:af):Out→af→Prop:=fun o H'=>o=.val (.int .i64 r.1)∧H'[p]?=some (.cells [.int .i64 r.2])∧bl (fun x=>x=p) H H'
open Go.Sort in
theorem yG (c n p sw:Nat)(d:Array Nm)(a b e:Nat)(H:af)(hn:d.size=n)(hc:H[c]?=some (.cells (aJ eN d.toList)))(hp:H[p]?=some (.cells [.int .i64 sw]))(oS:¬c=p)(ha:a<n)(hb:b<n)(he:e<n)(hs:n<2305843009213693951)(Om:sw<900) :
  W env (.call 157 [.ay c 0 n 2,.int .i64 a,.int .i64 b,.int .i64 e,.ptr p 0,.fn 61 []]) H (fun o H'=>JK p (median aY d a b e sw) H o H'∧(median aY d a b e sw).1<n∧(median aY d a b e sw).2≤sw+3):=by
 refine W.bS rfl rfl rfl ?_
 simp -implicitDefEqProofs only[FC,op,ef,cl,sq,reduceIte,j2,j3,j4,j5,j6,j7,j8,j9,y1,S1]
 refine ae _ _ _ _ _ _ _ _ (yE c n p sw d a b _ hn hc hp ha hb hs (by omega)) ?_
 rintro u H1⟨hu,lk,oQ⟩
 cases hu
 have js:=oQ.get hc oS
 obtain⟨r1,Cu⟩:∃r,r=order2 aY d a b sw:=⟨_,rfl⟩
 obtain⟨q1,q2,q3⟩:=yF d (sw:=sw) ha hb
 rw[←Cu]at q1 q2 q3 lk ⊢
 simp -implicitDefEqProofs only[op,ef,cl,sq,reduceIte,j2,j3,j4,j5,j6,j7,j8,j9,y1,S1]
 refine ae _ _ _ _ _ _ _ _ (yE c n p r1.2.2 d r1.2.1 e _ hn js lk q2 he hs (by omega)) ?_
 rintro u H2⟨hu,lA,dN⟩
 cases hu
 have pw:=dN.get js oS
 obtain⟨r2,uw⟩:∃r,r=order2 aY d r1.2.1 e r1.2.2:=⟨_,rfl⟩
 obtain⟨q4,q5,q6⟩:=yF d (sw:=r1.2.2) q2 he
 rw[←uw]at q4 q5 q6 lA ⊢
 simp -implicitDefEqProofs only[op,ef,cl,sq,reduceIte,j2,j3,j4,j5,j6,j7,j8,j9,y1,S1]
 refine ae _ _ _ _ _ _ _ _ (yE c n p r2.2.2 d r1.1 r2.1 _ hn pw lA q1 q4 hs (by omega)) ?_
 rintro u H3⟨hu,JL,oT⟩
 cases hu
 obtain⟨q7,q8,q9⟩:=yF d (sw:=r2.2.2) q1 q4
 have e:median aY d a b e sw=((order2 aY d r1.1 r2.1 r2.2.2).2.1,(order2 aY d r1.1 r2.1 r2.2.2).2.2):=by rw[median,←Cu,←uw]
 rw[e]
 simp -implicitDefEqProofs only[op,ef,cl,sq,reduceIte,j2,j3,j4,j5,j6,j7,j8,j9,y1,S1]
 exact⟨⟨rfl,JL,(oQ.trans dN fun _ h=>.inl h).trans oT fun _ h=>.inl h⟩,q8,by omega⟩
open Go.Sort in
theorem yH (c n p sw:Nat)(d:Array Nm)(a:Nat)(H:af)(hn:d.size=n)(hc:H[c]?=some (.cells (aJ eN d.toList)))(hp:H[p]?=some (.cells [.int .i64 sw]))(oS:¬c=p)(ha:1≤a)(A8:a+1<n)(hs:n<2305843009213693951)(Om:sw<900) :
  W env (.call 156 [.ay c 0 n 2,.int .i64 a,.ptr p 0,.fn 61 []]) H (fun o H'=>JK p (medianAdjacent aY d a sw) H o H'∧(medianAdjacent aY d a sw).1<n∧(medianAdjacent aY d a sw).2≤sw+3):=by
 refine W.bS rfl rfl rfl ?_
 simp -implicitDefEqProofs (maxSteps:=1000000) (disch:=omega) only[FB,aa,aM,aO,aP,aQ,aR,aS,wA,a0,wS,aZ,wM,S2,op,ef,cl,sq,reduceIte,j2,j3,j4,j5,j6,j7,j8,j9,y1,S1]
 refine ae _ _ _ _ _ _ _ _ (yG c n p sw d (a-1) a (a+1) _ hn hc hp oS (by omega) (by omega) A8 hs Om) ?_
 rintro u H1⟨⟨hu,lk,oQ⟩,q1,q2⟩
 cases hu
 simp -implicitDefEqProofs only[op,ef,cl,sq,reduceIte,j2,j3,j4,j5,j6,j7,j8,j9,y1,S1]
 exact⟨⟨rfl,lk,oQ⟩,q1,q2⟩
theorem CD {a:Nat}(h:a<9223372036854775808):IntKind.i64.wrap ((a:Int).tdiv 4)=((a/4:Nat):Int):=by rw[Int.tdiv_eq_ediv_of_nonneg (by omega),wrap64 (by omega)];omega
theorem Vp {a:Nat}(h:a<9223372036854775808):IntKind.i64.wrap ((a:Int)*1)=((a*1:Nat):Int):=by rw[wrap64 (by omega)];omega
theorem CE {a:Nat}(h:a*2<9223372036854775808):IntKind.i64.wrap ((a:Int)*2)=((a*2:Nat):Int):=by rw[wrap64 (by omega)];omega
theorem Vq {a:Nat}(h:a*3<9223372036854775808):IntKind.i64.wrap ((a:Int)*3)=((a*3:Nat):Int):=by rw[wrap64 (by omega)];omega
def gw:Go.Sort.Hint→Int
 | .unknown=>0
 | .increasing=>1
 | .decreasing=>2
open Go.Sort in
theorem FX (c n:Nat)(d:Array Nm)(a b:Nat)(H:af)(hn:d.size=n)(hc:H[c]?=some (.cells (aJ eN d.toList)))(hb:b≤n)(fZ:a+12<b)(hs:n<1305843009213693951) :
  W env (.call 135 [.ay c 0 n 2,.int .i64 a,.int .i64 b,.fn 61 []]) H (fun o H'=>o=.val (.bN [.int .i64 (choosePivot aY d a b).1,.int .i64 (gw (choosePivot aY d a b).2)])∧Ext H H'):=by
 refine W.bS rfl rfl rfl ?_
 have h8:8≤b-a:=by omega
 have lc:=aW hc
 have oS:¬c=H.length:=by omega
 have mh:(H++[B.cells [T.int IntKind.i64 0]])[c]?=some (.cells (aJ eN d.toList)):=by rw[aV lc];exact hc
 have S9:(H++[B.cells [T.int IntKind.i64 0]])[H.length]?=some (.cells [.int .i64 ((0:Nat):Int)]):=aX rfl
 have fin:∀H2:af,bl (fun x=>x=H.length) (H++[B.cells [T.int IntKind.i64 0]]) H2→Ext H H2:=fun H2 hf=>mG fun x y hx=>hf.get (by rw[aV (aW hx)];exact hx) (by have:=aW hx;omega)
 by_cases uO:50≤b-a
 ·simp -implicitDefEqProofs (maxSteps:=1000000) (disch:=omega) only[Aa,aa,aM,aO,aP,aQ,aR,aS,wA,a0,wS,aZ,wM,S2,op,ef,cl,sq,reduceIte,j2,j3,j4,j5,j6,j7,j8,j9,y1,S1,CD,Vp,CE,Vq,h8,uO]
  refine ae _ _ _ _ _ _ _ _ (yH c n H.length 0 d _ _ hn mh S9 oS (by omega) (by omega) (by omega) (by omega)) ?_
  rintro u H1⟨⟨hu,lk,oQ⟩,q1,q2⟩
  cases hu
  obtain⟨ri,lG⟩:∃r,r=medianAdjacent aY d (a+(b-a)/4*1) 0:=⟨_,rfl⟩
  rw[←lG]at q1 q2 lk ⊢
  have js:=oQ.get mh oS
  simp -implicitDefEqProofs only[op,ef,cl,sq,reduceIte,j2,j3,j4,j5,j6,j7,j8,j9,y1,S1]
  refine ae _ _ _ _ _ _ _ _ (yH c n H.length ri.2 d _ _ hn js lk oS (by omega) (by omega) (by omega) (by omega)) ?_
  rintro u H2⟨⟨hu,lA,dN⟩,q3,q4⟩
  cases hu
  obtain⟨rj,Ta⟩:∃r,r=medianAdjacent aY d (a+(b-a)/4*2) ri.2:=⟨_,rfl⟩
  rw[←Ta]at q3 q4 lA ⊢
  have pw:=dN.get js oS
  simp -implicitDefEqProofs only[op,ef,cl,sq,reduceIte,j2,j3,j4,j5,j6,j7,j8,j9,y1,S1]
  refine ae _ _ _ _ _ _ _ _ (yH c n H.length rj.2 d _ _ hn pw lA oS (by omega) (by omega) (by omega) (by omega)) ?_
  rintro u H3⟨⟨hu,JL,oT⟩,q5,q6⟩
  cases hu
  obtain⟨rk,Tb⟩:∃r,r=medianAdjacent aY d (a+(b-a)/4*3) rj.2:=⟨_,rfl⟩
  rw[←Tb]at q5 q6 JL ⊢
  have Tc:=oT.get pw oS
  simp -implicitDefEqProofs only[op,ef,cl,sq,reduceIte,j2,j3,j4,j5,j6,j7,j8,j9,y1,S1]
  refine ae _ _ _ _ _ _ _ _ (yG c n H.length rk.2 d ri.1 rj.1 rk.1 _ hn Tc JL oS q1 q3 q5 (by omega) (by omega)) ?_
  rintro u H4⟨⟨hu,oU,xJ⟩,q7,q8⟩
  cases hu
  have e:choosePivot aY d a b=((median aY d ri.1 rj.1 rk.1 rk.2).1,if (median aY d ri.1 rj.1 rk.1 rk.2).2=0 then .increasing else if (median aY d ri.1 rj.1 rk.1 rk.2).2=12 then .decreasing else .unknown):=by
   simp -implicitDefEqProofs only[choosePivot,ge_iff_le,if_pos h8,if_pos uO,←lG,←Ta,←Tb]
  rw[e]
  have hx:=fin _ (((oQ.trans dN fun _ h=>.inl h).trans oT fun _ h=>.inl h).trans xJ fun _ h=>.inl h)
  generalize median aY d ri.1 rj.1 rk.1 rk.2=r at *
  obtain⟨m,sw⟩:=r
  simp only at oU ⊢
  by_cases s0:sw=0
  ·subst s0
   have e0:(((0:Nat):Int)==0)=true:=rfl
   simp -implicitDefEqProofs only[op,ef,cl,sq,reduceIte,j2,j3,j4,j5,j6,j7,j8,j9,y1,S1,oU,e0]
   exact⟨rfl,hx⟩
  have e0:(((sw:Nat):Int)==0)=false:=by simp;omega
  by_cases s1:sw=12
  ·subst s1
   have e1:(((12:Nat):Int)==12)=true:=rfl
   simp -implicitDefEqProofs only[op,ef,cl,sq,reduceIte,j2,j3,j4,j5,j6,j7,j8,j9,y1,S1,oU,e0,e1]
   exact⟨rfl,hx⟩
  have e1:(((sw:Nat):Int)==12)=false:=by simp;omega
  simp -implicitDefEqProofs only[op,ef,cl,sq,reduceIte,j2,j3,j4,j5,j6,j7,j8,j9,y1,S1,oU,e0,e1,s0,s1]
  exact⟨rfl,hx⟩
 ·simp -implicitDefEqProofs (maxSteps:=1000000) (disch:=omega) only[Aa,aa,aM,aO,aP,aQ,aR,aS,wA,a0,wS,aZ,wM,S2,op,ef,cl,sq,reduceIte,j2,j3,j4,j5,j6,j7,j8,j9,y1,S1,CD,Vp,CE,Vq,h8,uO]
  refine ae _ _ _ _ _ _ _ _ (yG c n H.length 0 d _ _ _ _ hn mh S9 oS (by omega) (by omega) (by omega) (by omega) (by omega)) ?_
  rintro u H4⟨⟨hu,oU,xJ⟩,q7,q8⟩
  cases hu
  have e:choosePivot aY d a b=((median aY d (a+(b-a)/4*1) (a+(b-a)/4*2) (a+(b-a)/4*3) 0).1,if (median aY d (a+(b-a)/4*1) (a+(b-a)/4*2) (a+(b-a)/4*3) 0).2=0 then .increasing else if (median aY d (a+(b-a)/4*1) (a+(b-a)/4*2) (a+(b-a)/4*3) 0).2=12 then .decreasing else .unknown):=by
   simp -implicitDefEqProofs only[choosePivot,ge_iff_le,if_pos h8,if_neg uO]
  rw[e]
  have hx:=fin _ xJ
  generalize median aY d (a+(b-a)/4*1) (a+(b-a)/4*2) (a+(b-a)/4*3) 0=r at *
  obtain⟨m,sw⟩:=r
  simp only at oU ⊢
  by_cases s0:sw=0
  ·subst s0
   have e0:(((0:Nat):Int)==0)=true:=rfl
   simp -implicitDefEqProofs only[op,ef,cl,sq,reduceIte,j2,j3,j4,j5,j6,j7,j8,j9,y1,S1,oU,e0]
   exact⟨rfl,hx⟩
  have e0:(((sw:Nat):Int)==0)=false:=by simp;omega
  by_cases s1:sw=12
  ·subst s1
   have e1:(((12:Nat):Int)==12)=true:=rfl
   simp -implicitDefEqProofs only[op,ef,cl,sq,reduceIte,j2,j3,j4,j5,j6,j7,j8,j9,y1,S1,oU,e0,e1]
   exact⟨rfl,hx⟩
  have e1:(((sw:Nat):Int)==12)=false:=by simp;omega
  simp -implicitDefEqProofs only[op,ef,cl,sq,reduceIte,j2,j3,j4,j5,j6,j7,j8,j9,y1,S1,oU,e0,e1,s0,s1]
  exact⟨rfl,hx⟩
set_option maxHeartbeats 8000000
open Go.Sort (bitsLen)
theorem FY {n k:Nat}(h:2^k≤n):(n/2^k).log2+k=n.log2:=by
 have h0:0<2^k:=Nat.two_pow_pos k
 have hn:n≠0:=by omega
 have hq:n/2^k≠0:=by have:=Nat.div_pos h h0;omega
 have h1:=Nat.log2_self_le hq
 have h2:=Nat.lt_log2_self (n:=n/2^k)
 refine((Nat.log2_eq_iff hn).2 ⟨?_,?_⟩).symm
 ·rw[Nat.pow_add];exact(Nat.le_div_iff_mul_le h0).1 h1
 ·rw[show(n/2^k).log2+k+1=((n/2^k).log2+1)+k by omega,Nat.pow_add];exact(Nat.div_lt_iff_lt_mul h0).1 h2
theorem xj {n k:Nat}(h:2^k≤n):bitsLen (n/2^k)+k=bitsLen n:=by
 have h0:0<2^k:=Nat.two_pow_pos k
 have hq:n/2^k≠0:=by have:=Nat.div_pos h h0;omega
 have:=FY h
 unfold bitsLen
 rw[if_neg hq,if_neg (by omega)]
 omega
theorem qa {n k:Nat}(h:n<2^k):bitsLen n≤k:=by
 unfold bitsLen
 split
 ·omega
 ·rename_i h0;have:=(Nat.log2_lt h0).2 h;omega
def tbl:Array UInt8:=#[0,1,2,2,3,3,3,3,4,4,4,4,4,4,4,4,5,5,5,5,5,5,5,5,5,5,5,5,5,5,5,5,6,6,6,6,6,6,6,6,6,6,6,6,6,6,6,6,6,6,6,6,6,6,6,6,6,6,6,6,6,6,6,6,7,7,7,7,7,7,7,7,7,7,7,7,7,7,7,7,7,7,7,7,7,7,7,7,7,7,7,7,7,7,7,7,7,7,7,7,7,7,7,7,7,7,7,7,7,7,7,7,7,7,7,7,7,7,7,7,7,7,7,7,7,7,7,7,8,8,8,8,8,8,8,8,8,8,8,8,8,8,8,8,8,8,8,8,8,8,8,8,8,8,8,8,8,8,8,8,8,8,8,8,8,8,8,8,8,8,8,8,8,8,8,8,8,8,8,8,8,8,8,8,8,8,8,8,8,8,8,8,8,8,8,8,8,8,8,8,8,8,8,8,8,8,8,8,8,8,8,8,8,8,8,8,8,8,8,8,8,8,8,8,8,8,8,8,8,8,8,8,8,8,8,8,8,8,8,8,8,8,8,8,8,8,8,8,8,8,8,8,8,8,8,8]
def Zg:Bool:=(List.range 256).all fun n=>match tbl[n]? with|some c=>c.toNat==bitsLen n|none=>false
theorem JM:Zg=true:=by decide +kernel
theorem yI {β:Type}{K:Option β→Prop}{n:Nat}(hn:n<256)(f:UInt8→β)(h:∀c:UInt8,c.toNat=bitsLen n→K (some (f c))):K (Option.map f tbl[n]?):=by
 have:=List.all_eq_true.1 JM n (List.mem_range.2 hn)
 split at this
 ·rename_i c hc
  rw[hc];exact h c (by simpa using this)
 ·cases this
theorem Td (n:Nat)(hn:n<16777216)(H:af):W env (.call 141 [.int .u64 n]) H (fun o H'=>o=.val (.int .i64 (bitsLen n))∧H'=H):=by
 refine W.bS rfl rfl rfl ?_
 have h1:¬(4294967296≤n):=by omega
 have fin:∀(m k:Nat),m<256→k≤16→IntKind.i64.wrap ((k:Int)+((bitsLen m:Nat):Int))=((bitsLen m+k:Nat):Int):=fun m k hm hk=>by
  have:=qa (n:=m) (k:=8) hm
  rw[wrap64 (by omega)];omega
 by_cases h2:65536≤n
 ·have e16:(n:Int).fdiv (2^(min (16:Int).toNat IntKind.u64.bits))=((n/65536:Nat):Int):=by
   show(n:Int).fdiv 65536=_
   rw[Int.fdiv_eq_ediv_of_nonneg _ (by decide)];omega
  have h3:¬(256≤n/65536):=by omega
  have Oj:=w7 (n:=n/65536) (by omega)
  have w16:IntKind.i64.wrap (0+16)=16:=by decide
  have:=fin (n/65536) 16 (by omega) (by omega)
  rw[show bitsLen (n/65536)+16=bitsLen n from xj (k:=16) h2]at this
  simp -implicitDefEqProofs only[tE,op,ef,cl,sq,reduceIte,j2,j3,j4,j5,j6,j7,j8,j9,y1,S1,h1,h2,e16,h3,Oj,w16,aa]
  refine yI (K:=kH env _ _ _ _ _ _ _ _) (by omega) _ fun ch CC=>?_
  have wc:IntKind.i64.wrap ((ch.toNat:Nat):Int)=((ch.toNat:Nat):Int):=wrap64 (by have:=ch.toNat_lt;omega)
  rw[CC]at wc
  simp -implicitDefEqProofs only[op,ef,cl,sq,reduceIte,j2,j3,j4,j5,j6,j7,j8,j9,y1,S1,CC,wc]
  exact congrArg (fun x=>Out.val (.int .i64 x)) this
 by_cases h3:256≤n
 ·have e8:(n:Int).fdiv (2^(min (8:Int).toNat IntKind.u64.bits))=((n/256:Nat):Int):=by
   show(n:Int).fdiv 256=_
   rw[Int.fdiv_eq_ediv_of_nonneg _ (by decide)];omega
  have Oj:=w7 (n:=n/256) (by omega)
  have w80:IntKind.i64.wrap (0+8)=8:=by decide
  have:=fin (n/256) 8 (by omega) (by omega)
  rw[show bitsLen (n/256)+8=bitsLen n from xj (k:=8) h3]at this
  simp -implicitDefEqProofs only[tE,op,ef,cl,sq,reduceIte,j2,j3,j4,j5,j6,j7,j8,j9,y1,S1,h1,h2,e8,h3,Oj,w80,aa]
  refine yI (K:=kH env _ _ _ _ _ _ _ _) (by omega) _ fun ch CC=>?_
  have wc:IntKind.i64.wrap ((ch.toNat:Nat):Int)=((ch.toNat:Nat):Int):=wrap64 (by have:=ch.toNat_lt;omega)
  rw[CC]at wc
  simp -implicitDefEqProofs only[op,ef,cl,sq,reduceIte,j2,j3,j4,j5,j6,j7,j8,j9,y1,S1,CC,wc]
  exact congrArg (fun x=>Out.val (.int .i64 x)) this
 ·have Oj:=w7 (n:=n) (by omega)
  have:=fin n 0 (by omega) (by omega)
  simp -implicitDefEqProofs only[tE,op,ef,cl,sq,reduceIte,j2,j3,j4,j5,j6,j7,j8,j9,y1,S1,h1,h2,h3,Oj,aa]
  refine yI (K:=kH env _ _ _ _ _ _ _ _) (by omega) _ fun ch CC=>?_
  have wc:IntKind.i64.wrap ((ch.toNat:Nat):Int)=((ch.toNat:Nat):Int):=wrap64 (by have:=ch.toNat_lt;omega)
  rw[CC]at wc
  simp -implicitDefEqProofs only[op,ef,cl,sq,reduceIte,j2,j3,j4,j5,j6,j7,j8,j9,y1,S1,CC,wc]
  exact congrArg (fun x=>Out.val (.int .i64 x)) this
theorem FZ (n:Nat)(hn:n<16777216)(H:af):W env (.call 118 [.int .u64 n]) H (fun o H'=>o=.val (.int .i64 (bitsLen n))∧H'=H):=by
 refine W.bS rfl rfl rfl ?_
 simp -implicitDefEqProofs only[z7,op,ef,cl,sq,reduceIte,j2,j3,j4,j5,j6,j7,j8,j9,y1,S1]
 refine ae _ _ _ _ _ _ _ _ (Td n hn _) ?_
 rintro u H1⟨hu,rfl⟩
 cases hu
 simp -implicitDefEqProofs only[op,ef,cl,sq,reduceIte,j2,j3,j4,j5,j6,j7,j8,j9,y1,S1]
theorem F4 (n:Nat)(hn:n<16777216)(H:af):W env (.call 154 [.int .i64 n]) H (fun o H'=>o=.val (.int .u64 ((1 <<< bitsLen n:Nat):Int))∧H'=H):=by
 refine W.bS rfl rfl rfl ?_
 have wu:=pn (n:=n) (by omega)
 simp -implicitDefEqProofs only[Fz,op,ef,cl,sq,reduceIte,j2,j3,j4,j5,j6,j7,j8,j9,y1,S1,wu]
 refine ae _ _ _ _ _ _ _ _ (FZ n hn _) ?_
 rintro u H1⟨hu,rfl⟩
 cases hu
 have hb:=qa (n:=n) (k:=24) hn
 have n0:¬(((bitsLen n:Nat):Int)<0):=by omega
 have e:IntKind.u64.wrap (1*2^(min ((bitsLen n:Nat):Int).toNat IntKind.u64.bits))=((1 <<< bitsLen n:Nat):Int):=by
  rw[Int.toNat_natCast,Nat.min_eq_left (by show bitsLen n≤64;omega),Nat.one_shiftLeft,Int.one_mul]
  have:(2:Nat)^bitsLen n≤2^24:=Nat.pow_le_pow_right (by decide) hb
  have h2:((2:Int)^bitsLen n)=((2^bitsLen n:Nat):Int):=by simp
  rw[h2]
  exact pn (by omega)
 simp -implicitDefEqProofs only[op,ef,cl,sq,reduceIte,j2,j3,j4,j5,j6,j7,j8,j9,y1,S1,n0,e]
set_option maxHeartbeats 8000000
open Go.Sort (bitsLen)
theorem LG (x:Int):IntKind.u64.wrap x=x%18446744073709551616:=by
 unfold IntKind.wrap
 simp -implicitDefEqProofs only[IntKind.signed,IntKind.bits]
 simp
theorem JN (r:UInt64):IntKind.u64.wrap ((r.toNat:Int)*2^(min (13:Int).toNat IntKind.u64.bits))=((r <<< 13).toNat:Int):=by
 rw[LG,UInt64.toNat_shiftLeft,Nat.shiftLeft_eq]
 show(r.toNat:Int)*8192%_=((r.toNat*8192%18446744073709551616:Nat):Int)
 omega
theorem JO (r:UInt64):IntKind.u64.wrap ((r.toNat:Int)*2^(min (17:Int).toNat IntKind.u64.bits))=((r <<< 17).toNat:Int):=by
 rw[LG,UInt64.toNat_shiftLeft,Nat.shiftLeft_eq]
 show(r.toNat:Int)*131072%_=((r.toNat*131072%18446744073709551616:Nat):Int)
 omega
theorem On (r:UInt64):(r.toNat:Int).fdiv (2^(min (7:Int).toNat IntKind.u64.bits))=((r >>> 7).toNat:Int):=by
 rw[UInt64.toNat_shiftRight,Nat.shiftRight_eq_div_pow]
 show(r.toNat:Int).fdiv 128=((r.toNat/128:Nat):Int)
 rw[Int.fdiv_eq_ediv_of_nonneg _ (by decide)];omega
theorem Te (r:UInt64):BitVec.ofInt IntKind.u64.bits (r.toNat:Int)=r.toBitVec:=by
 apply BitVec.eq_of_toNat_eq
 rw[BitVec.toNat_ofInt]
 have:=r.toNat_lt
 show((r.toNat:Int)%18446744073709551616).toNat=r.toNat
 omega
theorem Tf (r s:UInt64):IntKind.u64.wrap ((BitVec.ofInt IntKind.u64.bits (r.toNat:Int) ^^^ BitVec.ofInt IntKind.u64.bits (s.toNat:Int)).toNat:Int)=((r ^^^ s).toNat:Int):=by
 refine Eq.trans ?_ (pn (r ^^^ s).toNat_lt)
 rw[Te,Te]
 rfl
theorem Aj (r:UInt64)(k:Nat)(hk:k<18446744073709551616):IntKind.u64.wrap ((BitVec.ofInt IntKind.u64.bits (r.toNat:Int) &&& BitVec.ofInt IntKind.u64.bits (k:Int)).toNat:Int)=((r.toNat &&& k:Nat):Int):=by
 have h:(BitVec.ofInt IntKind.u64.bits (r.toNat:Int) &&& BitVec.ofInt IntKind.u64.bits (k:Int)).toNat=r.toNat &&& k:=by
  rw[BitVec.toNat_and,BitVec.toNat_ofInt,BitVec.toNat_ofInt]
  have:=r.toNat_lt
  have e1:((r.toNat:Int)%((2^IntKind.u64.bits:Nat):Int)).toNat=r.toNat:=by
   show((r.toNat:Int)%18446744073709551616).toNat=r.toNat
   omega
  have e2:((k:Int)%((2^IntKind.u64.bits:Nat):Int)).toNat=k:=by
   show((k:Int)%18446744073709551616).toNat=k
   omega
  rw[e1,e2]
 rw[h]
 exact pn (Nat.lt_of_le_of_lt Nat.and_le_right hk)
theorem LH (p:Nat)(r:UInt64)(H:af)(hp:H[p]?=some (.cells [.int .u64 r.toNat])) :
  W env (.call 155 [.ptr p 0]) H (fun o H'=>o=.val (.int .u64 (Go.Sort.xorNext r).toNat)∧H'[p]?=some (.cells [.int .u64 (Go.Sort.xorNext r).toNat])∧bl (fun x=>x=p) H H'):=by
 refine W.bS rfl rfl rfl ?_
 have lp:=aW hp
 have n13:¬((13:Int)<0):=by decide
 have n7:¬((7:Int)<0):=by decide
 have n17:¬((17:Int)<0):=by decide
 simp -implicitDefEqProofs only[JN,JO,On,Tf,FA,op,ef,cl,sq,reduceIte,j2,j3,j4,j5,j6,j7,j8,j9,y1,S1,hp,lp,S2,n13,n7,n17]
 exact⟨rfl,rfl,(((bl.refl (fun x=>x=p) _).set (.inl rfl) _).set (.inl rfl) _).set (.inl rfl) _⟩
theorem xk {n:Nat}(h:n≠0):1 <<< bitsLen n≤2*n:=by
 rw[Nat.one_shiftLeft,bitsLen,if_neg h,Nat.pow_succ]
 have:=Nat.log2_self_le h
 omega
def LI (a len md:Nat)(d:Array Nm):Nat→UInt64×Array Nm
 | 0=>(UInt64.ofNat len,d)
 | j+1=>Go.Sort.breakStep a len md (LI a len md d j) (a+len/4*2-1+j)
theorem Vr {a:Nat}(h:1≤a∧a<18446744073709551616):IntKind.u64.wrap ((a:Int)-1)=((a-1:Nat):Int):=by rw[uz (by omega)];omega
theorem wN {a:Nat}(h:a<9223372036854775808):IntKind.i64.wrap (a:Int)=(a:Int):=wrap64 (by omega)
open Go.Sort in
theorem JP (c n:Nat)(d:Array Nm)(a b:Nat)(H:af)(hn:d.size=n)(hc:H[c]?=some (.cells (aJ eN d.toList)))(hb:b≤n)(fZ:a+12<b)(hs:n<16777216) :
  W env (.call 134 [.ay c 0 n 2,.int .i64 a,.int .i64 b,.fn 61 []]) H (yB c n (breakPatterns d a b) H):=by
 refine W.bS rfl rfl rfl ?_
 have h8:8≤b-a:=by omega
 have lc:=aW hc
 obtain⟨len,hlen⟩:∃len,len=b-a:=⟨_,rfl⟩
 have wl:IntKind.u64.wrap ((len:Nat):Int)=(len:Int):=pn (by omega)
 rw[←hlen]at h8
 simp -implicitDefEqProofs (maxSteps:=1000000) (disch:=omega) only[Fi,aa,aM,aO,aP,aQ,aR,aS,wA,a0,wS,aZ,wM,S2,op,ef,cl,sq,reduceIte,j2,j3,j4,j5,j6,j7,j8,j9,y1,S1,CD,CE,←hlen,wl,h8]
 refine ae _ _ _ _ _ _ _ _ (F4 len (by omega) _) ?_
 rintro u H1⟨hu,rfl⟩
 cases hu
 obtain⟨md,Tg⟩:∃md,md=1 <<< bitsLen len:=⟨_,rfl⟩
 have MS:=xk (n:=len) (by omega)
 have JG:1≤1 <<< bitsLen len:=by rw[Nat.one_shiftLeft];exact Nat.one_le_two_pow
 rw[←Tg]at JG MS ⊢
 have hq:len/4*2≤len:=by omega
 obtain⟨ix,vM⟩:∃ix,ix=a+len/4*2-1:=⟨_,rfl⟩
 have ux:breakPatterns d a b=(LI a len md d 3).2:=by
  simp -implicitDefEqProofs only[breakPatterns,←hlen,ge_iff_le,if_pos h8,LI,←Tg,Nat.add_zero]
 simp -implicitDefEqProofs (maxSteps:=1000000) (disch:=omega) only[aa,aM,aO,aP,aQ,aR,aS,wA,a0,wS,aZ,wM,S2,op,ef,cl,sq,reduceIte,j2,j3,j4,j5,j6,j7,j8,j9,y1,S1,CD,CE,←vM]
 have js:(H++[B.cells [T.int IntKind.u64 len]])[c]?=some (.cells (aJ eN d.toList)):=by rw[aV lc];exact hc
 have lk:(H++[B.cells [T.int IntKind.u64 len]])[H.length]?=some (.cells [.int .u64 (UInt64.ofNat len).toNat]):=by
  rw[aX rfl,UInt64.toNat_ofNat_of_lt' (by show len<18446744073709551616;omega)]
 refine W.cF (fun (j:Nat) R H'=>At H' (fun H'=>∃d':Array Nm,H'[c]?=some (.cells (aJ eN d'.toList))∧d'.size=n∧d'=(LI a len md d j).2∧H'[H.length]?=some (.cells [.int .u64 (LI a len md d j).1.toNat])∧bl (fun x=>x=c∨x=H.length) (H++[B.cells [T.int IntKind.u64 len]]) H')∧R 0=.ay c 0 n 2∧R 1=.int .i64 a∧R 8=.int .i64 len∧R 9=.ptr H.length 0∧R 10=.int .u64 md∧R 11=.int .i64 (ix+j:Nat)∧j≤3) (fun j=>3-j) 0 ⟨.i ⟨d,js,hn,rfl,lk,bl.refl _ _⟩,rfl,rfl,rfl,rfl,rfl,rfl,by omega⟩ ?_
 rintro j R H1⟨⟨di,hd,a7,Th,hp,al⟩,h0,h1,JQ,h9,aC,a6,hj⟩
 by_cases hj3:j<3
 ·have hle:ix+j≤a+len/4*2+1:=by omega
  simp -implicitDefEqProofs (maxSteps:=1000000) (disch:=omega) only[aa,aM,aO,aP,aQ,aR,aS,wA,a0,wS,aZ,wM,S2,op,ef,cl,sq,reduceIte,j2,j3,j4,j5,j6,j7,j8,j9,y1,S1,CD,CE,h0,h1,JQ,h9,aC,a6,hle]
  refine ae _ _ _ _ _ _ _ _ (LH H.length _ _ hp) ?_
  rintro u H2⟨hu,lA,dN⟩
  cases hu
  have hd:=dN.get hd (by omega)
  have yJ:=aW hd
  obtain⟨r,hr⟩:∃r,r=xorNext (LI a len md d j).1:=⟨_,rfl⟩
  rw[←hr]at lA ⊢
  obtain⟨ot,JR⟩:∃ot,ot=r.toNat &&& (md-1):=⟨_,rfl⟩
  have hol:ot≤md-1:=by rw[JR];exact Nat.and_le_right
  have bR:LI a len md d (j+1)=(r,swp di (ix+j) (a+if ot≥len then ot-len else ot)):=by
   simp -implicitDefEqProofs only[LI,breakStep,←hr,←Th,←JR,←vM]
  have bF:¬(c=H.length):=by omega
  by_cases dV:len≤ot
  ·rw[if_pos dV]at bR
   simp -implicitDefEqProofs (maxSteps:=1000000) (disch:=omega) only[aa,aM,aO,aP,aQ,aR,aS,wA,a0,wS,aZ,wM,S2,op,ef,cl,sq,reduceIte,j2,j3,j4,j5,j6,j7,j8,j9,y1,S1,Vr,Aj,wN,←JR,h0,h1,JQ,h9,aC,a6,dV,hd,yJ]
   refine⟨j+1,by omega,.i ⟨swp di (ix+j) (a+(ot-len)),bT (by rw[List.length_set];exact yJ),by rw[swp_size];exact a7,by rw[bR],?_,((al.trans dN fun x h=>.inl (.inr h)).set (.inl (.inl rfl)) _).set (.inl (.inl rfl)) _⟩,rfl,by omega⟩
   rw[bh bF,bh bF,lA,bR]
  ·rw[if_neg dV]at bR
   simp -implicitDefEqProofs (maxSteps:=1000000) (disch:=omega) only[aa,aM,aO,aP,aQ,aR,aS,wA,a0,wS,aZ,wM,S2,op,ef,cl,sq,reduceIte,j2,j3,j4,j5,j6,j7,j8,j9,y1,S1,Vr,Aj,wN,←JR,h0,h1,JQ,h9,aC,a6,dV,hd,yJ]
   refine⟨j+1,by omega,.i ⟨swp di (ix+j) (a+ot),bT (by rw[List.length_set];exact yJ),by rw[swp_size];exact a7,by rw[bR],?_,((al.trans dN fun x h=>.inl (.inr h)).set (.inl (.inl rfl)) _).set (.inl (.inl rfl)) _⟩,rfl,by omega⟩
   rw[bh bF,bh bF,lA,bR]
 ·have JD:j=3:=by omega
  subst JD
  have hle:¬(ix+3≤a+len/4*2+1):=by omega
  simp -implicitDefEqProofs (maxSteps:=1000000) (disch:=omega) only[aa,aM,aO,aP,aQ,aR,aS,wA,a0,wS,aZ,wM,S2,op,ef,cl,sq,reduceIte,j2,j3,j4,j5,j6,j7,j8,j9,y1,S1,CD,CE,h0,h1,JQ,h9,aC,a6,hle]
  exact⟨rfl,di,hd,a7,by rw[ux,Th],(aA (F:=fun x=>x=c) (H:=H) (H':=H++[B.cells [T.int IntKind.u64 len]]) ⟨_,rfl⟩).trans al fun x h=>h.elim .inl fun e=>.inr (by omega)⟩
set_option maxHeartbeats 8000000
open Go.Sort in
theorem kV {p:Nm→Bool}{d:Array Nm}{i k:Nat}(h:1≤i):scanDown p d i k=if (decide (i≤k)&&p d[k]!)=true then scanDown p d i (k-1)else k:=by
 cases k with
 | zero=>rw[scanDown,if_neg (dc (cf (by omega)))]
 | succ k=>rw[scanDown];rfl
open Go.Sort in
theorem Oo {a i j si sj:Nat}{d:Array Nm}(hi:si=scanUp (fun x=>!aY d[a]! x) d j i)(hj:sj=scanDown (fun x=>aY d[a]! x) d si j):partEqLoop aY a i j d=if si>sj then(si,d)else if (sj-1)+1-(si+1)<j+1-i then partEqLoop aY a (si+1) (sj-1) (swp d si sj)else(si,d):=by
 subst hi;subst hj
 rw[partEqLoop]
 rfl
open Go.Sort in
theorem Ti (c n:Nat)(d:Array Nm)(a b pv:Nat)(H:af)(hn:d.size=n)(hc:H[c]?=some (.cells (aJ eN d.toList)))(hb:b≤n)(fZ:a<b)(lU:pv<n)(hs:n<2305843009213693951) :
  W env (.call 138 [.ay c 0 n 2,.int .i64 a,.int .i64 b,.int .i64 pv,.fn 61 []]) H (fun o H'=>o=.val (.int .i64 (partitionEqual aY d a b pv).1)∧SC c n H (fun x=>x=(partitionEqual aY d a b pv).2) H'):=by
 refine W.bS rfl rfl rfl ?_
 have hd:=hc
 have lc:=aW hd
 simp -implicitDefEqProofs (maxSteps:=1000000) (disch:=omega) only[Fl,aa,aM,aO,aP,aQ,aR,aS,wA,a0,wS,aZ,wM,S2,op,ef,cl,sq,reduceIte,j2,j3,j4,j5,j6,j7,j8,j9,y1,S1,hd,lc]
 obtain⟨d1,pf,yD,e1,oQ⟩:=SC.swp (n:=n) (P:=fun x=>x=swp d a pv) (x:=.cells (aJ eN (d.toList.set a d[pv]!))) hd (by rw[Go.Sort.swp_size];exact hn) rfl (bl.refl (fun x=>x=c) H)
 subst e1
 generalize ((H.set c (.cells (aJ eN (d.toList.set a d[pv]!)))).set c (.cells (aJ eN (swp d a pv).toList)))=H1 at *
 refine W.cM 0 (fun (q:Nat×Nat) R H'=>At H' (fun H'=>SC c n H (fun di=>partEqLoop aY a q.1 q.2 di=partitionEqual aY d a b pv) H')∧R 0=.ay c 0 n 2∧R 1=.int .i64 a∧R 4=.fn 61 []∧R 11=.int .i64 q.1∧R 12=.int .i64 q.2∧a<q.1∧q.2<n∧q.1≤n) (fun q=>q.2+1-q.1) (a+1,b-1)
  (fun R H'=>At H' (fun H'=>SC c n H (fun di=>di=(partitionEqual aY d a b pv).2) H')∧R 11=.int .i64 (partitionEqual aY d a b pv).1) ⟨.i ⟨_,pf,yD,rfl,oQ⟩,rfl,rfl,rfl,rfl,rfl,by omega,by simp only;omega,by simp only;omega⟩ ?_ ?_
 ·rintro⟨i,j⟩ R H1 ⟨⟨di,hd,a7,hP,al⟩,h0,h1,h4,a6,aB,FV,x8,iB⟩
  simp only at hP a6 aB FV x8 iB ⊢
  simp -implicitDefEqProofs only[op,ef,cl,sq,reduceIte,j2,j3,j4,j5,j6,j7,j8,j9,y1,S1,h0,h1,h4,a6,aB]
  obtain⟨si,oV⟩:∃si,si=scanUp (fun x=>!aY di[a]! x) di j i:=⟨_,rfl⟩
  refine W.cM 2 (fun (k:Nat) R H'=>At H' (fun H'=>H'[c]?=some (.cells (aJ eN di.toList))∧bl (fun x=>x=c) H H')∧R 0=.ay c 0 n 2∧R 1=.int .i64 a∧R 4=.fn 61 []∧R 11=.int .i64 k∧R 12=.int .i64 j∧i≤k∧k≤n∧scanUp (fun x=>!aY di[a]! x) di j k=si) (fun k=>j+1-k) i
   (fun R H'=>At H' (fun H'=>H'[c]?=some (.cells (aJ eN di.toList))∧bl (fun x=>x=c) H H')∧R 0=.ay c 0 n 2∧R 1=.int .i64 a∧R 4=.fn 61 []∧R 11=.int .i64 si∧R 12=.int .i64 j∧i≤si∧si≤n) ⟨.i ⟨hd,al⟩,h0,h1,h4,a6,aB,Nat.le_refl _,iB,oV.symm⟩ ?_ ?_
  ·rintro k R H2⟨⟨hd,al⟩,h0,h1,h4,a6,aB,re,oO,hk⟩
   have lc:=aW hd
   by_cases ey:k≤j
   ·simp -implicitDefEqProofs (maxSteps:=1000000) (disch:=omega) only[aa,aM,aO,aP,aQ,aR,aS,wA,a0,wS,aZ,wM,S2,op,ef,cl,sq,reduceIte,j2,j3,j4,j5,j6,j7,j8,j9,y1,S1,h0,h1,h4,a6,aB,ey,hd,lc]
    refine kJ _ _ _ _ _ _ _ (by simp -implicitDefEqProofs (maxSteps:=1000000) (disch:=omega) only[aa,aM,aO,aP,aQ,aR,aS,wA,a0,wS,aZ,wM,S2,op,ef,cl,sq,reduceIte,j2,j3,j4,j5,j6,j7,j8,j9,y1,S1,h0,h1,h4,a6,aB,ey,hd,lc]) ?_
    simp -implicitDefEqProofs (maxSteps:=1000000) (disch:=omega) only[aa,aM,aO,aP,aQ,aR,aS,wA,a0,wS,aZ,wM,S2,op,ef,cl,sq,reduceIte,j2,j3,j4,j5,j6,j7,j8,j9,y1,S1,cu,h0,h1,h4,a6,aB,ey,hd,lc,List.append_nil]
    refine ae _ _ _ _ _ _ _ _ (cd di[a]! di[k]! _) ?_
    rintro u H3⟨hu,hx⟩
    cases hu
    have hx:Ext H2 H3:=hx
    have hd:=hx.get hd
    have lc:=aW hd
    have al:=al.trans (aA (F:=fun _=>False) hx) (fun _ h=>h.elim)
    have cW:aY di[a]! di[k]! = decide (dz di[a]! di[k]!<0):=rfl
    by_cases c1:dz di[a]! di[k]!<0
    ·simp -implicitDefEqProofs (maxSteps:=1000000) (disch:=omega) only[aa,aM,aO,aP,aQ,aR,aS,wA,a0,wS,aZ,wM,S2,op,ef,cl,sq,reduceIte,j2,j3,j4,j5,j6,j7,j8,j9,y1,S1,h0,h1,h4,a6,aB,ey,c1]
     rw[scanUp,if_neg (dI (by rw[cW,cg c1];rfl))]at hk
     subst hk
     exact⟨.i ⟨hd,al⟩,rfl,re,oO⟩
    ·simp -implicitDefEqProofs (maxSteps:=1000000) (disch:=omega) only[aa,aM,aO,aP,aQ,aR,aS,wA,a0,wS,aZ,wM,S2,op,ef,cl,sq,reduceIte,j2,j3,j4,j5,j6,j7,j8,j9,y1,S1,h0,h1,h4,a6,aB,ey,c1]
     rw[scanUp,if_pos (fA (cg ey) (eZ (cW.trans (cf c1))))]at hk
     exact⟨k+1,by omega,.i ⟨hd,al⟩,rfl,by omega,by omega,hk⟩
   ·simp -implicitDefEqProofs (maxSteps:=1000000) (disch:=omega) only[op,ef,cl,sq,reduceIte,j2,j3,j4,j5,j6,j7,j8,j9,y1,S1,h0,h1,h4,a6,aB,ey]
    simp -implicitDefEqProofs only[op,ef,cl,sq,reduceIte,j2,j3,j4,j5,j6,j7,j8,j9,y1,S1,h0,h1,h4,a6,aB,ey]
    rw[scanUp,if_neg (dc (cf ey))]at hk
    subst hk
    exact⟨.i ⟨hd,al⟩,rfl,re,oO⟩
  ·rintro R H2⟨⟨hd,al⟩,h0,h1,h4,a6,aB,yK,F5⟩
   simp -implicitDefEqProofs only[op,ef,cl,sq,reduceIte,j2,j3,j4,j5,j6,j7,j8,j9,y1,S1,h0,h1,h4,a6,aB]
   obtain⟨sj,sz⟩:∃sj,sj=scanDown (fun x=>aY di[a]! x) di si j:=⟨_,rfl⟩
   refine W.cM 4 (fun (k:Nat) R H'=>At H' (fun H'=>H'[c]?=some (.cells (aJ eN di.toList))∧bl (fun x=>x=c) H H')∧R 0=.ay c 0 n 2∧R 1=.int .i64 a∧R 4=.fn 61 []∧R 11=.int .i64 si∧R 12=.int .i64 k∧k≤j∧scanDown (fun x=>aY di[a]! x) di si k=sj) (fun k=>k) j
    (fun R H'=>At H' (fun H'=>H'[c]?=some (.cells (aJ eN di.toList))∧bl (fun x=>x=c) H H')∧R 0=.ay c 0 n 2∧R 1=.int .i64 a∧R 4=.fn 61 []∧R 11=.int .i64 si∧R 12=.int .i64 sj∧sj≤j) ⟨.i ⟨hd,al⟩,h0,h1,h4,a6,aB,Nat.le_refl _,sz.symm⟩ ?_ ?_
   ·rintro k R H3⟨⟨hd,al⟩,h0,h1,h4,a6,aB,ey,hk⟩
    have lc:=aW hd
    rw[kV (by omega)]at hk
    by_cases bO:si≤k
    ·simp -implicitDefEqProofs (maxSteps:=1000000) (disch:=omega) only[aa,aM,aO,aP,aQ,aR,aS,wA,a0,wS,aZ,wM,S2,op,ef,cl,sq,reduceIte,j2,j3,j4,j5,j6,j7,j8,j9,y1,S1,h0,h1,h4,a6,aB,bO,hd,lc]
     refine kJ _ _ _ _ _ _ _ (by simp -implicitDefEqProofs (maxSteps:=1000000) (disch:=omega) only[aa,aM,aO,aP,aQ,aR,aS,wA,a0,wS,aZ,wM,S2,op,ef,cl,sq,reduceIte,j2,j3,j4,j5,j6,j7,j8,j9,y1,S1,h0,h1,h4,a6,aB,bO,hd,lc]) ?_
     simp -implicitDefEqProofs (maxSteps:=1000000) (disch:=omega) only[aa,aM,aO,aP,aQ,aR,aS,wA,a0,wS,aZ,wM,S2,op,ef,cl,sq,reduceIte,j2,j3,j4,j5,j6,j7,j8,j9,y1,S1,cu,h0,h1,h4,a6,aB,bO,hd,lc,List.append_nil]
     refine ae _ _ _ _ _ _ _ _ (cd di[a]! di[k]! _) ?_
     rintro u H4⟨hu,hx⟩
     cases hu
     have hx:Ext H3 H4:=hx
     have hd:=hx.get hd
     have lc:=aW hd
     have al:=al.trans (aA (F:=fun _=>False) hx) (fun _ h=>h.elim)
     have cW:aY di[a]! di[k]! = decide (dz di[a]! di[k]!<0):=rfl
     by_cases c1:dz di[a]! di[k]!<0
     ·simp -implicitDefEqProofs (maxSteps:=1000000) (disch:=omega) only[aa,aM,aO,aP,aQ,aR,aS,wA,a0,wS,aZ,wM,S2,op,ef,cl,sq,reduceIte,j2,j3,j4,j5,j6,j7,j8,j9,y1,S1,h0,h1,h4,a6,aB,bO,c1]
      rw[if_pos (fA (cg bO) (cW.trans (cg c1)))]at hk
      exact⟨k-1,by omega,.i ⟨hd,al⟩,rfl,by omega,hk⟩
     ·simp -implicitDefEqProofs (maxSteps:=1000000) (disch:=omega) only[aa,aM,aO,aP,aQ,aR,aS,wA,a0,wS,aZ,wM,S2,op,ef,cl,sq,reduceIte,j2,j3,j4,j5,j6,j7,j8,j9,y1,S1,h0,h1,h4,a6,aB,bO,c1]
      rw[if_neg (dI (cW.trans (cf c1)))]at hk
      subst hk
      exact⟨.i ⟨hd,al⟩,rfl,ey⟩
    ·simp -implicitDefEqProofs only[op,ef,cl,sq,reduceIte,j2,j3,j4,j5,j6,j7,j8,j9,y1,S1,h0,h1,h4,a6,aB,bO]
     rw[if_neg (dc (cf bO))]at hk
     subst hk
     exact⟨.i ⟨hd,al⟩,rfl,ey⟩
   ·rintro R H3⟨⟨hd,al⟩,h0,h1,h4,a6,aB,F6⟩
    have lc:=aW hd
    rw[Oo oV sz]at hP
    by_cases jZ:sj<si
    ·rw[if_pos jZ]at hP
     simp -implicitDefEqProofs only[op,ef,cl,sq,reduceIte,j2,j3,j4,j5,j6,j7,j8,j9,y1,S1,h0,h1,h4,a6,aB,jZ]
     exact⟨.i ⟨di,hd,a7,by rw[←hP],al⟩,by rw[←hP]⟩
    ·rw[if_neg jZ,if_pos (by omega)]at hP
     simp -implicitDefEqProofs (maxSteps:=1000000) (disch:=omega) only[aa,aM,aO,aP,aQ,aR,aS,wA,a0,wS,aZ,wM,S2,op,ef,cl,sq,reduceIte,j2,j3,j4,j5,j6,j7,j8,j9,y1,S1,h0,h1,h4,a6,aB,jZ,hd,lc]
     exact⟨(si+1,sj-1),by simp only;omega,.i (.swp hd (by rw[swp_size];exact a7) hP al),rfl,rfl,by simp only;omega,by simp only;omega,by simp only;omega⟩
 ·rintro R H1⟨⟨di,hd,a7,hP,al⟩,a6⟩
  simp -implicitDefEqProofs only[op,ef,cl,sq,reduceIte,j2,j3,j4,j5,j6,j7,j8,j9,y1,S1,a6]
  exact⟨di,hd,a7,hP,al⟩
set_option maxHeartbeats 8000000
open Go.Sort in
theorem JS {a i j si sj:Nat}{d:Array Nm}(hi:si=scanUp (fun x=>aY x d[a]!) d j i)(hj:sj=scanDown (fun x=>!aY x d[a]!) d si j):partLoop aY a i j d=if si>sj then(sj,d)else if (sj-1)+1-(si+1)<j+1-i then partLoop aY a (si+1) (sj-1) (swp d si sj)else(sj,d):=by
 subst hi;subst hj
 rw[partLoop]
 rfl
open Go.Sort in
theorem Oq (c n:Nat)(d:Array Nm)(a b pv:Nat)(H:af)(hn:d.size=n)(hc:H[c]?=some (.cells (aJ eN d.toList)))(hb:b≤n)(fZ:a<b)(lU:pv<n)(hs:n<2305843009213693951) :
  W env (.call 139 [.ay c 0 n 2,.int .i64 a,.int .i64 b,.int .i64 pv,.fn 61 []]) H (fun o H'=>o=.val (.bN [.int .i64 (partition aY d a b pv).1,.bool (partition aY d a b pv).2.1])∧SC c n H (fun x=>x=(partition aY d a b pv).2.2) H'):=by
 refine W.bS rfl rfl rfl ?_
 have hd:=hc
 have lc:=aW hd
 simp -implicitDefEqProofs (maxSteps:=1000000) (disch:=omega) only[Fm,aa,aM,aO,aP,aQ,aR,aS,wA,a0,wS,aZ,wM,S2,op,ef,cl,sq,reduceIte,j2,j3,j4,j5,j6,j7,j8,j9,y1,S1,hd,lc]
 obtain⟨d1,pf,yD,e1,oQ⟩:=SC.swp (n:=n) (P:=fun x=>x=swp d a pv) (x:=.cells (aJ eN (d.toList.set a d[pv]!))) hd (by rw[Go.Sort.swp_size];exact hn) rfl (bl.refl (fun x=>x=c) H)
 subst e1
 generalize ((H.set c (.cells (aJ eN (d.toList.set a d[pv]!)))).set c (.cells (aJ eN (swp d a pv).toList)))=H1 at *
 have hd:=pf
 have al:=oQ
 obtain⟨si,oV⟩:∃si,si=scanUp (fun x=>aY x (swp d a pv)[a]!) (swp d a pv) (b-1) (a+1):=⟨_,rfl⟩
 refine W.cM 0 (fun (k:Nat) R H'=>At H' (fun H'=>H'[c]?=some (.cells (aJ eN (swp d a pv).toList))∧bl (fun x=>x=c) H H')∧R 0=.ay c 0 n 2∧R 1=.int .i64 a∧R 4=.fn 61 []∧R 12=.int .i64 k∧R 13=.int .i64 ((b-1):Nat)∧(a+1)≤k∧k≤n∧scanUp (fun x=>aY x (swp d a pv)[a]!) (swp d a pv) ((b-1)) k=si) (fun k=>(b-1)+1-k) ((a+1))
  (fun R H'=>At H' (fun H'=>H'[c]?=some (.cells (aJ eN (swp d a pv).toList))∧bl (fun x=>x=c) H H')∧R 0=.ay c 0 n 2∧R 1=.int .i64 a∧R 4=.fn 61 []∧R 12=.int .i64 si∧R 13=.int .i64 ((b-1):Nat)∧(a+1)≤si∧si≤n) ⟨.i ⟨hd,al⟩,rfl,rfl,rfl,rfl,rfl,Nat.le_refl _,by omega,oV.symm⟩ ?_ ?_
 ·rintro k R H2⟨⟨hd,al⟩,h0,h1,h4,aB,bj,re,oO,hk⟩
  have lc:=aW hd
  by_cases ey:k≤(b-1)
  ·simp -implicitDefEqProofs (maxSteps:=1000000) (disch:=omega) only[aa,aM,aO,aP,aQ,aR,aS,wA,a0,wS,aZ,wM,S2,op,ef,cl,sq,reduceIte,j2,j3,j4,j5,j6,j7,j8,j9,y1,S1,h0,h1,h4,aB,bj,ey,hd,lc]
   refine kJ _ _ _ _ _ _ _ (by simp -implicitDefEqProofs (maxSteps:=1000000) (disch:=omega) only[aa,aM,aO,aP,aQ,aR,aS,wA,a0,wS,aZ,wM,S2,op,ef,cl,sq,reduceIte,j2,j3,j4,j5,j6,j7,j8,j9,y1,S1,h0,h1,h4,aB,bj,ey,hd,lc]) ?_
   simp -implicitDefEqProofs (maxSteps:=1000000) (disch:=omega) only[aa,aM,aO,aP,aQ,aR,aS,wA,a0,wS,aZ,wM,S2,op,ef,cl,sq,reduceIte,j2,j3,j4,j5,j6,j7,j8,j9,y1,S1,cu,h0,h1,h4,aB,bj,ey,hd,lc,List.append_nil]
   refine ae _ _ _ _ _ _ _ _ (cd (swp d a pv)[k]! (swp d a pv)[a]! _) ?_
   rintro u H3⟨hu,hx⟩
   cases hu
   have hx:Ext H2 H3:=hx
   have hd:=hx.get hd
   have lc:=aW hd
   have al:=al.trans (aA (F:=fun _=>False) hx) (fun _ h=>h.elim)
   have cW:aY (swp d a pv)[k]! (swp d a pv)[a]! = decide (dz (swp d a pv)[k]! (swp d a pv)[a]!<0):=rfl
   by_cases c1:dz (swp d a pv)[k]! (swp d a pv)[a]!<0
   ·simp -implicitDefEqProofs (maxSteps:=1000000) (disch:=omega) only[aa,aM,aO,aP,aQ,aR,aS,wA,a0,wS,aZ,wM,S2,op,ef,cl,sq,reduceIte,j2,j3,j4,j5,j6,j7,j8,j9,y1,S1,h0,h1,h4,aB,bj,ey,c1]
    rw[scanUp,if_pos (fA (cg ey) (cW.trans (cg c1)))]at hk
    exact⟨k+1,by omega,.i ⟨hd,al⟩,rfl,by omega,by omega,hk⟩
   ·simp -implicitDefEqProofs (maxSteps:=1000000) (disch:=omega) only[aa,aM,aO,aP,aQ,aR,aS,wA,a0,wS,aZ,wM,S2,op,ef,cl,sq,reduceIte,j2,j3,j4,j5,j6,j7,j8,j9,y1,S1,h0,h1,h4,aB,bj,ey,c1]
    rw[scanUp,if_neg (dI (cW.trans (cf c1)))]at hk
    subst hk
    exact⟨.i ⟨hd,al⟩,rfl,re,oO⟩
  ·simp -implicitDefEqProofs only[op,ef,cl,sq,reduceIte,j2,j3,j4,j5,j6,j7,j8,j9,y1,S1,h0,h1,h4,aB,bj,ey]
   rw[scanUp,if_neg (dc (cf ey))]at hk
   subst hk
   exact⟨.i ⟨hd,al⟩,rfl,re,oO⟩
 ·rintro R H2⟨⟨hd,al⟩,h0,h1,h4,aB,bj,yK,F5⟩
  simp -implicitDefEqProofs only[op,ef,cl,sq,reduceIte,j2,j3,j4,j5,j6,j7,j8,j9,y1,S1,h0,h1,h4,aB,bj]
  obtain⟨sj,sz⟩:∃sj,sj=scanDown (fun x=>!aY x (swp d a pv)[a]!) (swp d a pv) si (b-1):=⟨_,rfl⟩
  refine W.cM 2 (fun (k:Nat) R H'=>At H' (fun H'=>H'[c]?=some (.cells (aJ eN (swp d a pv).toList))∧bl (fun x=>x=c) H H')∧R 0=.ay c 0 n 2∧R 1=.int .i64 a∧R 4=.fn 61 []∧R 12=.int .i64 si∧R 13=.int .i64 k∧k≤(b-1)∧scanDown (fun x=>!aY x (swp d a pv)[a]!) (swp d a pv) si k=sj) (fun k=>k) ((b-1))
   (fun R H'=>At H' (fun H'=>H'[c]?=some (.cells (aJ eN (swp d a pv).toList))∧bl (fun x=>x=c) H H')∧R 0=.ay c 0 n 2∧R 1=.int .i64 a∧R 4=.fn 61 []∧R 12=.int .i64 si∧R 13=.int .i64 sj∧sj≤(b-1)) ⟨.i ⟨hd,al⟩,h0,h1,h4,aB,bj,Nat.le_refl _,sz.symm⟩ ?_ ?_
  ·rintro k R H3⟨⟨hd,al⟩,h0,h1,h4,aB,bj,ey,hk⟩
   have lc:=aW hd
   rw[kV (by omega)]at hk
   by_cases bO:si≤k
   ·simp -implicitDefEqProofs (maxSteps:=1000000) (disch:=omega) only[aa,aM,aO,aP,aQ,aR,aS,wA,a0,wS,aZ,wM,S2,op,ef,cl,sq,reduceIte,j2,j3,j4,j5,j6,j7,j8,j9,y1,S1,h0,h1,h4,aB,bj,bO,hd,lc]
    refine kJ _ _ _ _ _ _ _ (by simp -implicitDefEqProofs (maxSteps:=1000000) (disch:=omega) only[aa,aM,aO,aP,aQ,aR,aS,wA,a0,wS,aZ,wM,S2,op,ef,cl,sq,reduceIte,j2,j3,j4,j5,j6,j7,j8,j9,y1,S1,h0,h1,h4,aB,bj,bO,hd,lc]) ?_
    simp -implicitDefEqProofs (maxSteps:=1000000) (disch:=omega) only[aa,aM,aO,aP,aQ,aR,aS,wA,a0,wS,aZ,wM,S2,op,ef,cl,sq,reduceIte,j2,j3,j4,j5,j6,j7,j8,j9,y1,S1,cu,h0,h1,h4,aB,bj,bO,hd,lc,List.append_nil]
    refine ae _ _ _ _ _ _ _ _ (cd (swp d a pv)[k]! (swp d a pv)[a]! _) ?_
    rintro u H4⟨hu,hx⟩
    cases hu
    have hx:Ext H3 H4:=hx
    have hd:=hx.get hd
    have lc:=aW hd
    have al:=al.trans (aA (F:=fun _=>False) hx) (fun _ h=>h.elim)
    have cW:aY (swp d a pv)[k]! (swp d a pv)[a]! = decide (dz (swp d a pv)[k]! (swp d a pv)[a]!<0):=rfl
    by_cases c1:dz (swp d a pv)[k]! (swp d a pv)[a]!<0
    ·simp -implicitDefEqProofs (maxSteps:=1000000) (disch:=omega) only[aa,aM,aO,aP,aQ,aR,aS,wA,a0,wS,aZ,wM,S2,op,ef,cl,sq,reduceIte,j2,j3,j4,j5,j6,j7,j8,j9,y1,S1,h0,h1,h4,aB,bj,bO,c1]
     rw[if_neg (dI (by rw[cW,cg c1];rfl))]at hk
     subst hk
     exact⟨.i ⟨hd,al⟩,rfl,ey⟩
    ·simp -implicitDefEqProofs (maxSteps:=1000000) (disch:=omega) only[aa,aM,aO,aP,aQ,aR,aS,wA,a0,wS,aZ,wM,S2,op,ef,cl,sq,reduceIte,j2,j3,j4,j5,j6,j7,j8,j9,y1,S1,h0,h1,h4,aB,bj,bO,c1]
     rw[if_pos (fA (cg bO) (eZ (cW.trans (cf c1))))]at hk
     exact⟨k-1,by omega,.i ⟨hd,al⟩,rfl,by omega,hk⟩
   ·simp -implicitDefEqProofs only[op,ef,cl,sq,reduceIte,j2,j3,j4,j5,j6,j7,j8,j9,y1,S1,h0,h1,h4,aB,bj,bO]
    rw[if_neg (dc (cf bO))]at hk
    subst hk
    exact⟨.i ⟨hd,al⟩,rfl,ey⟩
  ·rintro R H3⟨⟨hd,al⟩,h0,h1,h4,aB,bj,F6⟩
   have lc:=aW hd
   by_cases jZ:sj<si
   ·have e:partition aY d a b pv=(sj,true,swp (swp d a pv) sj a):=by
     simp -implicitDefEqProofs only[partition,←oV,←sz,gt_iff_lt,if_pos jZ]
    rw[e]
    simp -implicitDefEqProofs (maxSteps:=1000000) (disch:=omega) only[aa,aM,aO,aP,aQ,aR,aS,wA,a0,wS,aZ,wM,S2,op,ef,cl,sq,reduceIte,j2,j3,j4,j5,j6,j7,j8,j9,y1,S1,h0,h1,h4,aB,bj,jZ,hd,lc]
    exact .swp hd (by rw[swp_size];exact yD) rfl al
   ·obtain⟨r,hr⟩:∃r,r=partLoop aY a (si+1) (sj-1) (swp (swp d a pv) si sj):=⟨_,rfl⟩
    have e:partition aY d a b pv=(r.1,false,swp r.2 r.1 a):=by
     simp -implicitDefEqProofs only[partition,←oV,←sz,gt_iff_lt,if_neg jZ,←hr]
    rw[e]
    simp -implicitDefEqProofs (maxSteps:=1000000) (disch:=omega) only[aa,aM,aO,aP,aQ,aR,aS,wA,a0,wS,aZ,wM,S2,op,ef,cl,sq,reduceIte,j2,j3,j4,j5,j6,j7,j8,j9,y1,S1,h0,h1,h4,aB,bj,jZ,hd,lc]
    obtain⟨d2,cr,gX,e2,dN⟩:=SC.swp (n:=n) (P:=fun x=>x=swp (swp d a pv) si sj) (x:=.cells (aJ eN ((swp d a pv).toList.set si (swp d a pv)[sj]!))) hd (by rw[swp_size];exact yD) rfl al
    subst e2
    generalize ((H3.set c (.cells (aJ eN ((swp d a pv).toList.set si (swp d a pv)[sj]!)))).set c (.cells (aJ eN (swp (swp d a pv) si sj).toList)))=H5 at *
    refine W.cM 4 (fun (q:Nat×Nat) R H'=>At H' (fun H'=>SC c n H (fun di=>partLoop aY a q.1 q.2 di=r) H')∧R 0=.ay c 0 n 2∧R 1=.int .i64 a∧R 4=.fn 61 []∧R 12=.int .i64 q.1∧R 13=.int .i64 q.2∧a<q.1∧q.2<n∧q.1≤n) (fun q=>q.2+1-q.1) (si+1,sj-1)
     (fun R H'=>At H' (fun H'=>SC c n H (fun di=>di=r.2) H')∧R 0=.ay c 0 n 2∧R 1=.int .i64 a∧R 4=.fn 61 []∧R 13=.int .i64 r.1∧r.1<n) ⟨.i ⟨_,cr,gX,hr.symm,dN⟩,?_,?_,?_,?_,?_,by simp only;omega,by simp only;omega,by simp only;omega⟩ ?_ ?_
    ·simp -implicitDefEqProofs only[op,ef,cl,sq,reduceIte,j2,j3,j4,j5,j6,j7,j8,j9,y1,S1,h0]
    ·simp -implicitDefEqProofs only[op,ef,cl,sq,reduceIte,j2,j3,j4,j5,j6,j7,j8,j9,y1,S1,h1]
    ·simp -implicitDefEqProofs only[op,ef,cl,sq,reduceIte,j2,j3,j4,j5,j6,j7,j8,j9,y1,S1,h4]
    ·simp -implicitDefEqProofs only[op,ef,cl,sq,reduceIte,j2,j3,j4,j5,j6,j7,j8,j9,y1,S1,aB]
    ·simp -implicitDefEqProofs only[op,ef,cl,sq,reduceIte,j2,j3,j4,j5,j6,j7,j8,j9,y1,S1,bj]
    ·rintro⟨i,j⟩ R H1 ⟨⟨di,hd,a7,hP,al⟩,h0,h1,h4,aB,bj,FV,x8,iB⟩
     simp only at hP aB bj FV x8 iB ⊢
     simp -implicitDefEqProofs only[op,ef,cl,sq,reduceIte,j2,j3,j4,j5,j6,j7,j8,j9,y1,S1,h0,h1,h4,aB,bj]
     clear oV sz
     obtain⟨si,oV⟩:∃si,si=scanUp (fun x=>aY x di[a]!) di j i:=⟨_,rfl⟩
     refine W.cM 6 (fun (k:Nat) R H'=>At H' (fun H'=>H'[c]?=some (.cells (aJ eN di.toList))∧bl (fun x=>x=c) H H')∧R 0=.ay c 0 n 2∧R 1=.int .i64 a∧R 4=.fn 61 []∧R 12=.int .i64 k∧R 13=.int .i64 (j:Nat)∧i≤k∧k≤n∧scanUp (fun x=>aY x di[a]!) di (j) k=si) (fun k=>j+1-k) (i)
      (fun R H'=>At H' (fun H'=>H'[c]?=some (.cells (aJ eN di.toList))∧bl (fun x=>x=c) H H')∧R 0=.ay c 0 n 2∧R 1=.int .i64 a∧R 4=.fn 61 []∧R 12=.int .i64 si∧R 13=.int .i64 (j:Nat)∧i≤si∧si≤n) ⟨.i ⟨hd,al⟩,h0,h1,h4,aB,bj,Nat.le_refl _,by omega,oV.symm⟩ ?_ ?_
     ·rintro k R H2⟨⟨hd,al⟩,h0,h1,h4,aB,bj,re,oO,hk⟩
      have lc:=aW hd
      by_cases ey:k≤j
      ·simp -implicitDefEqProofs (maxSteps:=1000000) (disch:=omega) only[aa,aM,aO,aP,aQ,aR,aS,wA,a0,wS,aZ,wM,S2,op,ef,cl,sq,reduceIte,j2,j3,j4,j5,j6,j7,j8,j9,y1,S1,h0,h1,h4,aB,bj,ey,hd,lc]
       refine kJ _ _ _ _ _ _ _ (by simp -implicitDefEqProofs (maxSteps:=1000000) (disch:=omega) only[aa,aM,aO,aP,aQ,aR,aS,wA,a0,wS,aZ,wM,S2,op,ef,cl,sq,reduceIte,j2,j3,j4,j5,j6,j7,j8,j9,y1,S1,h0,h1,h4,aB,bj,ey,hd,lc]) ?_
       simp -implicitDefEqProofs (maxSteps:=1000000) (disch:=omega) only[aa,aM,aO,aP,aQ,aR,aS,wA,a0,wS,aZ,wM,S2,op,ef,cl,sq,reduceIte,j2,j3,j4,j5,j6,j7,j8,j9,y1,S1,cu,h0,h1,h4,aB,bj,ey,hd,lc,List.append_nil]
       refine ae _ _ _ _ _ _ _ _ (cd di[k]! di[a]! _) ?_
       rintro u H3⟨hu,hx⟩
       cases hu
       have hx:Ext H2 H3:=hx
       have hd:=hx.get hd
       have lc:=aW hd
       have al:=al.trans (aA (F:=fun _=>False) hx) (fun _ h=>h.elim)
       have cW:aY di[k]! di[a]! = decide (dz di[k]! di[a]!<0):=rfl
       by_cases c1:dz di[k]! di[a]!<0
       ·simp -implicitDefEqProofs (maxSteps:=1000000) (disch:=omega) only[aa,aM,aO,aP,aQ,aR,aS,wA,a0,wS,aZ,wM,S2,op,ef,cl,sq,reduceIte,j2,j3,j4,j5,j6,j7,j8,j9,y1,S1,h0,h1,h4,aB,bj,ey,c1]
        rw[scanUp,if_pos (fA (cg ey) (cW.trans (cg c1)))]at hk
        exact⟨k+1,by omega,.i ⟨hd,al⟩,rfl,by omega,by omega,hk⟩
       ·simp -implicitDefEqProofs (maxSteps:=1000000) (disch:=omega) only[aa,aM,aO,aP,aQ,aR,aS,wA,a0,wS,aZ,wM,S2,op,ef,cl,sq,reduceIte,j2,j3,j4,j5,j6,j7,j8,j9,y1,S1,h0,h1,h4,aB,bj,ey,c1]
        rw[scanUp,if_neg (dI (cW.trans (cf c1)))]at hk
        subst hk
        exact⟨.i ⟨hd,al⟩,rfl,re,oO⟩
      ·simp -implicitDefEqProofs only[op,ef,cl,sq,reduceIte,j2,j3,j4,j5,j6,j7,j8,j9,y1,S1,h0,h1,h4,aB,bj,ey]
       rw[scanUp,if_neg (dc (cf ey))]at hk
       subst hk
       exact⟨.i ⟨hd,al⟩,rfl,re,oO⟩
     ·rintro R H2⟨⟨hd,al⟩,h0,h1,h4,aB,bj,yK,F5⟩
      simp -implicitDefEqProofs only[op,ef,cl,sq,reduceIte,j2,j3,j4,j5,j6,j7,j8,j9,y1,S1,h0,h1,h4,aB,bj]
      obtain⟨sj,sz⟩:∃sj,sj=scanDown (fun x=>!aY x di[a]!) di si j:=⟨_,rfl⟩
      refine W.cM 8 (fun (k:Nat) R H'=>At H' (fun H'=>H'[c]?=some (.cells (aJ eN di.toList))∧bl (fun x=>x=c) H H')∧R 0=.ay c 0 n 2∧R 1=.int .i64 a∧R 4=.fn 61 []∧R 12=.int .i64 si∧R 13=.int .i64 k∧k≤j∧scanDown (fun x=>!aY x di[a]!) di si k=sj) (fun k=>k) (j)
       (fun R H'=>At H' (fun H'=>H'[c]?=some (.cells (aJ eN di.toList))∧bl (fun x=>x=c) H H')∧R 0=.ay c 0 n 2∧R 1=.int .i64 a∧R 4=.fn 61 []∧R 12=.int .i64 si∧R 13=.int .i64 sj∧sj≤j) ⟨.i ⟨hd,al⟩,h0,h1,h4,aB,bj,Nat.le_refl _,sz.symm⟩ ?_ ?_
      ·rintro k R H3⟨⟨hd,al⟩,h0,h1,h4,aB,bj,ey,hk⟩
       have lc:=aW hd
       rw[kV (by omega)]at hk
       by_cases bO:si≤k
       ·simp -implicitDefEqProofs (maxSteps:=1000000) (disch:=omega) only[aa,aM,aO,aP,aQ,aR,aS,wA,a0,wS,aZ,wM,S2,op,ef,cl,sq,reduceIte,j2,j3,j4,j5,j6,j7,j8,j9,y1,S1,h0,h1,h4,aB,bj,bO,hd,lc]
        refine kJ _ _ _ _ _ _ _ (by simp -implicitDefEqProofs (maxSteps:=1000000) (disch:=omega) only[aa,aM,aO,aP,aQ,aR,aS,wA,a0,wS,aZ,wM,S2,op,ef,cl,sq,reduceIte,j2,j3,j4,j5,j6,j7,j8,j9,y1,S1,h0,h1,h4,aB,bj,bO,hd,lc]) ?_
        simp -implicitDefEqProofs (maxSteps:=1000000) (disch:=omega) only[aa,aM,aO,aP,aQ,aR,aS,wA,a0,wS,aZ,wM,S2,op,ef,cl,sq,reduceIte,j2,j3,j4,j5,j6,j7,j8,j9,y1,S1,cu,h0,h1,h4,aB,bj,bO,hd,lc,List.append_nil]
        refine ae _ _ _ _ _ _ _ _ (cd di[k]! di[a]! _) ?_
        rintro u H4⟨hu,hx⟩
        cases hu
        have hx:Ext H3 H4:=hx
        have hd:=hx.get hd
        have lc:=aW hd
        have al:=al.trans (aA (F:=fun _=>False) hx) (fun _ h=>h.elim)
        have cW:aY di[k]! di[a]! = decide (dz di[k]! di[a]!<0):=rfl
        by_cases c1:dz di[k]! di[a]!<0
        ·simp -implicitDefEqProofs (maxSteps:=1000000) (disch:=omega) only[aa,aM,aO,aP,aQ,aR,aS,wA,a0,wS,aZ,wM,S2,op,ef,cl,sq,reduceIte,j2,j3,j4,j5,j6,j7,j8,j9,y1,S1,h0,h1,h4,aB,bj,bO,c1]
         rw[if_neg (dI (by rw[cW,cg c1];rfl))]at hk
         subst hk
         exact⟨.i ⟨hd,al⟩,rfl,ey⟩
        ·simp -implicitDefEqProofs (maxSteps:=1000000) (disch:=omega) only[aa,aM,aO,aP,aQ,aR,aS,wA,a0,wS,aZ,wM,S2,op,ef,cl,sq,reduceIte,j2,j3,j4,j5,j6,j7,j8,j9,y1,S1,h0,h1,h4,aB,bj,bO,c1]
         rw[if_pos (fA (cg bO) (eZ (cW.trans (cf c1))))]at hk
         exact⟨k-1,by omega,.i ⟨hd,al⟩,rfl,by omega,hk⟩
       ·simp -implicitDefEqProofs only[op,ef,cl,sq,reduceIte,j2,j3,j4,j5,j6,j7,j8,j9,y1,S1,h0,h1,h4,aB,bj,bO]
        rw[if_neg (dc (cf bO))]at hk
        subst hk
        exact⟨.i ⟨hd,al⟩,rfl,ey⟩
      ·rintro R H3⟨⟨hd,al⟩,h0,h1,h4,aB,bj,F6⟩
       have lc:=aW hd
       rw[JS oV sz]at hP
       by_cases jZ:sj<si
       ·rw[if_pos jZ]at hP
        simp -implicitDefEqProofs only[op,ef,cl,sq,reduceIte,j2,j3,j4,j5,j6,j7,j8,j9,y1,S1,h0,h1,h4,aB,bj,jZ]
        exact⟨.i ⟨di,hd,a7,by rw[←hP],al⟩,by rw[←hP],by rw[←hP];simp only;omega⟩
       ·rw[if_neg jZ,if_pos (by omega)]at hP
        simp -implicitDefEqProofs (maxSteps:=1000000) (disch:=omega) only[aa,aM,aO,aP,aQ,aR,aS,wA,a0,wS,aZ,wM,S2,op,ef,cl,sq,reduceIte,j2,j3,j4,j5,j6,j7,j8,j9,y1,S1,h0,h1,h4,aB,bj,jZ,hd,lc]
        exact⟨(si+1,sj-1),by simp only;omega,.i (.swp hd (by rw[swp_size];exact a7) hP al),rfl,rfl,by simp only;omega,by simp only;omega,by simp only;omega⟩
    ·rintro R H1⟨⟨di,hd,a7,rfl,al⟩,h0,h1,h4,bj,Cu⟩
     have lc:=aW hd
     simp -implicitDefEqProofs (maxSteps:=1000000) (disch:=omega) only[aa,aM,aO,aP,aQ,aR,aS,wA,a0,wS,aZ,wM,S2,op,ef,cl,sq,reduceIte,j2,j3,j4,j5,j6,j7,j8,j9,y1,S1,h0,h1,h4,bj,hd,lc]
     exact .swp hd (by rw[swp_size];exact a7) rfl al
set_option maxHeartbeats 8000000
open Go.Sort in
theorem shiftDown_eq {d:Array Nm}{k:Nat}(h:1≤k):shiftDown aY k d=if (!aY d[k]! d[k-1]!)=true then d else shiftDown aY (k-1) (swp d k (k-1)):=by
 cases k with
 | zero=>omega
 | succ k=>rw[shiftDown];rfl
open Go.Sort in
theorem Ot (c n:Nat)(d:Array Nm)(a b:Nat)(H:af)(hn:d.size=n)(hc:H[c]?=some (.cells (aJ eN d.toList)))(hb:b≤n)(fZ:a<b)(hs:n<2305843009213693951) :
  W env (.call 137 [.ay c 0 n 2,.int .i64 a,.int .i64 b,.fn 61 []]) H (fun o H'=>o=.val (.bool (partialInsertionSort aY d a b).2)∧SC c n H (fun x=>x=(partialInsertionSort aY d a b).1) H'):=by
 refine W.bS rfl rfl rfl ?_
 obtain⟨r,hr⟩:∃r,r=partialInsertionSort aY d a b:=⟨_,rfl⟩
 rw[←hr]
 simp -implicitDefEqProofs (maxSteps:=1000000) (disch:=omega) only[Fk,aa,aM,aO,aP,aQ,aR,aS,wA,a0,wS,aZ,wM,S2,op,ef,cl,sq,reduceIte,j2,j3,j4,j5,j6,j7,j8,j9,y1,S1]
 refine W.cM 0 (fun (j:Nat) R H'=>At H' (fun H'=>∃i,R 9=.int .i64 (i:Nat)∧a<i∧i≤b∧SC c n H (fun di=>partialIns aY a b (5-j) i di=r) H')∧R 0=.ay c 0 n 2∧R 1=.int .i64 a∧R 2=.int .i64 b∧R 3=.fn 61 []∧R 10=.int .i64 j∧j≤5) (fun j=>5-j) 0
  (fun R H'=>At H' (fun H'=>SC c n H (fun di=>(di,false)=r) H')) ⟨.i ⟨a+1,rfl,by omega,by omega,d,hc,hn,hr.symm,bl.refl _ _⟩,rfl,rfl,rfl,rfl,rfl,by omega⟩ ?_ ?_
 ·rintro j R H1⟨⟨i,h9,FV,Zh,di,hd,a7,hP,al⟩,h0,h1,h2,h3,aC,hj⟩
  by_cases Zi:j<5
  rotate_left
  ·have:j=5:=by omega
   subst this
   simp -implicitDefEqProofs only[op,ef,cl,sq,reduceIte,j2,j3,j4,j5,j6,j7,j8,j9,y1,S1,h0,h1,h2,h3,aC]
   exact .i ⟨di,hd,a7,hP,al⟩
  obtain⟨s,Ou⟩:∃s,5-j=s+1:=⟨4-j,by omega⟩
  have uP:5-(j+1)=s:=by omega
  rw[Ou,partialIns]at hP
  simp -implicitDefEqProofs only[op,ef,cl,sq,reduceIte,j2,j3,j4,j5,j6,j7,j8,j9,y1,S1,h0,h1,h2,h3,aC,Zi]
  obtain⟨si,oV⟩:∃si,si=scanSorted aY di b i:=⟨_,rfl⟩
  rw[←oV]at hP
  refine W.cM 2 (fun (k:Nat) R H'=>At H' (fun H'=>H'[c]?=some (.cells (aJ eN di.toList))∧bl (fun x=>x=c) H H')∧R 0=.ay c 0 n 2∧R 1=.int .i64 a∧R 2=.int .i64 b∧R 3=.fn 61 []∧R 9=.int .i64 k∧R 10=.int .i64 j∧i≤k∧k≤b∧scanSorted aY di b k=si) (fun k=>b-k) i
   (fun R H'=>At H' (fun H'=>H'[c]?=some (.cells (aJ eN di.toList))∧bl (fun x=>x=c) H H')∧R 0=.ay c 0 n 2∧R 1=.int .i64 a∧R 2=.int .i64 b∧R 3=.fn 61 []∧R 9=.int .i64 si∧R 10=.int .i64 j∧i≤si∧si≤b) ⟨.i ⟨hd,al⟩,?_,?_,?_,?_,?_,?_,Nat.le_refl _,Zh,oV.symm⟩ ?_ ?_
  ·simp -implicitDefEqProofs only[op,ef,cl,sq,reduceIte,j2,j3,j4,j5,j6,j7,j8,j9,y1,S1,h0]
  ·simp -implicitDefEqProofs only[op,ef,cl,sq,reduceIte,j2,j3,j4,j5,j6,j7,j8,j9,y1,S1,h1]
  ·simp -implicitDefEqProofs only[op,ef,cl,sq,reduceIte,j2,j3,j4,j5,j6,j7,j8,j9,y1,S1,h2]
  ·simp -implicitDefEqProofs only[op,ef,cl,sq,reduceIte,j2,j3,j4,j5,j6,j7,j8,j9,y1,S1,h3]
  ·simp -implicitDefEqProofs only[op,ef,cl,sq,reduceIte,j2,j3,j4,j5,j6,j7,j8,j9,y1,S1,h9]
  ·simp -implicitDefEqProofs only[op,ef,cl,sq,reduceIte,j2,j3,j4,j5,j6,j7,j8,j9,y1,S1,aC]
  ·rintro k R H2⟨⟨hd,al⟩,h0,h1,h2,h3,h9,aC,re,Bj,hk⟩
   have lc:=aW hd
   by_cases bO:k<b
   ·simp -implicitDefEqProofs (maxSteps:=1000000) (disch:=omega) only[aa,aM,aO,aP,aQ,aR,aS,wA,a0,wS,aZ,wM,S2,op,ef,cl,sq,reduceIte,j2,j3,j4,j5,j6,j7,j8,j9,y1,S1,h0,h1,h2,h3,h9,aC,bO,hd,lc]
    refine kJ _ _ _ _ _ _ _ (by simp -implicitDefEqProofs (maxSteps:=1000000) (disch:=omega) only[aa,aM,aO,aP,aQ,aR,aS,wA,a0,wS,aZ,wM,S2,op,ef,cl,sq,reduceIte,j2,j3,j4,j5,j6,j7,j8,j9,y1,S1,h0,h1,h2,h3,h9,aC,bO,hd,lc]) ?_
    simp -implicitDefEqProofs (maxSteps:=1000000) (disch:=omega) only[aa,aM,aO,aP,aQ,aR,aS,wA,a0,wS,aZ,wM,S2,op,ef,cl,sq,reduceIte,j2,j3,j4,j5,j6,j7,j8,j9,y1,S1,cu,h0,h1,h2,h3,h9,aC,bO,hd,lc,List.append_nil]
    refine ae _ _ _ _ _ _ _ _ (cd di[k]! di[k-1]! _) ?_
    rintro u H3⟨hu,hx⟩
    cases hu
    have hx:Ext H2 H3:=hx
    have hd:=hx.get hd
    have lc:=aW hd
    have al:=al.trans (aA (F:=fun _=>False) hx) (fun _ h=>h.elim)
    have cW:aY di[k]! di[k-1]! = decide (dz di[k]! di[k-1]!<0):=rfl
    by_cases c1:dz di[k]! di[k-1]!<0
    ·simp -implicitDefEqProofs (maxSteps:=1000000) (disch:=omega) only[aa,aM,aO,aP,aQ,aR,aS,wA,a0,wS,aZ,wM,S2,op,ef,cl,sq,reduceIte,j2,j3,j4,j5,j6,j7,j8,j9,y1,S1,h0,h1,h2,h3,h9,aC,bO,c1]
     rw[scanSorted,if_neg (dI (by rw[cW,cg c1];rfl))]at hk
     subst hk
     exact⟨.i ⟨hd,al⟩,rfl,re,Bj⟩
    ·simp -implicitDefEqProofs (maxSteps:=1000000) (disch:=omega) only[aa,aM,aO,aP,aQ,aR,aS,wA,a0,wS,aZ,wM,S2,op,ef,cl,sq,reduceIte,j2,j3,j4,j5,j6,j7,j8,j9,y1,S1,h0,h1,h2,h3,h9,aC,bO,c1]
     rw[scanSorted,if_pos (fA (cg bO) (eZ (cW.trans (cf c1))))]at hk
     exact⟨k+1,by omega,.i ⟨hd,al⟩,rfl,by omega,by omega,hk⟩
   ·simp -implicitDefEqProofs only[op,ef,cl,sq,reduceIte,j2,j3,j4,j5,j6,j7,j8,j9,y1,S1,h0,h1,h2,h3,h9,aC,bO]
    rw[scanSorted,if_neg (dc (cf bO))]at hk
    subst hk
    exact⟨.i ⟨hd,al⟩,rfl,re,Bj⟩
  ·rintro R H2⟨⟨hd,al⟩,h0,h1,h2,h3,h9,aC,yK,Zj⟩
   have lc:=aW hd
   by_cases kb:si=b
   ·rw[if_pos kb]at hP
    have e1:((si:Int)==(b:Int))=true:=by rw[kb];simp
    simp -implicitDefEqProofs (maxSteps:=1000000) (disch:=omega) only[aa,aM,aO,aP,aQ,aR,aS,wA,a0,wS,aZ,wM,S2,op,ef,cl,sq,reduceIte,j2,j3,j4,j5,j6,j7,j8,j9,y1,S1,h0,h1,h2,h3,h9,aC,e1]
    rw[←hP]
    exact⟨rfl,di,hd,a7,rfl,al⟩
   rw[if_neg kb]at hP
   have e1:((si:Int)==(b:Int))=false:=by simp;omega
   by_cases uO:b-a<50
   ·rw[if_pos uO]at hP
    simp -implicitDefEqProofs (maxSteps:=1000000) (disch:=omega) only[aa,aM,aO,aP,aQ,aR,aS,wA,a0,wS,aZ,wM,S2,op,ef,cl,sq,reduceIte,j2,j3,j4,j5,j6,j7,j8,j9,y1,S1,h0,h1,h2,h3,h9,aC,e1,uO]
    rw[←hP]
    exact⟨rfl,di,hd,a7,rfl,al⟩
   rw[if_neg uO]at hP
   simp -implicitDefEqProofs (maxSteps:=1000000) (disch:=omega) only[aa,aM,aO,aP,aQ,aR,aS,wA,a0,wS,aZ,wM,S2,op,ef,cl,sq,reduceIte,j2,j3,j4,j5,j6,j7,j8,j9,y1,S1,h0,h1,h2,h3,h9,aC,e1,uO,hd,lc]
   obtain⟨d3,nJ⟩:∃d3,d3=if si-a≥2 then shiftDown aY (si-1) (swp di si (si-1))else swp di si (si-1):=⟨_,rfl⟩
   obtain⟨d4,rf⟩:∃d4,d4=if b-si≥2 then shiftUp aY b (si+1) d3 else d3:=⟨_,rfl⟩
   have hP:partialIns aY a b s si d4=r:=by rw[rf,nJ];exact hP
   obtain⟨d2,cr,gX,e2,dN⟩:=SC.swp (n:=n) (P:=fun x=>x=swp di si (si-1)) (x:=.cells (aJ eN (di.toList.set si di[si-1]!))) hd (by rw[swp_size];exact a7) rfl al
   subst e2
   generalize ((H2.set c (.cells (aJ eN (di.toList.set si di[si-1]!)))).set c (.cells (aJ eN (swp di si (si-1)).toList)))=H5 at *
   by_cases hA:2≤si-a
   ·rw[if_pos hA]at nJ
    simp -implicitDefEqProofs (maxSteps:=1000000) (disch:=omega) only[aa,aM,aO,aP,aQ,aR,aS,wA,a0,wS,aZ,wM,S2,op,ef,cl,sq,reduceIte,j2,j3,j4,j5,j6,j7,j8,j9,y1,S1,h0,h1,h2,h3,h9,aC,hA]
    refine W.cM 4 (fun (k:Nat) R H'=>At H' (fun H'=>SC c n H (fun dx=>shiftDown aY k dx=d3) H')∧R 0=.ay c 0 n 2∧R 1=.int .i64 a∧R 2=.int .i64 b∧R 3=.fn 61 []∧R 9=.int .i64 si∧R 10=.int .i64 j∧R 11=.int .i64 k∧k<b) (fun k=>k) (si-1)
     (fun R H'=>At H' (fun H'=>SC c n H (fun dx=>dx=d3) H')∧R 0=.ay c 0 n 2∧R 1=.int .i64 a∧R 2=.int .i64 b∧R 3=.fn 61 []∧R 9=.int .i64 si∧R 10=.int .i64 j) ⟨.i ⟨_,cr,gX,nJ.symm,dN⟩,?_,?_,?_,?_,?_,?_,?_,by omega⟩ ?_ ?_
    ·simp -implicitDefEqProofs only[op,ef,cl,sq,reduceIte,j2,j3,j4,j5,j6,j7,j8,j9,y1,S1,h0]
    ·simp -implicitDefEqProofs only[op,ef,cl,sq,reduceIte,j2,j3,j4,j5,j6,j7,j8,j9,y1,S1,h1]
    ·simp -implicitDefEqProofs only[op,ef,cl,sq,reduceIte,j2,j3,j4,j5,j6,j7,j8,j9,y1,S1,h2]
    ·simp -implicitDefEqProofs only[op,ef,cl,sq,reduceIte,j2,j3,j4,j5,j6,j7,j8,j9,y1,S1,h3]
    ·simp -implicitDefEqProofs only[op,ef,cl,sq,reduceIte,j2,j3,j4,j5,j6,j7,j8,j9,y1,S1,h9]
    ·simp -implicitDefEqProofs only[op,ef,cl,sq,reduceIte,j2,j3,j4,j5,j6,j7,j8,j9,y1,S1,aC]
    ·simp -implicitDefEqProofs only[op,ef,cl,sq,reduceIte,j2,j3,j4,j5,j6,j7,j8,j9,y1,S1]
    ·rintro k R H2⟨⟨dx,hd,a7,hk,al⟩,h0,h1,h2,h3,h9,aC,a6,Bj⟩
     have lc:=aW hd
     by_cases om:1≤k
     ·simp -implicitDefEqProofs (maxSteps:=1000000) (disch:=omega) only[aa,aM,aO,aP,aQ,aR,aS,wA,a0,wS,aZ,wM,S2,op,ef,cl,sq,reduceIte,j2,j3,j4,j5,j6,j7,j8,j9,y1,S1,h0,h1,h2,h3,h9,aC,a6,om,hd,lc]
      refine kJ _ _ _ _ _ _ _ (by simp -implicitDefEqProofs (maxSteps:=1000000) (disch:=omega) only[aa,aM,aO,aP,aQ,aR,aS,wA,a0,wS,aZ,wM,S2,op,ef,cl,sq,reduceIte,j2,j3,j4,j5,j6,j7,j8,j9,y1,S1,h0,h1,h2,h3,h9,aC,a6,om,hd,lc]) ?_
      simp -implicitDefEqProofs (maxSteps:=1000000) (disch:=omega) only[aa,aM,aO,aP,aQ,aR,aS,wA,a0,wS,aZ,wM,S2,op,ef,cl,sq,reduceIte,j2,j3,j4,j5,j6,j7,j8,j9,y1,S1,cu,h0,h1,h2,h3,h9,aC,a6,om,hd,lc,List.append_nil]
      refine ae _ _ _ _ _ _ _ _ (cd dx[k]! dx[k-1]! _) ?_
      rintro u H3⟨hu,hx⟩
      cases hu
      have hx:Ext H2 H3:=hx
      have hd:=hx.get hd
      have lc:=aW hd
      have al:=al.trans (aA (F:=fun _=>False) hx) (fun _ h=>h.elim)
      have cW:aY dx[k]! dx[k-1]! = decide (dz dx[k]! dx[k-1]!<0):=rfl
      rw[shiftDown_eq om]at hk
      by_cases c1:dz dx[k]! dx[k-1]!<0
      ·simp -implicitDefEqProofs (maxSteps:=1000000) (disch:=omega) only[aa,aM,aO,aP,aQ,aR,aS,wA,a0,wS,aZ,wM,S2,op,ef,cl,sq,reduceIte,j2,j3,j4,j5,j6,j7,j8,j9,y1,S1,h0,h1,h2,h3,h9,aC,a6,om,hd,lc,c1]
       rw[if_neg (jS (cW.trans (cg c1)))]at hk
       exact⟨k-1,by omega,.i (.swp hd (by rw[swp_size];exact a7) hk al),rfl,by omega⟩
      ·simp -implicitDefEqProofs (maxSteps:=1000000) (disch:=omega) only[aa,aM,aO,aP,aQ,aR,aS,wA,a0,wS,aZ,wM,S2,op,ef,cl,sq,reduceIte,j2,j3,j4,j5,j6,j7,j8,j9,y1,S1,h0,h1,h2,h3,h9,aC,a6,om,hd,lc,c1]
       rw[if_pos (eZ (cW.trans (cf c1)))]at hk
       exact .i ⟨dx,hd,a7,hk,al⟩
     ·have Qw:k=0:=by omega
      subst Qw
      simp -implicitDefEqProofs only[op,ef,cl,sq,reduceIte,j2,j3,j4,j5,j6,j7,j8,j9,y1,S1,h0,h1,h2,h3,h9,aC,a6,om]
      rw[shiftDown]at hk
      exact .i ⟨dx,hd,a7,hk,al⟩
    ·rintro R H2⟨⟨dx,hd,oW,rfl,al⟩,h0,h1,h2,h3,h9,aC⟩
     have lc:=aW hd
     by_cases hB:2≤b-si
     ·simp -implicitDefEqProofs (maxSteps:=1000000) (disch:=omega) only[aa,aM,aO,aP,aQ,aR,aS,wA,a0,wS,aZ,wM,S2,op,ef,cl,sq,reduceIte,j2,j3,j4,j5,j6,j7,j8,j9,y1,S1,h0,h1,h2,h3,h9,aC,hB]
      rw[if_pos hB]at rf
      refine W.cM 6 (fun (k:Nat) R H'=>At H' (fun H'=>SC c n H (fun dx=>shiftUp aY b k dx=d4) H')∧R 0=.ay c 0 n 2∧R 1=.int .i64 a∧R 2=.int .i64 b∧R 3=.fn 61 []∧R 9=.int .i64 si∧R 10=.int .i64 j∧R 12=.int .i64 k∧1≤k∧k≤b) (fun k=>b-k) (si+1)
       (fun R H'=>At H' (fun H'=>SC c n H (fun dx=>dx=d4) H')∧R 0=.ay c 0 n 2∧R 1=.int .i64 a∧R 2=.int .i64 b∧R 3=.fn 61 []∧R 9=.int .i64 si∧R 10=.int .i64 j) ⟨.i ⟨dx,hd,oW,rf.symm,al⟩,?_,?_,?_,?_,?_,?_,?_,by omega,by omega⟩ ?_ ?_
      ·simp -implicitDefEqProofs only[op,ef,cl,sq,reduceIte,j2,j3,j4,j5,j6,j7,j8,j9,y1,S1,h0]
      ·simp -implicitDefEqProofs only[op,ef,cl,sq,reduceIte,j2,j3,j4,j5,j6,j7,j8,j9,y1,S1,h1]
      ·simp -implicitDefEqProofs only[op,ef,cl,sq,reduceIte,j2,j3,j4,j5,j6,j7,j8,j9,y1,S1,h2]
      ·simp -implicitDefEqProofs only[op,ef,cl,sq,reduceIte,j2,j3,j4,j5,j6,j7,j8,j9,y1,S1,h3]
      ·simp -implicitDefEqProofs only[op,ef,cl,sq,reduceIte,j2,j3,j4,j5,j6,j7,j8,j9,y1,S1,h9]
      ·simp -implicitDefEqProofs only[op,ef,cl,sq,reduceIte,j2,j3,j4,j5,j6,j7,j8,j9,y1,S1,aC]
      ·simp -implicitDefEqProofs only[op,ef,cl,sq,reduceIte,j2,j3,j4,j5,j6,j7,j8,j9,y1,S1]
      ·rintro k R H2⟨⟨dx,hd,a7,hk,al⟩,h0,h1,h2,h3,h9,aC,aB,om,Bj⟩
       have lc:=aW hd
       by_cases bO:k<b
       ·simp -implicitDefEqProofs (maxSteps:=1000000) (disch:=omega) only[aa,aM,aO,aP,aQ,aR,aS,wA,a0,wS,aZ,wM,S2,op,ef,cl,sq,reduceIte,j2,j3,j4,j5,j6,j7,j8,j9,y1,S1,h0,h1,h2,h3,h9,aC,aB,bO,hd,lc]
        refine kJ _ _ _ _ _ _ _ (by simp -implicitDefEqProofs (maxSteps:=1000000) (disch:=omega) only[aa,aM,aO,aP,aQ,aR,aS,wA,a0,wS,aZ,wM,S2,op,ef,cl,sq,reduceIte,j2,j3,j4,j5,j6,j7,j8,j9,y1,S1,h0,h1,h2,h3,h9,aC,aB,bO,hd,lc]) ?_
        simp -implicitDefEqProofs (maxSteps:=1000000) (disch:=omega) only[aa,aM,aO,aP,aQ,aR,aS,wA,a0,wS,aZ,wM,S2,op,ef,cl,sq,reduceIte,j2,j3,j4,j5,j6,j7,j8,j9,y1,S1,cu,h0,h1,h2,h3,h9,aC,aB,bO,hd,lc,List.append_nil]
        refine ae _ _ _ _ _ _ _ _ (cd dx[k]! dx[k-1]! _) ?_
        rintro u H3⟨hu,hx⟩
        cases hu
        have hx:Ext H2 H3:=hx
        have hd:=hx.get hd
        have lc:=aW hd
        have al:=al.trans (aA (F:=fun _=>False) hx) (fun _ h=>h.elim)
        have cW:aY dx[k]! dx[k-1]! = decide (dz dx[k]! dx[k-1]!<0):=rfl
        rw[shiftUp,if_pos bO]at hk
        by_cases c1:dz dx[k]! dx[k-1]!<0
        ·simp -implicitDefEqProofs (maxSteps:=1000000) (disch:=omega) only[aa,aM,aO,aP,aQ,aR,aS,wA,a0,wS,aZ,wM,S2,op,ef,cl,sq,reduceIte,j2,j3,j4,j5,j6,j7,j8,j9,y1,S1,h0,h1,h2,h3,h9,aC,aB,bO,hd,lc,c1]
         rw[if_neg (jS (cW.trans (cg c1)))]at hk
         exact⟨k+1,by omega,.i (.swp hd (by rw[swp_size];exact a7) hk al),rfl,by omega,by omega⟩
        ·simp -implicitDefEqProofs (maxSteps:=1000000) (disch:=omega) only[aa,aM,aO,aP,aQ,aR,aS,wA,a0,wS,aZ,wM,S2,op,ef,cl,sq,reduceIte,j2,j3,j4,j5,j6,j7,j8,j9,y1,S1,h0,h1,h2,h3,h9,aC,aB,bO,hd,lc,c1]
         rw[if_pos (eZ (cW.trans (cf c1)))]at hk
         exact .i ⟨dx,hd,a7,hk,al⟩
       ·simp -implicitDefEqProofs only[op,ef,cl,sq,reduceIte,j2,j3,j4,j5,j6,j7,j8,j9,y1,S1,h0,h1,h2,h3,h9,aC,aB,bO]
        rw[shiftUp,if_neg bO]at hk
        exact .i ⟨dx,hd,a7,hk,al⟩
      ·rintro R H2⟨⟨dx,hd,a7,rfl,al⟩,h0,h1,h2,h3,h9,aC⟩
       simp -implicitDefEqProofs (maxSteps:=1000000) (disch:=omega) only[aa,aM,aO,aP,aQ,aR,aS,wA,a0,wS,aZ,wM,S2,op,ef,cl,sq,reduceIte,j2,j3,j4,j5,j6,j7,j8,j9,y1,S1,h0,h1,h2,h3,h9,aC]
       exact⟨j+1,by omega,.i ⟨si,rfl,by omega,by omega,dx,hd,a7,by rw[uP];exact hP,al⟩,rfl,by omega⟩
     ·rw[if_neg hB]at rf
      subst rf
      simp -implicitDefEqProofs (maxSteps:=1000000) (disch:=omega) only[aa,aM,aO,aP,aQ,aR,aS,wA,a0,wS,aZ,wM,S2,op,ef,cl,sq,reduceIte,j2,j3,j4,j5,j6,j7,j8,j9,y1,S1,h0,h1,h2,h3,h9,aC,hB]
      exact⟨j+1,by omega,.i ⟨si,rfl,by omega,by omega,d4,hd,oW,by rw[uP];exact hP,al⟩,rfl,by omega⟩
   ·rw[if_neg hA]at nJ
    simp -implicitDefEqProofs (maxSteps:=1000000) (disch:=omega) only[aa,aM,aO,aP,aQ,aR,aS,wA,a0,wS,aZ,wM,S2,op,ef,cl,sq,reduceIte,j2,j3,j4,j5,j6,j7,j8,j9,y1,S1,h0,h1,h2,h3,h9,aC,hA]
    have hd:=cr
    have oW:=gX
    have al:=dN
    rw[←nJ]at hd oW
    by_cases hB:2≤b-si
    ·simp -implicitDefEqProofs (maxSteps:=1000000) (disch:=omega) only[aa,aM,aO,aP,aQ,aR,aS,wA,a0,wS,aZ,wM,S2,op,ef,cl,sq,reduceIte,j2,j3,j4,j5,j6,j7,j8,j9,y1,S1,h0,h1,h2,h3,h9,aC,hB]
     rw[if_pos hB]at rf
     refine W.cM 6 (fun (k:Nat) R H'=>At H' (fun H'=>SC c n H (fun dx=>shiftUp aY b k dx=d4) H')∧R 0=.ay c 0 n 2∧R 1=.int .i64 a∧R 2=.int .i64 b∧R 3=.fn 61 []∧R 9=.int .i64 si∧R 10=.int .i64 j∧R 12=.int .i64 k∧1≤k∧k≤b) (fun k=>b-k) (si+1)
      (fun R H'=>At H' (fun H'=>SC c n H (fun dx=>dx=d4) H')∧R 0=.ay c 0 n 2∧R 1=.int .i64 a∧R 2=.int .i64 b∧R 3=.fn 61 []∧R 9=.int .i64 si∧R 10=.int .i64 j) ⟨.i ⟨d3,hd,oW,rf.symm,al⟩,?_,?_,?_,?_,?_,?_,?_,by omega,by omega⟩ ?_ ?_
     ·simp -implicitDefEqProofs only[op,ef,cl,sq,reduceIte,j2,j3,j4,j5,j6,j7,j8,j9,y1,S1,h0]
     ·simp -implicitDefEqProofs only[op,ef,cl,sq,reduceIte,j2,j3,j4,j5,j6,j7,j8,j9,y1,S1,h1]
     ·simp -implicitDefEqProofs only[op,ef,cl,sq,reduceIte,j2,j3,j4,j5,j6,j7,j8,j9,y1,S1,h2]
     ·simp -implicitDefEqProofs only[op,ef,cl,sq,reduceIte,j2,j3,j4,j5,j6,j7,j8,j9,y1,S1,h3]
     ·simp -implicitDefEqProofs only[op,ef,cl,sq,reduceIte,j2,j3,j4,j5,j6,j7,j8,j9,y1,S1,h9]
     ·simp -implicitDefEqProofs only[op,ef,cl,sq,reduceIte,j2,j3,j4,j5,j6,j7,j8,j9,y1,S1,aC]
     ·simp -implicitDefEqProofs only[op,ef,cl,sq,reduceIte,j2,j3,j4,j5,j6,j7,j8,j9,y1,S1]
     ·rintro k R H2⟨⟨dx,hd,a7,hk,al⟩,h0,h1,h2,h3,h9,aC,aB,om,Bj⟩
      have lc:=aW hd
      by_cases bO:k<b
      ·simp -implicitDefEqProofs (maxSteps:=1000000) (disch:=omega) only[aa,aM,aO,aP,aQ,aR,aS,wA,a0,wS,aZ,wM,S2,op,ef,cl,sq,reduceIte,j2,j3,j4,j5,j6,j7,j8,j9,y1,S1,h0,h1,h2,h3,h9,aC,aB,bO,hd,lc]
       refine kJ _ _ _ _ _ _ _ (by simp -implicitDefEqProofs (maxSteps:=1000000) (disch:=omega) only[aa,aM,aO,aP,aQ,aR,aS,wA,a0,wS,aZ,wM,S2,op,ef,cl,sq,reduceIte,j2,j3,j4,j5,j6,j7,j8,j9,y1,S1,h0,h1,h2,h3,h9,aC,aB,bO,hd,lc]) ?_
       simp -implicitDefEqProofs (maxSteps:=1000000) (disch:=omega) only[aa,aM,aO,aP,aQ,aR,aS,wA,a0,wS,aZ,wM,S2,op,ef,cl,sq,reduceIte,j2,j3,j4,j5,j6,j7,j8,j9,y1,S1,cu,h0,h1,h2,h3,h9,aC,aB,bO,hd,lc,List.append_nil]
       refine ae _ _ _ _ _ _ _ _ (cd dx[k]! dx[k-1]! _) ?_
       rintro u H3⟨hu,hx⟩
       cases hu
       have hx:Ext H2 H3:=hx
       have hd:=hx.get hd
       have lc:=aW hd
       have al:=al.trans (aA (F:=fun _=>False) hx) (fun _ h=>h.elim)
       have cW:aY dx[k]! dx[k-1]! = decide (dz dx[k]! dx[k-1]!<0):=rfl
       rw[shiftUp,if_pos bO]at hk
       by_cases c1:dz dx[k]! dx[k-1]!<0
       ·simp -implicitDefEqProofs (maxSteps:=1000000) (disch:=omega) only[aa,aM,aO,aP,aQ,aR,aS,wA,a0,wS,aZ,wM,S2,op,ef,cl,sq,reduceIte,j2,j3,j4,j5,j6,j7,j8,j9,y1,S1,h0,h1,h2,h3,h9,aC,aB,bO,hd,lc,c1]
        rw[if_neg (jS (cW.trans (cg c1)))]at hk
        exact⟨k+1,by omega,.i (.swp hd (by rw[swp_size];exact a7) hk al),rfl,by omega,by omega⟩
       ·simp -implicitDefEqProofs (maxSteps:=1000000) (disch:=omega) only[aa,aM,aO,aP,aQ,aR,aS,wA,a0,wS,aZ,wM,S2,op,ef,cl,sq,reduceIte,j2,j3,j4,j5,j6,j7,j8,j9,y1,S1,h0,h1,h2,h3,h9,aC,aB,bO,hd,lc,c1]
        rw[if_pos (eZ (cW.trans (cf c1)))]at hk
        exact .i ⟨dx,hd,a7,hk,al⟩
      ·simp -implicitDefEqProofs only[op,ef,cl,sq,reduceIte,j2,j3,j4,j5,j6,j7,j8,j9,y1,S1,h0,h1,h2,h3,h9,aC,aB,bO]
       rw[shiftUp,if_neg bO]at hk
       exact .i ⟨dx,hd,a7,hk,al⟩
     ·rintro R H2⟨⟨dx,hd,a7,rfl,al⟩,h0,h1,h2,h3,h9,aC⟩
      simp -implicitDefEqProofs (maxSteps:=1000000) (disch:=omega) only[aa,aM,aO,aP,aQ,aR,aS,wA,a0,wS,aZ,wM,S2,op,ef,cl,sq,reduceIte,j2,j3,j4,j5,j6,j7,j8,j9,y1,S1,h0,h1,h2,h3,h9,aC]
      exact⟨j+1,by omega,.i ⟨si,rfl,by omega,by omega,dx,hd,a7,by rw[uP];exact hP,al⟩,rfl,by omega⟩
    ·rw[if_neg hB]at rf
     subst rf
     simp -implicitDefEqProofs (maxSteps:=1000000) (disch:=omega) only[aa,aM,aO,aP,aQ,aR,aS,wA,a0,wS,aZ,wM,S2,op,ef,cl,sq,reduceIte,j2,j3,j4,j5,j6,j7,j8,j9,y1,S1,h0,h1,h2,h3,h9,aC,hB]
     exact⟨j+1,by omega,.i ⟨si,rfl,by omega,by omega,d4,hd,oW,by rw[uP];exact hP,al⟩,rfl,by omega⟩
 ·rintro R H1⟨di,hd,a7,hP,al⟩
  simp -implicitDefEqProofs only[op,ef,cl,sq,reduceIte,j2,j3,j4,j5,j6,j7,j8,j9,y1,S1]
  rw[←hP]
  exact⟨rfl,di,hd,a7,rfl,al⟩
theorem nK (a b:Nm):aY a b=true↔strLt a.1 b.1=true∨(a.1=b.1∧a.2<b.2):=by
 unfold aY dz PT BO BP
 rw[decide_eq_true_eq]
 cases h1:strLt a.1 b.1
 ·cases h2:strLt b.1 a.1
  ·have e:=qO h1 h2
   simp -implicitDefEqProofs only[Bool.false_eq_true,if_false,if_true,false_or,e,true_and]
   split
   ·simp[*]
   ·split<;>simp[*]
  ·have bF:a.1≠b.1:=by intro e;rw[e,eX]at h2;cases h2
   simp[bF]
 ·simp
theorem lH (a:Nm):aY a a=false:=by
 cases h:aY a a with
 | false=>rfl
 | true=>rcases(nK a a).1 h with h|h;rw[eX]at h;cases h;omega
theorem lI {a b c:Nm}(h1:aY a b=true)(h2:aY b c=true):aY a c=true:=by
 rw[nK]at h1 h2 ⊢
 rcases h1 with h1|⟨e1,h1⟩<;>rcases h2 with h2|⟨e2,h2⟩
 ·exact .inl (eo h1 h2)
 ·exact .inl (e2▸h1)
 ·exact .inl (e1▸h2)
 ·exact .inr ⟨e1.trans e2,by omega⟩
theorem Ak {a b:Nm}(h1:aY a b=false)(h2:aY b a=false):a=b:=by
 have n1:¬(strLt a.1 b.1=true∨(a.1=b.1∧a.2<b.2)):=fun h=>by rw[(nK a b).2 h]at h1;cases h1
 have n2:¬(strLt b.1 a.1=true∨(b.1=a.1∧b.2<a.2)):=fun h=>by rw[(nK b a).2 h]at h2;cases h2
 have e1:a.1=b.1:=qO (by cases h:strLt a.1 b.1 with|false=>rfl|true=>exact absurd (.inl h) n1) (by cases h:strLt b.1 a.1 with|false=>rfl|true=>exact absurd (.inl h) n2)
 have q1:¬a.2<b.2:=fun h=>n1 (.inr ⟨e1,h⟩)
 have q2:¬b.2<a.2:=fun h=>n2 (.inr ⟨e1.symm,h⟩)
 exact Prod.ext e1 (by omega)
theorem qb:Go.Sort.SWO aY where
 irrefl:=lH
 trans _ _ _ h1 h2:=lI h1 h2
 ntrans x y z h1 h2:=by
  cases h:aY x z with
  | false=>rfl
  | true =>
   cases h3:aY y x with
   | true=>rw[lI h3 h]at h2;cases h2
   | false=>have:=Ak h1 h3;subst this;rw[h]at h2;cases h2
theorem Ov (H:af):W env (.call 132 [.sl .nil [],.int .i64 0,.int .i64 0,.fn 61 []]) H (py (.bN []) H):=by
 refine W.bS rfl rfl rfl ?_
 have wa:IntKind.i64.wrap ((0:Int)+1)=1:=by decide
 simp -implicitDefEqProofs only[z9,op,ef,cl,sq,reduceIte,j2,j3,j4,j5,j6,j7,j8,j9,y1,S1,wa]
 refine W.cF (fun (_:Nat) R H'=>H'=H∧R 2=.int .i64 0∧R 8=.int .i64 1) (fun _=>0) 0 ⟨rfl,rfl,rfl⟩ ?_
 rintro _ R _⟨rfl,h2,h8⟩
 have l0:¬((1:Int)<0):=by decide
 simp -implicitDefEqProofs only[op,ef,cl,sq,reduceIte,j2,j3,j4,j5,j6,j7,j8,j9,y1,S1,h2,h8,l0]
 trivial
theorem Zk (m:Nat)(H:af):W env (.call 117 [.sl .nil [],.int .i64 0,.int .i64 0,.int .i64 m,.fn 61 []]) H (py (.bN []) H):=by
 refine W.bS rfl rfl rfl ?_
 have w1:IntKind.i64.wrap ((0:Int)-0)=0:=by decide
 simp -implicitDefEqProofs only[et,op,ef,cl,sq,reduceIte,j2,j3,j4,j5,j6,j7,j8,j9,y1,S1]
 refine W.cF (fun (_:Nat) R H'=>H'=H∧R 0=.sl .nil []∧R 1=.int .i64 0∧R 2=.int .i64 0∧R 4=.fn 61 []) (fun _=>0) 0 ⟨rfl,rfl,rfl,rfl,rfl⟩ ?_
 rintro _ R _⟨rfl,h0,h1,h2,h4⟩
 have l0:(0:Int)≤12:=by decide
 simp -implicitDefEqProofs only[op,ef,cl,sq,reduceIte,j2,j3,j4,j5,j6,j7,j8,j9,y1,S1,h0,h1,h2,h4,w1,l0]
 refine ae _ _ _ _ _ _ _ _ (Ov _) ?_
 rintro u H2⟨hu,rfl⟩
 cases hu
 simp -implicitDefEqProofs only[op,ef,cl,sq,reduceIte,j2,j3,j4,j5,j6,j7,j8,j9,y1,S1]
 trivial
theorem Tj (H:af):W env (.call 93 [.sl .nil [],.fn 61 []]) H (py (.bN []) H):=by
 refine W.bS rfl rfl rfl ?_
 have w1:IntKind.u64.wrap ((0:Nat):Int)=((0:Nat):Int):=by decide
 have e0:((0:Nat):Int)=0:=rfl
 simp -implicitDefEqProofs only[Jx,op,ef,cl,sq,reduceIte,j2,j3,j4,j5,j6,j7,j8,j9,y1,S1,w1]
 refine ae _ _ _ _ _ _ _ _ (S6 0 (by omega) _) ?_
 rintro u H1⟨rfl,m,hu⟩
 cases hu
 simp -implicitDefEqProofs only[op,ef,cl,sq,reduceIte,j2,j3,j4,j5,j6,j7,j8,j9,y1,S1,e0]
 refine ae _ _ _ _ _ _ _ _ (Zk m _) ?_
 rintro u H2⟨hu,rfl⟩
 cases hu
 simp -implicitDefEqProofs only[op,ef,cl,sq,reduceIte,j2,j3,j4,j5,j6,j7,j8,j9,y1,S1]
 trivial
def Tk (es:List (Nm×T))(H:af):Out→af→Prop:=fun o H'=>Ext H H'∧∃t l,o=.val t∧pj eN 2 H.length H' t l∧l.Perm (es.map (·.1))∧l.Pairwise (fun a b=>aY a b=true)
set_option maxHeartbeats 8000000
def cX:C→Nat→Option C
 | .block id a,n=>if id=n then some a else cX a n
 | .seq a b,n=>match cX a n with|some c=>some c | .none=>cX b n
 | .cond _ a b,n=>match cX a n with|some c=>some c | .none=>cX b n
 | .loop a,n=>cX a n
 | _,_=>.none
def eA:C→Nat→C
 | .seq a _,0=>a
 | .seq _ b,k+1=>eA b k
 | c,_=>c
structure PR (R:ar)(c n a b b7:Nat)(wb wp:Bool):Prop where
 r0:R 0=.ay c 0 n 2
 r1:R 1=.int .i64 a
 r2:R 2=.int .i64 b
 r3:R 3=.int .i64 b7
 r4:R 4=.fn 61 []
 Zl:R 10=.bool wb
 Zm:R 11=.bool wp
 Tm:R 12=.int .i64 (b-a:Nat)
open Go.Sort in
theorem Zn (A:C)(hA:(cX et.body 1).map (eA · 3)=some A)(c n a b b7:Nat)(wb wp:Bool)(d:Array Nm)(R:ar)(H0 H:af)(K:Out→af→Prop)(hp:PR R c n a b b7 wb wp)(hd:SC c n H0 (fun x=>x=d) H)(hb:b≤n)(fZ:a+12<b)(hs:n<16777216)(hl:1≤b7∧b7<1000)
  (rest:∀R' H',PR R' c n a b (if (!wb)=true then b7-1 else b7) wb wp→SC c n H0 (fun x=>x=if (!wb)=true then breakPatterns d a b else d) H'→K (.ex .normal R') H'):eD env A R H K:=by
 simp[et,cX,eA,sq]at hA
 subst hA
 obtain⟨h0,h1,h2,h3,h4,aC,a6,aB⟩:=hp
 obtain⟨di,hc,hn,rfl,al⟩:=hd
 cases wb with
 | true =>
  simp -implicitDefEqProofs (maxSteps:=1000000) (disch:=omega) only[op,ef,cl,sq,reduceIte,j2,j3,j4,j5,j6,j7,j8,j9,y1,S1,h0,h1,h2,h3,h4,aC,a6,aB]
  exact rest _ _ ⟨by simp -implicitDefEqProofs only[op,ef,cl,sq,reduceIte,j2,j3,j4,j5,j6,j7,j8,j9,y1,S1,h0],by simp -implicitDefEqProofs only[op,ef,cl,sq,reduceIte,j2,j3,j4,j5,j6,j7,j8,j9,y1,S1,h1],by simp -implicitDefEqProofs only[op,ef,cl,sq,reduceIte,j2,j3,j4,j5,j6,j7,j8,j9,y1,S1,h2],by simp -implicitDefEqProofs only[op,ef,cl,sq,reduceIte,j2,j3,j4,j5,j6,j7,j8,j9,y1,S1,h3],by simp -implicitDefEqProofs only[op,ef,cl,sq,reduceIte,j2,j3,j4,j5,j6,j7,j8,j9,y1,S1,h4],by simp -implicitDefEqProofs only[op,ef,cl,sq,reduceIte,j2,j3,j4,j5,j6,j7,j8,j9,y1,S1,aC],by simp -implicitDefEqProofs only[op,ef,cl,sq,reduceIte,j2,j3,j4,j5,j6,j7,j8,j9,y1,S1,a6],by simp -implicitDefEqProofs only[op,ef,cl,sq,reduceIte,j2,j3,j4,j5,j6,j7,j8,j9,y1,S1,aB]⟩ ⟨di,hc,hn,rfl,al⟩
 | false =>
  simp -implicitDefEqProofs (maxSteps:=1000000) (disch:=omega) only[op,ef,cl,sq,reduceIte,j2,j3,j4,j5,j6,j7,j8,j9,y1,S1,h0,h1,h2,h3,h4,aC,a6,aB]
  refine ae _ _ _ _ _ _ _ _ (JP c n di a b _ hn hc hb fZ hs) ?_
  rintro u H2⟨hu,d2,cr,gX,e2,dN⟩
  cases hu
  simp -implicitDefEqProofs (maxSteps:=1000000) (disch:=omega) only[aa,aM,aO,aP,aQ,aR,aS,wA,a0,wS,aZ,wM,S2,op,ef,cl,sq,reduceIte,j2,j3,j4,j5,j6,j7,j8,j9,y1,S1,h0,h1,h2,h3,h4,aC,a6,aB]
  exact rest _ _ ⟨by simp -implicitDefEqProofs only[op,ef,cl,sq,reduceIte,j2,j3,j4,j5,j6,j7,j8,j9,y1,S1,h0],by simp -implicitDefEqProofs only[op,ef,cl,sq,reduceIte,j2,j3,j4,j5,j6,j7,j8,j9,y1,S1,h1],by simp -implicitDefEqProofs only[op,ef,cl,sq,reduceIte,j2,j3,j4,j5,j6,j7,j8,j9,y1,S1,h2],by simp -implicitDefEqProofs only[op,ef,cl,sq,reduceIte,j2,j3,j4,j5,j6,j7,j8,j9,y1,S1],by simp -implicitDefEqProofs only[op,ef,cl,sq,reduceIte,j2,j3,j4,j5,j6,j7,j8,j9,y1,S1,h4],by simp -implicitDefEqProofs only[op,ef,cl,sq,reduceIte,j2,j3,j4,j5,j6,j7,j8,j9,y1,S1,aC],by simp -implicitDefEqProofs only[op,ef,cl,sq,reduceIte,j2,j3,j4,j5,j6,j7,j8,j9,y1,S1,a6],by simp -implicitDefEqProofs only[op,ef,cl,sq,reduceIte,j2,j3,j4,j5,j6,j7,j8,j9,y1,S1,aB]⟩ ⟨d2,cr,gX,e2,al.trans dN fun _ h=>.inl h⟩
open Go.Sort in
theorem Zo (A:C)(hA:(cX et.body 1).map (eA · 5)=some A)(c n a b b7:Nat)(wb wp:Bool)(d:Array Nm)(pv:Nat)(hi:Hint)(R:ar)(H0 H:af)(K:Out→af→Prop)(hp:PR R c n a b b7 wb wp)(bj:R 13=.int .i64 pv)(mH:R 14=.int .i64 (gw hi))(hd:SC c n H0 (fun x=>x=d) H)(hb:b≤n)(fZ:a+12<b)(hs:n<16777216)(lU:a≤pv∧pv<b)
  (rest:∀R' H',PR R' c n a b b7 wb wp→R' 13=.int .i64 (if hi=.decreasing then(b-1)-(pv-a)else pv:Nat)→R' 14=.int .i64 (gw (if hi=.decreasing then Hint.increasing else hi))→SC c n H0 (fun x=>x=if hi=.decreasing then reverseRange d a b else d) H'→K (.ex .normal R') H'):eD env A R H K:=by
 simp[et,cX,eA,sq]at hA
 subst hA
 obtain⟨h0,h1,h2,h3,h4,aC,a6,aB⟩:=hp
 obtain⟨di,hc,hn,rfl,al⟩:=hd
 have e:((gw hi)==2)=decide (hi=.decreasing):=by cases hi<;>decide
 by_cases hh:hi=.decreasing
 ·rw[decide_eq_true hh]at e
  simp -implicitDefEqProofs (maxSteps:=1000000) (disch:=omega) only[op,ef,cl,sq,reduceIte,j2,j3,j4,j5,j6,j7,j8,j9,y1,S1,h0,h1,h2,h3,h4,aC,a6,aB,bj,mH,e]
  refine ae _ _ _ _ _ _ _ _ (S7 c n di a b _ hn hc hb (by omega) (by omega)) ?_
  rintro u H2⟨hu,d2,cr,gX,e2,dN⟩
  cases hu
  simp -implicitDefEqProofs (maxSteps:=1000000) (disch:=omega) only[aa,aM,aO,aP,aQ,aR,aS,wA,a0,wS,aZ,wM,S2,op,ef,cl,sq,reduceIte,j2,j3,j4,j5,j6,j7,j8,j9,y1,S1,h0,h1,h2,h3,h4,aC,a6,aB,bj,mH]
  refine rest _ _ ⟨?_,?_,?_,?_,?_,?_,?_,?_⟩ ?_ ?_ ⟨d2,cr,gX,?_,al.trans dN fun _ h=>.inl h⟩
  all_goals simp -implicitDefEqProofs only[op,ef,cl,sq,reduceIte,j2,j3,j4,j5,j6,j7,j8,j9,y1,S1,h0,h1,h2,h3,h4,aC,a6,aB,if_pos hh,gw]
  exact e2
 ·rw[decide_eq_false hh]at e
  simp -implicitDefEqProofs (maxSteps:=1000000) (disch:=omega) only[op,ef,cl,sq,reduceIte,j2,j3,j4,j5,j6,j7,j8,j9,y1,S1,h0,h1,h2,h3,h4,aC,a6,aB,bj,mH,e]
  refine rest _ _ ⟨?_,?_,?_,?_,?_,?_,?_,?_⟩ ?_ ?_ ⟨di,hc,hn,?_,al⟩
  all_goals simp -implicitDefEqProofs only[op,ef,cl,sq,reduceIte,j2,j3,j4,j5,j6,j7,j8,j9,y1,S1,h0,h1,h2,h3,h4,aC,a6,aB,bj,mH,if_neg hh]
open Go.Sort in
theorem Zp (A:C)(hA:(cX et.body 1).map (eA · 6)=some A)(c n a b b7:Nat)(wb wp:Bool)(d:Array Nm)(pv:Nat)(hi:Hint)(R:ar)(H0 H:af)(K:Out→af→Prop)(hp:PR R c n a b b7 wb wp)(bj:R 13=.int .i64 pv)(mH:R 14=.int .i64 (gw hi))(hd:SC c n H0 (fun x=>x=d) H)(hb:b≤n)(fZ:a+12<b)(hs:n<16777216)
  (pi:Array Nm×Bool) (F7:pi=if (wb&&wp&&hi=.increasing)=true then partialInsertionSort aY d a b else(d,false))
  (gY:∀R' H',pi.2=true→SC c n H0 (fun x=>x=pi.1) H'→K (.ex .ret R') H')
  (e9:∀R' H',pi.2=false→PR R' c n a b b7 wb wp→R' 13=.int .i64 pv→SC c n H0 (fun x=>x=pi.1) H'→K (.ex .normal R') H'):eD env A R H K:=by
 simp[et,cX,eA,sq]at hA
 subst hA
 obtain⟨h0,h1,h2,h3,h4,aC,a6,aB⟩:=hp
 obtain⟨di,hc,hn,rfl,al⟩:=hd
 have e:((gw hi)==1)=decide (hi=.increasing):=by cases hi<;>decide
 have no:(wb&&wp&&decide (hi=.increasing))=false→∀R',PR R' c n a b b7 wb wp→R' 13=.int .i64 pv→K (.ex .normal R') H:=fun h R' q q'=>e9 R' H (by rw[F7,h];rfl) q q' ⟨di,hc,hn,by rw[F7,h];rfl,al⟩
 cases wb with
 | false =>
  simp -implicitDefEqProofs only[op,ef,cl,sq,reduceIte,j2,j3,j4,j5,j6,j7,j8,j9,y1,S1,h0,h1,h2,h3,h4,aC,a6,aB,bj,mH]
  refine no rfl _ ⟨?_,?_,?_,?_,?_,?_,?_,?_⟩ ?_
  all_goals simp -implicitDefEqProofs only[op,ef,cl,sq,reduceIte,j2,j3,j4,j5,j6,j7,j8,j9,y1,S1,h0,h1,h2,h3,h4,aC,a6,aB,bj]
 | true =>
  cases wp with
  | false =>
   simp -implicitDefEqProofs only[op,ef,cl,sq,reduceIte,j2,j3,j4,j5,j6,j7,j8,j9,y1,S1,h0,h1,h2,h3,h4,aC,a6,aB,bj,mH]
   refine no rfl _ ⟨?_,?_,?_,?_,?_,?_,?_,?_⟩ ?_
   all_goals simp -implicitDefEqProofs only[op,ef,cl,sq,reduceIte,j2,j3,j4,j5,j6,j7,j8,j9,y1,S1,h0,h1,h2,h3,h4,aC,a6,aB,bj]
  | true =>
   by_cases hh:hi=.increasing
   ·rw[decide_eq_true hh]at e
    rw[decide_eq_true hh]at F7
    simp -implicitDefEqProofs only[op,ef,cl,sq,reduceIte,j2,j3,j4,j5,j6,j7,j8,j9,y1,S1,h0,h1,h2,h3,h4,aC,a6,aB,bj,mH,e]
    refine ae _ _ _ _ _ _ _ _ (Ot c n di a b _ hn hc hb (by omega) (by omega)) ?_
    rintro u H2⟨hu,d2,cr,gX,e2,dN⟩
    cases hu
    rw[if_pos (show(true&&true&&true)=true from rfl)]at F7
    rw[←F7]at e2 ⊢
    cases kc:pi.2 with
    | true =>
     simp -implicitDefEqProofs only[op,ef,cl,sq,reduceIte,j2,j3,j4,j5,j6,j7,j8,j9,y1,S1]
     exact gY _ _ kc ⟨d2,cr,gX,e2,al.trans dN fun _ h=>.inl h⟩
    | false =>
     simp -implicitDefEqProofs only[op,ef,cl,sq,reduceIte,j2,j3,j4,j5,j6,j7,j8,j9,y1,S1]
     refine e9 _ _ kc ⟨?_,?_,?_,?_,?_,?_,?_,?_⟩ ?_ ⟨d2,cr,gX,e2,al.trans dN fun _ h=>.inl h⟩
     all_goals simp -implicitDefEqProofs only[op,ef,cl,sq,reduceIte,j2,j3,j4,j5,j6,j7,j8,j9,y1,S1,h0,h1,h2,h3,h4,aC,a6,aB,bj]
   ·rw[decide_eq_false hh]at e
    simp -implicitDefEqProofs only[op,ef,cl,sq,reduceIte,j2,j3,j4,j5,j6,j7,j8,j9,y1,S1,h0,h1,h2,h3,h4,aC,a6,aB,bj,mH,e]
    refine no (by rw[decide_eq_false hh];rfl) _ ⟨?_,?_,?_,?_,?_,?_,?_,?_⟩ ?_
    all_goals simp -implicitDefEqProofs only[op,ef,cl,sq,reduceIte,j2,j3,j4,j5,j6,j7,j8,j9,y1,S1,h0,h1,h2,h3,h4,aC,a6,aB,bj]
open Go.Sort in
theorem Zq (A:C)(hA:(cX et.body 1).map (eA · 7)=some A)(c n a b b7:Nat)(wb wp:Bool)(d:Array Nm)(pv:Nat)(R:ar)(H0 H:af)(K:Out→af→Prop)(hp:PR R c n a b b7 wb wp)(bj:R 13=.int .i64 pv)(hd:SC c n H0 (fun x=>x=d) H)(hb:b≤n)(fZ:a+12<b)(hs:n<16777216)(lU:a≤pv∧pv<b)
  (gY:∀R' H',(a>0&&!aY d[a-1]! d[pv]!)=true→R' 0=.ay c 0 n 2→R' 1=.int .i64 (partitionEqual aY d a b pv).1→R' 2=.int .i64 b→R' 3=.int .i64 b7→R' 4=.fn 61 []→R' 10=.bool wb→R' 11=.bool wp→SC c n H0 (fun x=>x=(partitionEqual aY d a b pv).2) H'→K (.ex (.exit 1) R') H')
  (e9:∀R' H',(a>0&&!aY d[a-1]! d[pv]!)=false→PR R' c n a b b7 wb wp→R' 13=.int .i64 pv→SC c n H0 (fun x=>x=d) H'→K (.ex .normal R') H'):eD env A R H K:=by
 simp[et,cX,eA,sq]at hA
 subst hA
 obtain⟨h0,h1,h2,h3,h4,aC,a6,aB⟩:=hp
 obtain⟨di,hd,hn,rfl,al⟩:=hd
 have lc:=aW hd
 by_cases ha:0<a
 ·simp -implicitDefEqProofs (maxSteps:=1000000) (disch:=omega) only[aa,aM,aO,aP,aQ,aR,aS,wA,a0,wS,aZ,wM,S2,op,ef,cl,sq,reduceIte,j2,j3,j4,j5,j6,j7,j8,j9,y1,S1,h0,h1,h2,h3,h4,aC,a6,aB,bj,ha,hd,lc]
  refine kJ _ _ _ _ _ _ _ (by simp -implicitDefEqProofs (maxSteps:=1000000) (disch:=omega) only[aa,aM,aO,aP,aQ,aR,aS,wA,a0,wS,aZ,wM,S2,op,ef,cl,sq,reduceIte,j2,j3,j4,j5,j6,j7,j8,j9,y1,S1,h0,h1,h2,h3,h4,aC,a6,aB,bj,ha,hd,lc]) ?_
  simp -implicitDefEqProofs (maxSteps:=1000000) (disch:=omega) only[aa,aM,aO,aP,aQ,aR,aS,wA,a0,wS,aZ,wM,S2,op,ef,cl,sq,reduceIte,j2,j3,j4,j5,j6,j7,j8,j9,y1,S1,cu,h0,h1,h2,h3,h4,aC,a6,aB,bj,ha,hd,lc,List.append_nil]
  refine ae _ _ _ _ _ _ _ _ (cd di[a-1]! di[pv]! _) ?_
  rintro u H3⟨hu,hx⟩
  cases hu
  have hx:Ext H H3:=hx
  have hd:=hx.get hd
  have lc:=aW hd
  have al:=al.trans (aA (F:=fun _=>False) hx) (fun _ h=>h.elim)
  have cW:aY di[a-1]! di[pv]! = decide (dz di[a-1]! di[pv]!<0):=rfl
  by_cases c1:dz di[a-1]! di[pv]!<0
  ·simp -implicitDefEqProofs (maxSteps:=1000000) (disch:=omega) only[aa,aM,aO,aP,aQ,aR,aS,wA,a0,wS,aZ,wM,S2,op,ef,cl,sq,reduceIte,j2,j3,j4,j5,j6,j7,j8,j9,y1,S1,h0,h1,h2,h3,h4,aC,a6,aB,bj,ha,hd,lc,c1]
   refine e9 _ _ (by rw[cW,cg c1];simp) ⟨?_,?_,?_,?_,?_,?_,?_,?_⟩ ?_ ⟨di,hd,hn,rfl,al⟩
   all_goals simp -implicitDefEqProofs only[op,ef,cl,sq,reduceIte,j2,j3,j4,j5,j6,j7,j8,j9,y1,S1,h0,h1,h2,h3,h4,aC,a6,aB,bj]
  ·simp -implicitDefEqProofs (maxSteps:=1000000) (disch:=omega) only[aa,aM,aO,aP,aQ,aR,aS,wA,a0,wS,aZ,wM,S2,op,ef,cl,sq,reduceIte,j2,j3,j4,j5,j6,j7,j8,j9,y1,S1,h0,h1,h2,h3,h4,aC,a6,aB,bj,ha,hd,lc,c1]
   refine ae _ _ _ _ _ _ _ _ (Ti c n di a b pv _ hn hd hb (by omega) (by omega) (by omega)) ?_
   rintro u H4⟨hu,d2,cr,gX,e2,dN⟩
   cases hu
   simp -implicitDefEqProofs only[op,ef,cl,sq,reduceIte,j2,j3,j4,j5,j6,j7,j8,j9,y1,S1]
   refine gY _ _ (by rw[cW,cf c1];simp;exact ha) ?_ ?_ ?_ ?_ ?_ ?_ ?_ ⟨d2,cr,gX,e2,al.trans dN fun _ h=>.inl h⟩
   all_goals simp -implicitDefEqProofs only[op,ef,cl,sq,reduceIte,j2,j3,j4,j5,j6,j7,j8,j9,y1,S1,h0,h1,h2,h3,h4,aC,a6,aB,bj]
 ·simp -implicitDefEqProofs only[op,ef,cl,sq,reduceIte,j2,j3,j4,j5,j6,j7,j8,j9,y1,S1,h0,h1,h2,h3,h4,aC,a6,aB,bj,ha]
  refine e9 _ _ (by rw[decide_eq_false ha];rfl) ⟨?_,?_,?_,?_,?_,?_,?_,?_⟩ ?_ ⟨di,hd,hn,rfl,al⟩
  all_goals simp -implicitDefEqProofs only[op,ef,cl,sq,reduceIte,j2,j3,j4,j5,j6,j7,j8,j9,y1,S1,h0,h1,h2,h3,h4,aC,a6,aB,bj]
set_option maxHeartbeats 8000000
def F9:C→Nat→C
 | c,0=>c
 | .seq _ b,k+1=>F9 b k
 | c,_=>c
open Go.Sort in
theorem Ga {d d1 d2:Array Nm}{a b b7 eC pv:Nat}{wb wp:Bool}{cp:Nat×Hint}{hi:Hint}{pi:Array Nm×Bool}(aB:¬b-a≤12)(hl:¬b7=0)
  (e1:d1=if (!wb)=true then breakPatterns d a b else d) (el:eC=if (!wb)=true then b7-1 else b7) (ec:cp=choosePivot aY d1 a b) (e2:d2=if cp.2=.decreasing then reverseRange d1 a b else d1)
  (ep:pv=if cp.2=.decreasing then(b-1)-(cp.1-a)else cp.1) (eh:hi=if cp.2=.decreasing then .increasing else cp.2) (JT:pi=if (wb&&wp&&hi=.increasing)=true then partialInsertionSort aY d2 a b else(d2,false)) :
  pdq aY d a b b7 wb wp=if pi.2=true then pi.1 else if (a>0&&!aY pi.1[a-1]! pi.1[pv]!)=true then(if a<(partitionEqual aY pi.1 a b pv).1∧(partitionEqual aY pi.1 a b pv).1≤b then pdq aY (partitionEqual aY pi.1 a b pv).2 (partitionEqual aY pi.1 a b pv).1 b eC wb wp else(partitionEqual aY pi.1 a b pv).2)
   else(if a≤(partition aY pi.1 a b pv).1∧(partition aY pi.1 a b pv).1<b then if (partition aY pi.1 a b pv).1-a<b-(partition aY pi.1 a b pv).1 then pdq aY (pdq aY (partition aY pi.1 a b pv).2.2 a (partition aY pi.1 a b pv).1 eC true true) ((partition aY pi.1 a b pv).1+1) b eC (decide ((partition aY pi.1 a b pv).1-a≥(b-a)/8)) (partition aY pi.1 a b pv).2.1
    else pdq aY (pdq aY (partition aY pi.1 a b pv).2.2 ((partition aY pi.1 a b pv).1+1) b eC true true) a (partition aY pi.1 a b pv).1 eC (decide (b-(partition aY pi.1 a b pv).1≥(b-a)/8)) (partition aY pi.1 a b pv).2.1 else(partition aY pi.1 a b pv).2.2):=by
 subst JT eh ep e2 ec el e1
 rw[pdq,if_neg aB,if_neg hl]
 rfl
open Go.Sort in
theorem B1 (d:Array Nm){a b pv:Nat}(h1:a≤pv)(h2:pv<b)(hb:b≤d.size):a<(partitionEqual aY d a b pv).1∧(partitionEqual aY d a b pv).1≤b:=by
 have:=partEqLoop_spec (lt:=aY) a b b (a+1) (b-1) (swp d a pv) (by omega) (by omega) (by omega) (by omega) (by rw[swp_size];exact hb) (fun t h h'=>by omega) (fun t h h'=>by omega)
 exact⟨this.1,this.2.1⟩
theorem Zr (A:C)(hA:(cX et.body 1).map (eA · 0)=some A)(c n a b b7:Nat)(wb wp:Bool)(R:ar)(H:af)(K:Out→af→Prop)(h0:R 0=.ay c 0 n 2)(h1:R 1=.int .i64 a)(h2:R 2=.int .i64 b)(h3:R 3=.int .i64 b7)(h4:R 4=.fn 61 [])(aC:R 10=.bool wb)(a6:R 11=.bool wp)(fZ:a≤b)(hb:b<16777216)
  (rest:∀R',PR R' c n a b b7 wb wp→K (.ex .normal R') H):eD env A R H K:=by
 simp[et,cX,eA,sq]at hA
 subst hA
 simp -implicitDefEqProofs (maxSteps:=1000000) (disch:=omega) only[aa,aM,aO,aP,aQ,aR,aS,wA,a0,wS,aZ,wM,S2,op,ef,cl,sq,reduceIte,j2,j3,j4,j5,j6,j7,j8,j9,y1,S1,h0,h1,h2,h3,h4,aC,a6]
 refine rest _ ⟨?_,?_,?_,?_,?_,?_,?_,?_⟩
 all_goals simp -implicitDefEqProofs only[op,ef,cl,sq,reduceIte,j2,j3,j4,j5,j6,j7,j8,j9,y1,S1,h0,h1,h2,h3,h4,aC,a6]
open Go.Sort in
theorem Zs (A:C)(hA:(cX et.body 1).map (eA · 1)=some A)(c n a b b7:Nat)(wb wp:Bool)(d:Array Nm)(R:ar)(H0 H:af)(K:Out→af→Prop)(hp:PR R c n a b b7 wb wp)(hd:SC c n H0 (fun x=>x=d) H)(hb:b≤n)(fZ:a≤b)(hs:n<16777216)
  (gY:∀R' H',b-a≤12→SC c n H0 (fun x=>x=insertionSort aY d a b) H'→K (.ex .ret R') H')
  (e9:∀R',¬b-a≤12→PR R' c n a b b7 wb wp→K (.ex .normal R') H):eD env A R H K:=by
 simp[et,cX,eA,sq]at hA
 subst hA
 obtain⟨h0,h1,h2,h3,h4,aC,a6,aB⟩:=hp
 obtain⟨di,hc,hn,rfl,al⟩:=hd
 by_cases hle:b-a≤12
 ·simp -implicitDefEqProofs only[op,ef,cl,sq,reduceIte,j2,j3,j4,j5,j6,j7,j8,j9,y1,S1,h0,h1,h2,h3,h4,aC,a6,aB,hle]
  have hi:=S4 c di a b H hc (by omega) fZ (by omega)
  rw[hn]at hi
  refine ae _ _ _ _ _ _ _ _ hi ?_
  rintro u H2⟨hu,cr,dN⟩
  cases hu
  simp -implicitDefEqProofs only[op,ef,cl,sq,reduceIte,j2,j3,j4,j5,j6,j7,j8,j9,y1,S1]
  exact gY _ _ hle ⟨_,cr,by rw[(insertionSort_holds qb di a b fZ (by omega)).1.1];exact hn,rfl,al.trans dN fun _ h=>.inl h⟩
 ·simp -implicitDefEqProofs only[op,ef,cl,sq,reduceIte,j2,j3,j4,j5,j6,j7,j8,j9,y1,S1,h0,h1,h2,h3,h4,aC,a6,aB,hle]
  refine e9 _ hle ⟨?_,?_,?_,?_,?_,?_,?_,?_⟩
  all_goals simp -implicitDefEqProofs only[op,ef,cl,sq,reduceIte,j2,j3,j4,j5,j6,j7,j8,j9,y1,S1,h0,h1,h2,h3,h4,aC,a6,aB]
open Go.Sort in
theorem Zt (A:C)(hA:(cX et.body 1).map (eA · 2)=some A)(c n a b b7:Nat)(wb wp:Bool)(d:Array Nm)(R:ar)(H0 H:af)(K:Out→af→Prop)(hp:PR R c n a b b7 wb wp)(hd:SC c n H0 (fun x=>x=d) H)(hb:b≤n)(fZ:a+12<b)(hs:n<16777216)
  (gY:∀R' H',b7=0→SC c n H0 (fun x=>x=heapSort aY d a b) H'→K (.ex .ret R') H')
  (e9:∀R',¬b7=0→PR R' c n a b b7 wb wp→K (.ex .normal R') H):eD env A R H K:=by
 simp[et,cX,eA,sq]at hA
 subst hA
 obtain⟨h0,h1,h2,h3,h4,aC,a6,aB⟩:=hp
 obtain⟨di,hc,hn,rfl,al⟩:=hd
 by_cases hl:b7=0
 ·subst hl
  have e:(((0:Nat):Int)==0)=true:=rfl
  simp -implicitDefEqProofs only[op,ef,cl,sq,reduceIte,j2,j3,j4,j5,j6,j7,j8,j9,y1,S1,h0,h1,h2,h3,h4,aC,a6,aB,e]
  refine ae _ _ _ _ _ _ _ _ (Ol c n di a b _ hn hc hb (by omega) (by omega)) ?_
  rintro u H2⟨hu,d2,cr,gX,e2,dN⟩
  cases hu
  simp -implicitDefEqProofs only[op,ef,cl,sq,reduceIte,j2,j3,j4,j5,j6,j7,j8,j9,y1,S1]
  exact gY _ _ rfl ⟨_,cr,gX,e2,al.trans dN fun _ h=>.inl h⟩
 ·have e:((b7:Int)==0)=false:=by simp;omega
  simp -implicitDefEqProofs only[op,ef,cl,sq,reduceIte,j2,j3,j4,j5,j6,j7,j8,j9,y1,S1,h0,h1,h2,h3,h4,aC,a6,aB,e]
  refine e9 _ hl ⟨?_,?_,?_,?_,?_,?_,?_,?_⟩
  all_goals simp -implicitDefEqProofs only[op,ef,cl,sq,reduceIte,j2,j3,j4,j5,j6,j7,j8,j9,y1,S1,h0,h1,h2,h3,h4,aC,a6,aB]
open Go.Sort in
theorem Zu (A:C)(hA:(cX et.body 1).map (eA · 4)=some A)(c n a b b7:Nat)(wb wp:Bool)(d:Array Nm)(R:ar)(H0 H:af)(K:Out→af→Prop)(hp:PR R c n a b b7 wb wp)(hd:SC c n H0 (fun x=>x=d) H)(hb:b≤n)(fZ:a+12<b)(hs:n<16777216)
  (rest:∀R' H',PR R' c n a b b7 wb wp→R' 13=.int .i64 (choosePivot aY d a b).1→R' 14=.int .i64 (gw (choosePivot aY d a b).2)→SC c n H0 (fun x=>x=d) H'→K (.ex .normal R') H'):eD env A R H K:=by
 simp[et,cX,eA,sq]at hA
 subst hA
 obtain⟨h0,h1,h2,h3,h4,aC,a6,aB⟩:=hp
 obtain⟨di,hc,hn,rfl,al⟩:=hd
 simp -implicitDefEqProofs only[op,ef,cl,sq,reduceIte,j2,j3,j4,j5,j6,j7,j8,j9,y1,S1,h0,h1,h2,h3,h4,aC,a6,aB]
 refine ae _ _ _ _ _ _ _ _ (FX c n di a b _ hn hc hb fZ (by omega)) ?_
 rintro u H2⟨hu,hx⟩
 cases hu
 simp -implicitDefEqProofs only[op,ef,cl,sq,reduceIte,j2,j3,j4,j5,j6,j7,j8,j9,y1,S1]
 refine rest _ _ ⟨?_,?_,?_,?_,?_,?_,?_,?_⟩ ?_ ?_ ⟨di,hx.get hc,hn,rfl,al.trans (aA (F:=fun _=>False) hx) (fun _ h=>h.elim)⟩
 all_goals simp -implicitDefEqProofs only[op,ef,cl,sq,reduceIte,j2,j3,j4,j5,j6,j7,j8,j9,y1,S1,h0,h1,h2,h3,h4,aC,a6,aB]
theorem Vs {a:Nat}(h:a<9223372036854775808):IntKind.i64.wrap ((a:Int).tdiv 8)=((a/8:Nat):Int):=by rw[Int.tdiv_eq_ediv_of_nonneg (by omega),wrap64 (by omega)];omega
open Go.Sort in
theorem Zv (A:C)(hA:(cX et.body 1).map (F9 · 8)=some A)(c n a b b7:Nat)(wb wp:Bool)(d:Array Nm)(pv:Nat)(R:ar)(H0 H:af)(K:Out→af→Prop)(hp:PR R c n a b b7 wb wp)(bj:R 13=.int .i64 pv)(hd:SC c n H0 (fun x=>x=d) H)(hb:b≤n)(fZ:a+12<b)(hs:n<16777216)(lU:a≤pv∧pv<b)
  (ih:∀a' b' (d':Array Nm) H',b'-a'<b-a→a'≤b'→b'≤n→d'.size=n→H'[c]?=some (.cells (aJ eN d'.toList))→W env (.call 117 [.ay c 0 n 2,.int .i64 a',.int .i64 b',.int .i64 b7,.fn 61 []]) H' (yB c n (pdq aY d' a' b' b7 true true) H'))
  (rest:∀R' H' a' b' (d':Array Nm) (JU:Bool),a≤a'→a'≤b'→b'≤b→b'-a'<b-a→R' 0=.ay c 0 n 2→R' 1=.int .i64 (a':Nat)→R' 2=.int .i64 (b':Nat)→R' 3=.int .i64 b7→R' 4=.fn 61 []→R' 10=.bool JU→R' 11=.bool (partition aY d a b pv).2.1 →
   pdq aY d' a' b' b7 JU (partition aY d a b pv).2.1=(if (partition aY d a b pv).1-a<b-(partition aY d a b pv).1 then pdq aY (pdq aY (partition aY d a b pv).2.2 a (partition aY d a b pv).1 b7 true true) ((partition aY d a b pv).1+1) b b7 (decide ((partition aY d a b pv).1-a≥(b-a)/8)) (partition aY d a b pv).2.1
    else pdq aY (pdq aY (partition aY d a b pv).2.2 ((partition aY d a b pv).1+1) b b7 true true) a (partition aY d a b pv).1 b7 (decide (b-(partition aY d a b pv).1≥(b-a)/8)) (partition aY d a b pv).2.1) →
   SC c n H0 (fun x=>x=d') H'→K (.ex .normal R') H'):eD env A R H K:=by
 simp[et,cX,F9,sq]at hA
 subst hA
 obtain⟨h0,h1,h2,h3,h4,aC,a6,aB⟩:=hp
 obtain⟨di,hc,hn,rfl,al⟩:=hd
 have ph:=partition_holds aY qb di a b pv lU.1 lU.2 (by omega)
 simp -implicitDefEqProofs only[op,ef,cl,sq,reduceIte,j2,j3,j4,j5,j6,j7,j8,j9,y1,S1,h0,h1,h2,h3,h4,aC,a6,aB,bj]
 refine ae _ _ _ _ _ _ _ _ (Oq c n di a b pv _ hn hc hb (by omega) (by omega) (by omega)) ?_
 rintro u H2⟨hu,d2,cr,gX,e2,dN⟩
 cases hu
 generalize partition aY di a b pv=r at *
 obtain⟨mid,ap,d4⟩:=r
 simp only at ph e2 rest ⊢
 subst e2
 obtain⟨m1,m2,_⟩:=ph
 have jK:=al.trans dN fun _ h=>.inl h
 by_cases ax:mid-a<b-mid
 ·rw[if_pos ax]at rest
  simp -implicitDefEqProofs (maxSteps:=1000000) (disch:=omega) only[aa,aM,aO,aP,aQ,aR,aS,wA,a0,wS,aZ,wM,S2,op,ef,cl,sq,reduceIte,j2,j3,j4,j5,j6,j7,j8,j9,y1,S1,Vs,h0,h1,h2,h3,h4,aC,a6,aB,bj,ax]
  refine ae _ _ _ _ _ _ _ _ (ih a mid d2 _ (by omega) m1 (by omega) gX cr) ?_
  rintro u H3⟨hu,d3,nJ,zi,e3,oT⟩
  cases hu
  simp -implicitDefEqProofs (maxSteps:=1000000) (disch:=omega) only[aa,aM,aO,aP,aQ,aR,aS,wA,a0,wS,aZ,wM,S2,op,ef,cl,sq,reduceIte,j2,j3,j4,j5,j6,j7,j8,j9,y1,S1,h0,h1,h2,h3,h4,aC,a6,aB,bj]
  refine rest _ _ (mid+1) b d3 (decide ((b-a)/8≤mid-a)) (by omega) (by omega) (Nat.le_refl _) (by omega) ?_ ?_ ?_ ?_ ?_ ?_ ?_ (by rw[e3]) ⟨d3,nJ,zi,rfl,jK.trans oT fun _ h=>.inl h⟩
  all_goals simp -implicitDefEqProofs only[op,ef,cl,sq,reduceIte,j2,j3,j4,j5,j6,j7,j8,j9,y1,S1,h0,h1,h2,h3,h4,aC,a6,aB]
 ·rw[if_neg ax]at rest
  simp -implicitDefEqProofs (maxSteps:=1000000) (disch:=omega) only[aa,aM,aO,aP,aQ,aR,aS,wA,a0,wS,aZ,wM,S2,op,ef,cl,sq,reduceIte,j2,j3,j4,j5,j6,j7,j8,j9,y1,S1,Vs,h0,h1,h2,h3,h4,aC,a6,aB,bj,ax]
  refine ae _ _ _ _ _ _ _ _ (ih (mid+1) b d2 _ (by omega) m2 (by omega) gX cr) ?_
  rintro u H3⟨hu,d3,nJ,zi,e3,oT⟩
  cases hu
  simp -implicitDefEqProofs (maxSteps:=1000000) (disch:=omega) only[aa,aM,aO,aP,aQ,aR,aS,wA,a0,wS,aZ,wM,S2,op,ef,cl,sq,reduceIte,j2,j3,j4,j5,j6,j7,j8,j9,y1,S1,h0,h1,h2,h3,h4,aC,a6,aB,bj]
  refine rest _ _ a mid d3 (decide ((b-a)/8≤b-mid)) (by omega) (by omega) (by omega) (by omega) ?_ ?_ ?_ ?_ ?_ ?_ ?_ (by rw[e3]) ⟨d3,nJ,zi,rfl,jK.trans oT fun _ h=>.inl h⟩
  all_goals simp -implicitDefEqProofs only[op,ef,cl,sq,reduceIte,j2,j3,j4,j5,j6,j7,j8,j9,y1,S1,h0,h1,h2,h3,h4,aC,a6,aB]
set_option maxHeartbeats 8000000
open Go.Sort in
theorem Tn (c n:Nat)(hs:n<16777216):∀m a b b7 (d:Array Nm) H,b-a=m→a≤b→b≤n→b7<1000→d.size=n→H[c]?=some (.cells (aJ eN d.toList)) →
  W env (.call 117 [.ay c 0 n 2,.int .i64 (a:Nat),.int .i64 (b:Nat),.int .i64 (b7:Nat),.fn 61 []]) H (yB c n (pdq aY d a b b7 true true) H):=by
 intro m
 induction m using Nat.strongRecOn with
 | _ m ih =>
 intro a b b7 d H hm fZ hb Zw hn hc
 subst hm
 refine W.bS rfl rfl rfl ?_
 simp -implicitDefEqProofs only[et,op,ef,cl,sq,reduceIte,j2,j3,j4,j5,j6,j7,j8,j9,y1,S1]
 refine W.cF (fun (q:Nat×Nat×Nat×Bool×Bool) R H'=>At H' (fun H'=>SC c n H (fun di=>pdq aY di q.1 q.2.1 q.2.2.1 q.2.2.2.1 q.2.2.2.2=pdq aY d a b b7 true true) H')∧R 0=.ay c 0 n 2∧R 1=.int .i64 q.1∧R 2=.int .i64 q.2.1∧R 3=.int .i64 q.2.2.1∧R 4=.fn 61 []∧R 10=.bool q.2.2.2.1∧R 11=.bool q.2.2.2.2∧a≤q.1∧q.1≤q.2.1∧q.2.1≤b∧q.2.2.1≤b7) (fun q=>q.2.1-q.1) (a,b,b7,true,true) ⟨.i ⟨d,hc,hn,rfl,bl.refl _ _⟩,rfl,rfl,rfl,rfl,rfl,rfl,rfl,Nat.le_refl _,fZ,Nat.le_refl _,Nat.le_refl _⟩ ?_
 rintro⟨a1,b1,l1,wb,wp⟩ R H1 ⟨⟨di,hd,a7,hP,al⟩,h0,h1,h2,h3,h4,aC,a6,q1,q2,q3,q4⟩
 simp only at hP h1 h2 h3 aC a6 q1 q2 q3 q4 ⊢
 rw[pV,fy]
 refine Zr _ rfl c n a1 b1 l1 wb wp R H1 _ h0 h1 h2 h3 h4 aC a6 q2 (by omega) ?_
 intro R1 p1
 rw[dG,cN,fy]
 refine Zs _ rfl c n a1 b1 l1 wb wp di R1 H H1 _ p1 ⟨di,hd,a7,rfl,al⟩ (by omega) q2 hs ?_ ?_
 ·rintro R' H' hle⟨d',gz,fb,rfl,pP⟩
  rw[pdq,if_pos hle]at hP
  simp -implicitDefEqProofs only[op,ef,cl,sq,reduceIte,j2,j3,j4,j5,j6,j7,j8,j9,y1,S1]
  exact⟨rfl,_,gz,fb,hP,pP⟩
 intro R2 aB p2
 rw[dG,cN,fy]
 refine Zt _ rfl c n a1 b1 l1 wb wp di R2 H H1 _ p2 ⟨di,hd,a7,rfl,al⟩ (by omega) (by omega) hs ?_ ?_
 ·rintro R' H' xF⟨d',gz,fb,rfl,pP⟩
  rw[pdq,if_neg aB,if_pos xF]at hP
  simp -implicitDefEqProofs only[op,ef,cl,sq,reduceIte,j2,j3,j4,j5,j6,j7,j8,j9,y1,S1]
  exact⟨rfl,_,gz,fb,hP,pP⟩
 intro R3 xF p3
 rw[dG,cN,fy]
 refine Zn _ rfl c n a1 b1 l1 wb wp di R3 H H1 _ p3 ⟨di,hd,a7,rfl,al⟩ (by omega) (by omega) hs (by omega) ?_
 rintro R4 H4 p4⟨d1,rf,Cn,e1,xJ⟩
 obtain⟨eC,el⟩:∃l,l=if (!wb)=true then l1-1 else l1:=⟨_,rfl⟩
 have rX:eC≤l1:=by rw[el];split<;>omega
 rw[←el]at p4
 rw[dG,cN,fy]
 refine Zu _ rfl c n a1 b1 eC wb wp d1 R4 H H4 _ p4 ⟨d1,rf,Cn,rfl,xJ⟩ (by omega) (by omega) hs ?_
 rintro R5 H5 p5 bj mH⟨JV,Zx,Ou,Mf,To⟩
 subst Mf
 have Tp:=choosePivot_holds aY JV a1 b1 (by omega)
 obtain⟨cp,ec⟩:∃x,x=choosePivot aY JV a1 b1:=⟨_,rfl⟩
 rw[←ec]at bj mH Tp
 rw[dG,cN,fy]
 refine Zo _ rfl c n a1 b1 eC wb wp JV cp.1 cp.2 R5 H H5 _ p5 bj mH ⟨JV,Zx,Ou,rfl,To⟩ (by omega) (by omega) hs Tp ?_
 rintro R6 H6 p6 bj mH⟨d2,Zy,Zz,e2,ZA⟩
 obtain⟨pv,ep⟩:∃x,x=if cp.2=.decreasing then(b1-1)-(cp.1-a1)else cp.1:=⟨_,rfl⟩
 obtain⟨hi,eh⟩:∃x,x=if cp.2=.decreasing then Hint.increasing else cp.2:=⟨_,rfl⟩
 rw[←ep]at bj
 rw[←eh]at mH
 have lU:a1≤pv∧pv<b1:=by rw[ep];split<;>omega
 rw[dG,cN,fy]
 obtain⟨pi,JT⟩:∃x,x=if (wb&&wp&&hi=.increasing)=true then partialInsertionSort aY d2 a1 b1 else(d2,false):=⟨_,rfl⟩
 rw[Ga aB xF e1 el ec e2 ep eh JT]at hP
 refine Zp _ rfl c n a1 b1 eC wb wp d2 pv hi R6 H H6 _ p6 bj mH ⟨d2,Zy,Zz,rfl,ZA⟩ (by omega) (by omega) hs pi JT ?_ ?_
 ·rintro R' H' uM⟨d',gz,fb,rfl,pP⟩
  rw[if_pos uM]at hP
  simp -implicitDefEqProofs only[op,ef,cl,sq,reduceIte,j2,j3,j4,j5,j6,j7,j8,j9,y1,S1]
  exact⟨rfl,_,gz,fb,hP,pP⟩
 rintro R7 H7 FT p7 bj⟨d3,ZB,JW,e3,ZC⟩
 rw[if_neg (by rw[FT];simp),←e3]at hP
 rw[dG,cN,fy]
 refine Zq _ rfl c n a1 b1 eC wb wp d3 pv R7 H H7 _ p7 bj ⟨d3,ZB,JW,rfl,ZC⟩ (by omega) (by omega) hs lU ?_ ?_
 ·rintro R' H' jZ g0 g1 g2 g3 g4 Ox Hw⟨d',gz,fb,e',pP⟩
  have hr:=B1 d3 lU.1 lU.2 (by omega)
  rw[if_pos jZ,if_pos hr,←e']at hP
  simp -implicitDefEqProofs only[op,ef,cl,sq,reduceIte,j2,j3,j4,j5,j6,j7,j8,j9,y1,S1]
  exact⟨((partitionEqual aY d3 a1 b1 pv).1,b1,eC,wb,wp),by simp only;omega,.i ⟨_,gz,fb,hP,pP⟩,g0,g1,g2,g3,g4,Ox,Hw,by simp only;omega,by simp only;omega,by simp only;omega,by simp only;omega⟩
 rintro R8 H8 jZ p8 bj⟨JX,QC,ZD,ZE,Hz⟩
 subst ZE
 have hr:=partition_holds aY qb JX a1 b1 pv lU.1 lU.2 (by omega)
 rw[if_neg (by rw[jZ];simp),if_pos ⟨hr.1,hr.2.1⟩]at hP
 rw[dG,cN]
 refine Zv _ rfl c n a1 b1 eC wb wp JX pv R8 H H8 _ p8 bj ⟨JX,QC,ZD,rfl,Hz⟩ (by omega) (by omega) hs lU (fun a' b' d' H' ax Oy iW fb iv=>ih _ (by omega) a' b' eC d' H' rfl Oy iW (by omega) fb iv) ?_
 rintro R' H' a' b' d' JU Oy Oz iW ax g0 g1 g2 g3 g4 Ox Hw e'⟨d'',gz,fb,rfl,pP⟩
 simp -implicitDefEqProofs only[op,ef,cl,sq,reduceIte,j2,j3,j4,j5,j6,j7,j8,j9,y1,S1]
 exact⟨(a',b',eC,JU,(partition aY JX a1 b1 pv).2.1),by simp only;omega,.i ⟨_,gz,fb,by simp only;rw[e'];exact hP,pP⟩,g0,g1,g2,g3,g4,Ox,Hw,by simp only;omega,Oz,by simp only;omega,by simp only;omega⟩
open Go.Sort in
theorem JY (c:Nat)(d:Array Nm)(H:af)(hc:H[c]?=some (.cells (aJ eN d.toList)))(hs:d.size<16777216) :
  W env (.call 93 [.ay c 0 d.size 2,.fn 61 []]) H (yB c d.size (sort aY d) H):=by
 refine W.bS rfl rfl rfl ?_
 have w1:IntKind.u64.wrap (d.size:Int)=(d.size:Int):=pn (by omega)
 simp -implicitDefEqProofs only[Jx,op,ef,cl,sq,reduceIte,j2,j3,j4,j5,j6,j7,j8,j9,y1,S1,w1]
 refine ae _ _ _ _ _ _ _ _ (FZ d.size hs _) ?_
 rintro u H1⟨hu,rfl⟩
 cases hu
 have hb:=qa (n:=d.size) (k:=24) hs
 simp -implicitDefEqProofs only[op,ef,cl,sq,reduceIte,j2,j3,j4,j5,j6,j7,j8,j9,y1,S1]
 refine ae _ _ _ _ _ _ _ _ (Tn c d.size hs _ 0 d.size (bitsLen d.size) d _ rfl (Nat.zero_le _) (Nat.le_refl _) (by omega) rfl hc) ?_
 rintro u H2⟨hu,h2⟩
 cases hu
 simp -implicitDefEqProofs only[op,ef,cl,sq,reduceIte,j2,j3,j4,j5,j6,j7,j8,j9,y1,S1]
 exact⟨rfl,h2⟩
theorem nL {d:Array Nm}(hn:d.toList.Nodup):(Go.Sort.sort aY d).toList.Perm d.toList∧(Go.Sort.sort aY d).toList.Pairwise (fun a b=>aY a b=true):=by
 obtain⟨⟨hs,_,hp⟩,Gb⟩:=Go.Sort.sort_sorts aY qb d
 have e1:(Go.Sort.sort aY d).extract 0 d.size=Go.Sort.sort aY d:=by
  conv=>lhs;arg 3;rw[←hs]
  simp
 have fq:(Go.Sort.sort aY d).toList.Perm d.toList:=by
  rw[e1]at hp
  simpa using hp
 refine⟨fq,?_⟩
 have IE:(Go.Sort.sort aY d).toList.Nodup:=fq.nodup_iff.2 hn
 rw[List.pairwise_iff_getElem]
 intro i j hi hj qW
 have h1:=Gb i j (Nat.zero_le _) qW (by rw[←hs];simpa using hj)
 have gi:=iI (d:=Go.Sort.sort aY d) (i:=i) (by simpa using hi)
 have gj:=iI (d:=Go.Sort.sort aY d) (i:=j) (by simpa using hj)
 rw[List.getElem?_eq_getElem hi]at gi
 rw[List.getElem?_eq_getElem hj]at gj
 rw[Option.some.inj gi,Option.some.inj gj]
 cases h:aY (Go.Sort.sort aY d)[i]! (Go.Sort.sort aY d)[j]! with
 | true=>rfl
 | false =>
  have e:=Ak h h1
  rw[←Option.some.inj gi,←Option.some.inj gj]at e
  have:=(List.getElem_inj IE).1 e
  omega
theorem B2 (es:List (Nm×T))(c mb:Nat)(H:af)(fv:(es.map (·.1)).Nodup)(hJ:es.length≤8000000)(hc:H[c]?=some (.cells [.map mb]))(hm:H[mb]?=some (.map (ba kN es))) :
  W env (.call 59 [.fn 94 [.ptr c 0],.fn 61 []]) H (Tk es H):=by
 refine W.bS rfl rfl rfl ?_
 simp -implicitDefEqProofs only[NL,op,ef,cl,sq,reduceIte,j2,j3,j4,j5,j6,j7,j8,j9,y1,S1]
 refine ae _ _ _ _ _ _ _ _ (Og es c mb H fv (by omega) hc hm) ?_
 rintro u H1⟨hx,t,b0,hu,Ag,lG⟩
 cases hu
 have fq:b0.Perm (es.map (·.1)):=(List.perm_ext_iff_of_nodup lG.FR fv).2 fun k=>lG.BQ k
 have mR:b0.length=es.length:=by have:=lG.len;simpa using this
 rcases Ag with⟨rfl,rfl⟩|⟨d,rfl,hd,Hi⟩
 ·simp -implicitDefEqProofs only[op,ef,cl,sq,reduceIte,j2,j3,j4,j5,j6,j7,j8,j9,y1,S1]
  refine ae _ _ _ _ _ _ _ _ (Tj _) ?_
  rintro u H2⟨hu,rfl⟩
  cases hu
  simp -implicitDefEqProofs only[op,ef,cl,sq,reduceIte,j2,j3,j4,j5,j6,j7,j8,j9,y1,S1]
  exact⟨hx,_,[],rfl,nw _ _ _ _,fq,List.Pairwise.nil⟩
 ·simp -implicitDefEqProofs only[op,ef,cl,sq,reduceIte,j2,j3,j4,j5,j6,j7,j8,j9,y1,S1]
  have:=JY d b0.toArray H1 (by simpa using hd) (by simpa using (by omega:b0.length<16777216))
  simp -implicitDefEqProofs only[List.size_toArray]at this
  refine ae _ _ _ _ _ _ _ _ this ?_
  rintro u H2⟨hu,d2,h2,pB,rfl,al⟩
  cases hu
  simp -implicitDefEqProofs only[op,ef,cl,sq,reduceIte,j2,j3,j4,j5,j6,j7,j8,j9,y1,S1]
  have hs:=nL (d:=b0.toArray) (by simpa using lG.FR)
  simp -implicitDefEqProofs only[List.size_toArray]at hs
  refine⟨mG fun a x Tq=>al.get (hx.get Tq) (by have:=aW Tq;omega),_,_,rfl,.inr ⟨d,?_,h2,Hi⟩,hs.1.trans fq,hs.2⟩
  rw[hs.1.length_eq]
theorem LJ {α:Type}{enc:α→List T}{n:Nat}(hn:∀x,(enc x).length=n)(h0:n≠0){n0:Nat}{H:af}{t:T}{l:List α}(hm:pj enc n n0 H t l){i:Nat}{x:α}(hx:l[i]?=some x):∃b,H[b]?=some (.cells (aJ enc l))∧eI n i t=some (.ptr b (i*n))∧qP n (i*n) (some (.cells (aJ enc l)))=some (enc x):=by
 have hi:=(List.getElem?_eq_some_iff.1 hx).1
 rcases hm with⟨rfl,_⟩|⟨b,rfl,hb,_⟩
 ·simp at hi
 ·refine⟨b,hb,by rw[jk];simp[hi,h0],?_⟩
  have:=iD hn hx 0 n (by omega)
  simp -implicitDefEqProofs only[Nat.add_zero,List.drop_zero]at this
  rw[this,List.take_of_length_le (by rw[hn];omega)]
def eK (x:Nm×Hd):List T:=[.str x.1.1,.int .u64 x.1.2,.str x.2.value,.sl .arg (x.2.keys.map eS),.int .i64 x.2.bf]
def po (s:dk)(l:List Nm):List (Nm×Hd):=l.map fun n=>(n,pA (ah s.vs n))
def Ts (s:dk)(H:af):Out→af→Prop:=fun o H'=>Ext H H'∧∃k l,gx k l∧o=.val (.sl k ((po s l).map eK))∧l.Perm (s.vs.map (·.1))∧l.Pairwise (fun a b=>aY a b=true)
theorem OA (b:Bk)(s:dk)(F:Nat→Prop)(H:af)(hs:SH H b s F)(hi:fW s)(hn:s.vs.length≤8000000):W env (.call 18 [.ptr b.s 0]) H (Ts s H):=by
 obtain⟨im,pm,sa⟩:=hs
 refine W.bS rfl rfl rfl ?_
 simp -implicitDefEqProofs only[Nn,op,ef,cl,sq,reduceIte,j2,j3,j4,j5,j6,j7,j8,j9,y1,S1,sa.hs]
 refine ae _ _ _ _ _ _ _ (fun o H'=>o=.val (.fn 94 [.ptr H.length 0])∧H'=H++[.cells [.map b.v]]) ?_ ?_
 ·refine W.bS rfl rfl rfl ?_
  simp -implicitDefEqProofs only[NM,op,ef,cl,sq,reduceIte,j2,j3,j4,j5,j6,j7,j8,j9,y1,S1]
  exact rfl
 rintro u H1⟨hu,rfl⟩
 cases hu
 have lv:=aW sa.hv
 have xl:(dM s.vs).map (·.1)=s.vs.map (·.1):=by simp[dM]
 simp -implicitDefEqProofs only[op,ef,cl,sq,reduceIte,j2,j3,j4,j5,j6,j7,j8,j9,y1,S1]
 refine ae _ _ _ _ _ _ _ _ (B2 (dM s.vs) H.length b.v _ (by rw[xl];exact hi.nd) (by simpa[dM]using hn) (aX rfl) (by rw[aV lv];exact sa.hv)) ?_
 rintro t H2⟨xI,_,l,hu,Ag,fq,JZ⟩
 cases hu
 rw[xl]at fq
 have rX:l.length≤8000000:=by rw[fq.length_eq];simpa using hn
 have hlen:=Ag.len
 have jr:Ext H H2:=(Ext.rfl'.app _).trans xI
 simp -implicitDefEqProofs only[op,ef,cl,sq,reduceIte,j2,j3,j4,j5,j6,j7,j8,j9,y1,S1,hlen]
 have abh:∀Hx,jc Hx .sl t=some l.length:=fun Hx=>by
  rcases Ag with⟨e,rfl⟩|⟨c,rfl,_,_⟩
  ·rw[e];rfl
  ·rfl
 refine W.cF (fun (i:Nat) R H'=>At H' (fun H'=>∃kw,R 3=.sl kw ((po s (l.take i)).map eK)∧Ext H H'∧Ext H2 H'∧lC H2.length H' kw∧gx kw (l.take i))∧R 0=.ptr b.s 0∧R 11=t∧R 12=.int .i64 l.length∧R 13=.int .i64 i∧i≤l.length) (fun i=>l.length-i) 0 ⟨.i ⟨.nil,rfl,jr,Ext.rfl',iE _ _,fun _=>rfl⟩,rfl,rfl,rfl,rfl,Nat.zero_le _⟩ ?_
 rintro i R H3⟨⟨kw,h3,rN,yL,mD,mF⟩,h0,a6,aB,bj,kC⟩
 by_cases ax:i<l.length
 ·obtain⟨m,hm⟩:=cB ax
  have ws:=aU (show i<9223372036854775807 by omega)
  obtain⟨c,g1,g2,g3⟩:=LJ (enc:=eN) (n:=2) (fun _=>rfl) (by decide) (Ag.ext yL) hm
  have Ai:=sa.ma (aA (F:=fun _=>False) rN) (fun _ _ _ h=>h)
  have l0:=aW Ai.hs
  have lv3:=aW Ai.hv
  have lT:=fun Hx z ok=>kM uK z ok Hx (dM s.vs) m
  simp -implicitDefEqProofs only[kN,eN]at lT
  have hh:=yv s.vs m
  simp -implicitDefEqProofs only[op,ef,cl,sq,reduceIte,j2,j3,j4,j5,j6,j7,j8,j9,y1,S1,S2,S3,List.length_set,h0,a6,aB,bj,ax,aa,g1,g2,g3,eN,Ai.hs,Ai.hv,l0,lv3,lT,hh,eY]
  refine ae _ _ _ _ _ _ _ _ (BV b s F m.1 m.2 _ ⟨im,pm,Ai.ma (aA (F:=fun _=>False) (Ext.rfl'.app _)) (fun _ _ _ h=>h)⟩ hi) ?_
  rintro u H4⟨xK,kk,bO,hu⟩
  cases hu
  have c0:H4[H3.length]?=some (.cells [.str m.1,.int .u64 m.2]):=xK.get (by rw[aX rfl])
  have B3:Ext H3 H4:=(Ext.rfl'.app _).trans xK
  have s4:=B3.get Ai.hs
  have v4:=B3.get Ai.hv
  obtain⟨hd,oN⟩:∃hd,hd=pA (ah s.vs m):=⟨_,rfl⟩
  rw[←oN]at hh bO
  have cn:=all_map (enc:=eK) (n:=5) (fun _=>rfl) (po s (l.take i))
  have U2:((po s (l.take i)).map eK).length≤8000000:=by simp -implicitDefEqProofs only[po,List.length_map,List.length_take];omega
  obtain⟨k',H5,ha,OB,dF⟩:=kR (bytes:=72) ((po s (l.take i)).map eK) [[T.str m.1,.int .u64 m.2,.str hd.value,.sl .arg (hd.keys.map eS),.int .i64 hd.bf]] (mD.ext B3) (Nat.le_trans yL.len B3.len) (by simp) (kS (by simp -implicitDefEqProofs only[List.length_cons,List.length_nil];omega))
  have ud:=uJ ha (by simp)
  simp -implicitDefEqProofs only[op,ef,cl,sq,reduceIte,j2,j3,j4,j5,j6,j7,j8,j9,y1,S1]at ha
  simp -implicitDefEqProofs only[op,ef,cl,sq,reduceIte,j2,j3,j4,j5,j6,j7,j8,j9,y1,S1,SM,h3,c0,s4,v4,lT,hh,eY,←oN,cn,ha,h0,a6,aB,bj,ws]
  refine⟨i+1,by omega,.i ⟨k',?_,dF.ext H (by have:=jr.len;omega) (rN.trans B3),dF.ext H2 (Nat.le_refl _) (yL.trans B3),OB,fun h=>absurd h ud⟩,rfl,by omega⟩
  rw[cC hm]
  simp -implicitDefEqProofs only[po,List.map_append,List.map_cons,List.map_nil,eK,←oN]
 ·have mE:i=l.length:=by omega
  subst mE
  rw[List.take_length]at h3 mF
  simp -implicitDefEqProofs only[op,ef,cl,sq,reduceIte,j2,j3,j4,j5,j6,j7,j8,j9,y1,S1,h3,aB,bj,ax]
  exact⟨rN,kw,l,mF,rfl,fq,JZ⟩
theorem tK:∀(l l':List Nm),l.Pairwise (fun a b=>aY a b=true)→l'.Pairwise (fun a b=>aY a b=true)→(∀x,x∈l↔x∈l')→l=l'
 | [],[],_,_,_=>rfl
 | [],b :: l',_,_,h=>by have:=(h b).2 (by simp);simp at this
 | a :: l,[],_,_,h=>by have:=(h a).1 (by simp);simp at this
 | a :: l,b :: l',h1,h2,h=>by
  rw[List.pairwise_cons]at h1 h2
  have e:a=b:=by
   rcases List.mem_cons.1 ((h a).1 (by simp))with e|e
   ·exact e
   ·rcases List.mem_cons.1 ((h b).2 (by simp))with e2|e2
    ·exact e2.symm
    ·have q1:=h2.1 a e
     have q2:=h1.1 b e2
     have:=lI q1 q2
     rw[lH]at this;cases this
  subst e
  rw[tK l l' h1.2 h2.2 fun x=>?_]
  have hx:=h x
  simp -implicitDefEqProofs only[List.mem_cons]at hx
  constructor
  ·intro hm
   rcases hx.1 (.inr hm)with e|e
   ·subst e;have:=h1.1 x hm;rw[lH]at this;cases this
   ·exact e
  ·intro hm
   rcases hx.2 (.inr hm)with e|e
   ·subst e;have:=h2.1 x hm;rw[lH]at this;cases this
   ·exact e
theorem mem_keys {α β:Type}[DecidableEq α]{es:List (α×β)}{k:α}:k∈es.map (·.1)↔(ah es k).isSome=true:=by
 cases h:ah es k with
 | none=>simp[cw.1 h]
 | some v =>
  simp -implicitDefEqProofs only[Option.isSome_some,iff_true]
  exact List.mem_map.2 ⟨_,BS h,rfl⟩
theorem OC {α:Type}{l l':List α}(h1:l.Nodup)(h2:l'.Nodup)(h:∀x,x∈l↔x∈l'):l.length=l'.length:=((List.perm_ext_iff_of_nodup h1 h2).2 h).length_eq
def tA:ByteArray:=⟨#[97]⟩
def tB:ByteArray:=⟨#[98]⟩
def tX:ByteArray:=⟨#[120]⟩
def tY:ByteArray:=⟨#[121]⟩
def tZ:ByteArray:=⟨#[122]⟩
abbrev l1:List (ByteArray×ByteArray):=[(tA,tX),(tB,tY)]
abbrev l2:List (ByteArray×ByteArray):=[(tA,tZ)]
theorem SH.ext {H H':af}{b:Bk}{s:dk}{F:Nat→Prop}(h:SH H b s F)(hx:Ext H H'):SH H' b s F:=by
 obtain⟨im,pm,sa⟩:=h
 exact⟨im,pm,sa.ma (aA (F:=fun _=>False) hx) (fun _ _ _ h=>h)⟩
theorem bl.more {H H' vI:af}{G:Nat→Prop}(h:bl (fun _=>False) H H')(h':bl G H' vI)(hg:∀c,G c→H.length≤c):bl (fun _=>False) H vI:=h.trans h' fun c hc=>.inr (hg c hc)
theorem bl.ext {H H' vI:af}{F:Nat→Prop}(h:bl F H H')(h':Ext H' vI):bl F H vI:=h.trans (aA (F:=fun _=>False) h') fun c hc=>hc.elim
theorem gC {H H':af}(h:bl (fun _=>False) H H'):Ext H H':=mG fun c x hx=>h.get hx id
theorem li0 {k:SK}{a b c:List T}(h:a.length=5):eI 5 0 (.sl k [a,b,c])=some (.dL a):=by simp[eI,h]
theorem Y4 {k:SK}{a b c:List T}(h:b.length=5):eI 5 1 (.sl k [a,b,c])=some (.dL b):=by simp[eI,h]
end Go.Proofs.YtdcpehdijdllpaaGreat.St
end

section
namespace Go.Proofs.YtdcpehdijdllpaaGreat.St
open Go.Rmp Go.Proofs.YtdcpehdijdllpaaGreat.Ir
set_option maxRecDepth 10000
def ZF (c:Nat)(d':Array ByteArray)(H:af):Out→af→Prop:=fun o H'=>o=.val (.bN [])∧H'[c]?=some (.cells (aJ eS d'.toList))∧bl (fun x=>x=c) H H'
theorem rh {Hx:af}{c:Nat}(d:Array ByteArray){i j:Nat}(hi:i<d.size)(hj:j<d.size) :
  oJ Hx c [.str d[j]!] (i*1) (some (.cells (aJ eS d.toList)))=some (Hx.set c (.cells (aJ eS (d.toList.set i d[j]!)))) ∧
  ∀Hy,oJ Hy c [.str d[i]!] (j*1) (some (.cells (aJ eS (d.toList.set i d[j]!))))=some (Hy.set c (.cells (aJ eS (Go.Sort.swp d i j).toList))):=by
 have g1:=jI (enc:=eS) (n:=1) (y:=d[j]!) (fun _=>rfl) (iI hi) Hx c (eS d[j]!) 0 (by simp[eS]) (by simp[eS])
 obtain⟨z,hz⟩:=cB (l:=d.toList.set i d[j]!) (i:=j) (by simpa using hj)
 have g2:=fun Hy=>jI (enc:=eS) (n:=1) (y:=d[i]!) (fun _=>rfl) hz Hy c (eS d[i]!) 0 (by simp[eS]) (by simp[eS])
 refine⟨by simpa[eS]using g1,fun Hy=>?_⟩
 rw[xh]
 simpa[eS]using g2 Hy
theorem yM {d:Array ByteArray}{i:Nat}(h:i<d.size):qP 1 (i*1) (some (.cells (aJ eS d.toList)))=some [.str d[i]!]:=by
 have:=iD (enc:=eS) (n:=1) (fun _=>rfl) (iI h) 0 1 (by decide)
 simpa[eS]using this
open Go.Sort in
theorem Tt (c:Nat)(d:Array ByteArray)(a b:Nat)(H:af)(hc:H[c]?=some (.cells (aJ eS d.toList)))(hb:b≤d.size)(fZ:a≤b)(hs:d.size<4611686018427387903) :
  W env (.call 142 [.ay c 0 d.size 1,.int .i64 a,.int .i64 b]) H (ZF c (insertionSort strLt d a b) H):=by
 refine W.bS rfl rfl rfl ?_
 have wa:=aU (show a<9223372036854775807 by omega)
 simp -implicitDefEqProofs only[Ac,op,ef,cl,sq,reduceIte,j2,j3,j4,j5,j6,j7,j8,j9,y1,S1,wa]
 refine W.cF (fun (i:Nat) R H'=>At H' (fun H'=>∃di:Array ByteArray,H'[c]?=some (.cells (aJ eS di.toList))∧di.size=d.size∧insOuter strLt a b i di=insertionSort strLt d a b∧bl (fun x=>x=c) H H')∧R 0=.ay c 0 d.size 1∧R 1=.int .i64 a∧R 2=.int .i64 b∧R 6=.int .i64 i∧a+1≤i) (fun i=>b-i) (a+1) ⟨.i ⟨d,hc,rfl,rfl,bl.refl _ _⟩,rfl,rfl,rfl,rfl,Nat.le_refl _⟩ ?_
 rintro i R H1⟨⟨di,hd,a7,yA,al⟩,h0,h1,h2,h6,vA⟩
 by_cases ax:i<b
 ·have wi:=aU (show i<9223372036854775807 by omega)
  simp -implicitDefEqProofs only[op,ef,cl,sq,reduceIte,j2,j3,j4,j5,j6,j7,j8,j9,y1,S1,h0,h1,h2,h6,ax]
  refine W.cM 2 (fun (j:Nat) R H'=>At H' (fun H'=>∃dj:Array ByteArray,H'[c]?=some (.cells (aJ eS dj.toList))∧dj.size=d.size∧insInner strLt a j dj=insInner strLt a i di∧bl (fun x=>x=c) H H')∧R 0=.ay c 0 d.size 1∧R 1=.int .i64 a∧R 2=.int .i64 b∧R 6=.int .i64 i∧R 7=.int .i64 j∧j≤i) (fun j=>j) i
   (fun R H'=>At H' (fun H'=>∃dj:Array ByteArray,H'[c]?=some (.cells (aJ eS dj.toList))∧dj.size=d.size∧dj=insInner strLt a i di∧bl (fun x=>x=c) H H')∧R 0=.ay c 0 d.size 1∧R 1=.int .i64 a∧R 2=.int .i64 b∧R 6=.int .i64 i) ?_ ?_ ?_
  ·refine⟨.i ⟨di,hd,a7,rfl,al⟩,?_,?_,?_,?_,?_,Nat.le_refl _⟩
   all_goals (simp -implicitDefEqProofs only[op,ef,cl,sq,reduceIte,j2,j3,j4,j5,j6,j7,j8,j9,y1,S1,h0,h1,h2,h6])
  ·rintro j R H2⟨⟨dj,cr,pB,ra,jK⟩,q0,q1,q2,q6,q7,MD⟩
   by_cases Oi:a<j
   ·obtain⟨j',rfl⟩:∃j',j=j'+1:=⟨j-1,by omega⟩
    have wp:IntKind.i64.wrap (((j'+1:Nat):Int)-1)=(j':Int):=by rw[wrap64 (by omega)];omega
    have j1:j'+1<d.size:=by omega
    have j0:j'<d.size:=by omega
    have i1:eI 1 (j'+1) (.ay c 0 d.size 1)=some (.ptr c ((j'+1)*1)):=by rw[jk];simp[j1]
    have i0:eI 1 j' (.ay c 0 d.size 1)=some (.ptr c (j'*1)):=by rw[jk];simp[j0]
    have v1:=yM (d:=dj) (i:=j'+1) (by omega)
    have v0:=yM (d:=dj) (i:=j') (by omega)
    simp -implicitDefEqProofs only[op,ef,cl,sq,reduceIte,j2,j3,j4,j5,j6,j7,j8,j9,y1,S1,q0,q1,q2,q6,q7,Oi,aa,i1,i0,wp,cr,v1,v0]
    refine ae _ _ _ _ _ _ _ _ (dH dj[j'+1]! dj[j']! _) ?_
    rintro u H3⟨hu,rfl⟩
    cases hu
    have nJ:=cr
    obtain⟨s1,s2⟩:=rh (Hx:=H3) (c:=c) dj (i:=j'+1) (j:=j') (by omega) (by omega)
    cases mh:strLt dj[j'+1]! dj[j']! with
    | true =>
     simp -implicitDefEqProofs only[op,ef,cl,sq,reduceIte,j2,j3,j4,j5,j6,j7,j8,j9,y1,S1,q0,q1,q2,q6,q7,aa,i1,i0,wp,nJ,v1,v0,s1,S2,s2,aW nJ]
     exact⟨j',by omega,.i ⟨swp dj (j'+1) j',bT (by rw[List.length_set];exact aW nJ),by rw[swp_size];exact pB,by rw[←ra];conv=>{ rhs;rw[insInner,if_pos (by simp -implicitDefEqProofs only[Bool.and_eq_true,decide_eq_true_eq];exact⟨Oi,mh⟩)] },(jK.set (.inl rfl) _).set (.inl rfl) _⟩,rfl,by omega⟩
    | false =>
     simp -implicitDefEqProofs only[op,ef,cl,sq,reduceIte,j2,j3,j4,j5,j6,j7,j8,j9,y1,S1,q0,q1,q2,q6,q7]
     exact .i ⟨dj,nJ,pB,by rw[←ra,insInner];simp[mh],jK⟩
   ·simp -implicitDefEqProofs only[op,ef,cl,sq,reduceIte,j2,j3,j4,j5,j6,j7,j8,j9,y1,S1,q0,q1,q2,q6,q7,Oi]
    refine .i ⟨dj,cr,pB,?_,jK⟩
    rw[←ra]
    cases j with
    | zero=>rfl
    | succ j=>rw[insInner,if_neg (by simp -implicitDefEqProofs only[Bool.and_eq_true,decide_eq_true_eq];omega)]
  ·rintro R H2⟨⟨dj,cr,pB,ra,jK⟩,q0,q1,q2,q6⟩
   simp -implicitDefEqProofs only[op,ef,cl,sq,reduceIte,j2,j3,j4,j5,j6,j7,j8,j9,y1,S1,q0,q1,q2,q6,wi]
   refine⟨i+1,by omega,.i ⟨dj,cr,pB,?_,jK⟩,rfl,by omega⟩
   rw[←yA,ra]
   conv=>rhs;rw[insOuter,if_pos ax]
 ·simp -implicitDefEqProofs only[op,ef,cl,sq,reduceIte,j2,j3,j4,j5,j6,j7,j8,j9,y1,S1,h0,h1,h2,h6,ax]
  rw[insOuter,if_neg ax]at yA
  subst yA
  exact⟨rfl,hd,al⟩
theorem lJ:Go.Sort.SWO strLt where
 irrefl:=eX
 trans _ _ _ h1 h2:=eo h1 h2
 ntrans x y z h1 h2:=by
  cases h:strLt x z with
  | false=>rfl
  | true =>
   cases h3:strLt y x with
   | true=>rw[eo h3 h]at h2;cases h2
   | false=>have:=qO h1 h3;subst this;rw[h]at h2;cases h2
theorem OD (H:af):W env (.call 142 [.sl .nil [],.int .i64 0,.int .i64 0]) H (py (.bN []) H):=by
 refine W.bS rfl rfl rfl ?_
 have wa:IntKind.i64.wrap ((0:Int)+1)=1:=by decide
 simp -implicitDefEqProofs only[Ac,op,ef,cl,sq,reduceIte,j2,j3,j4,j5,j6,j7,j8,j9,y1,S1,wa]
 refine W.cF (fun (_:Nat) R H'=>H'=H∧R 2=.int .i64 0∧R 6=.int .i64 1) (fun _=>0) 0 ⟨rfl,rfl,rfl⟩ ?_
 rintro _ R _⟨rfl,h2,h6⟩
 have l0:¬((1:Int)<0):=by decide
 simp -implicitDefEqProofs only[op,ef,cl,sq,reduceIte,j2,j3,j4,j5,j6,j7,j8,j9,y1,S1,h2,h6,l0]
 trivial
theorem OE (m:Nat)(H:af):W env (.call 122 [.sl .nil [],.int .i64 0,.int .i64 0,.int .i64 m]) H (py (.bN []) H):=by
 refine W.bS rfl rfl rfl ?_
 have w1:IntKind.i64.wrap ((0:Int)-0)=0:=by decide
 simp -implicitDefEqProofs only[eu,op,ef,cl,sq,reduceIte,j2,j3,j4,j5,j6,j7,j8,j9,y1,S1]
 refine W.cF (fun (_:Nat) R H'=>H'=H∧R 0=.sl .nil []∧R 1=.int .i64 0∧R 2=.int .i64 0) (fun _=>0) 0 ⟨rfl,rfl,rfl,rfl⟩ ?_
 rintro _ R _⟨rfl,h0,h1,h2⟩
 have l0:(0:Int)≤12:=by decide
 simp -implicitDefEqProofs only[op,ef,cl,sq,reduceIte,j2,j3,j4,j5,j6,j7,j8,j9,y1,S1,h0,h1,h2,w1,l0]
 refine ae _ _ _ _ _ _ _ _ (OD _) ?_
 rintro u H2⟨hu,rfl⟩
 cases hu
 simp -implicitDefEqProofs only[op,ef,cl,sq,reduceIte,j2,j3,j4,j5,j6,j7,j8,j9,y1,S1]
 trivial
theorem J0 (H:af):W env (.call 99 [.sl .nil []]) H (py (.bN []) H):=by
 refine W.bS rfl rfl rfl ?_
 have w1:IntKind.u64.wrap ((0:Nat):Int)=((0:Nat):Int):=by decide
 have e0:((0:Nat):Int)=0:=rfl
 simp -implicitDefEqProofs only[Jy,op,ef,cl,sq,reduceIte,j2,j3,j4,j5,j6,j7,j8,j9,y1,S1,w1]
 refine ae _ _ _ _ _ _ _ _ (S6 0 (by omega) _) ?_
 rintro u H1⟨rfl,m,hu⟩
 cases hu
 simp -implicitDefEqProofs only[op,ef,cl,sq,reduceIte,j2,j3,j4,j5,j6,j7,j8,j9,y1,S1,e0]
 refine ae _ _ _ _ _ _ _ _ (OE m _) ?_
 rintro u H2⟨hu,rfl⟩
 cases hu
 simp -implicitDefEqProofs only[op,ef,cl,sq,reduceIte,j2,j3,j4,j5,j6,j7,j8,j9,y1,S1]
 trivial
def OF (es:List (ByteArray×T))(H:af):Out→af→Prop:=fun o H'=>Ext H H'∧∃t l,o=.val t∧pj eS 1 H.length H' t l∧l.Perm (es.map (·.1))∧l.Pairwise (fun a b=>strLt a b=true)
def eL (x:ByteArray×Nat):List T:=[.str x.1,.int .u64 x.2]
def pq (s:dk)(l:List ByteArray):List (ByteArray×Nat):=l.map fun k=>(k,bJ s k)
def OG (s:dk)(H:af):Out→af→Prop:=fun o H'=>Ext H H'∧∃k l,gx k l∧o=.val (.sl k ((pq s l).map eL))∧l.Perm (s.ls.map (·.1))∧l.Pairwise (fun a b=>strLt a b=true)
end Go.Proofs.YtdcpehdijdllpaaGreat.St
end
