/- Part of a proof of a law of this seat: the machine of plain values, its simulation, and the contracts of the functions that the law reaches. Conditions: none beyond the given row. -/
import Derived.Test.YtdcpehdijdllpaaGreatM2
import Derived.Sort.AssemblyPlain
open Int renaming reduceLT → j2, reduceLE → j3, reduceBEq → j4, reduceBNe → j5, reduceEq → j6
open Nat renaming reduceAdd → j7, reduceLeDiff → j8, reduceLT → j9, reduceEqDiff → y1
set_option linter.unusedSimpArgs false
set_option linter.unusedVariables false
set_option linter.unnecessarySimpa false
set_option maxHeartbeats 4000000
section
namespace Go.Proofs.YtdcpehdijdllpaaGreat.St
open Go.Rmp Go.Proofs.YtdcpehdijdllpaaGreat.Ir
set_option maxRecDepth 10000
theorem tw.Y0 {H:af}{b:Bk}{im:List (ByteArray×T)}{pm:List (Nat×T)}{s:dk}{F:Nat→Prop}(h:tw H b im pm s F)(vs:List (Nm×Hd)):tw (H.set b.v (.map (ba kN (dM vs)))) b im pm { s with vs:=vs } F:=by
 obtain⟨n1,n2,n3,n4⟩:=h.ne
 have k:∀{c x},c≠b.v→H[c]?=some x→(H.set b.v (.map (ba kN (dM vs))))[c]?=some x:=fun hc hx=>by rw[bf (Ne.symm hc)];exact hx
 exact⟨k (Ne.symm n1) h.hs,bU (aW h.hv),k (Ne.symm h.vi) h.hi,k (Ne.symm h.vp) h.hp,k (Ne.symm h.vl) h.hl,h.vi,h.vp,h.vl,h.ip,h.il,h.pl,h.F0,
  fun q=>(h.oi q).dF (fun c x hc hx=>k (h.iU hc).2.1 hx) (fun _ _ h=>h),fun q=>(h.op q).dF (fun c x hc hx=>k (h.ke hc).2.1 hx) (fun _ _ h=>h),h.si,h.sp,h.sx,h.np⟩
theorem tw.SL {H:af}{b:Bk}{im:List (ByteArray×T)}{pm:List (Nat×T)}{s:dk}{F:Nat→Prop}(h:tw H b im pm s F)(ls:List (ByteArray×Nat)):tw (H.set b.l (.map (ba T.str (kd ls)))) b im pm { s with ls:=ls } F:=by
 obtain⟨n1,n2,n3,n4⟩:=h.ne
 have k:∀{c x},c≠b.l→H[c]?=some x→(H.set b.l (.map (ba T.str (kd ls))))[c]?=some x:=fun hc hx=>by rw[bf (Ne.symm hc)];exact hx
 exact⟨k (Ne.symm n4) h.hs,k h.vl h.hv,k h.il h.hi,k h.pl h.hp,bU (aW h.hl),h.vi,h.vp,h.vl,h.ip,h.il,h.pl,h.F0,
  fun q=>(h.oi q).dF (fun c x hc hx=>k (h.iU hc).2.2.2.2.1 hx) (fun _ _ h=>h),fun q=>(h.op q).dF (fun c x hc hx=>k (h.ke hc).2.2.2.2.1 hx) (fun _ _ h=>h),h.si,h.sp,h.sx,h.np⟩
def stamped (h:Hd)(now:Int):Hd:={ h with a9:=now }
def VS (v v':List (Nm×Hd))(now:Int)(S:Nm→Prop):Prop:=(v'.map (·.1)).Nodup∧∀m,(ah v m=none→ah v' m=none)∧∀h,ah v m=some h→(S m∧h.a9=-1→ah v' m=some (stamped h now))∧(¬(S m∧h.a9=-1)→ah v' m=some h)
theorem VS.some {v v':List (Nm×Hd)}{now:Int}{S:Nm→Prop}(h:VS v v' now S)(m:Nm):(ah v' m).isSome=(ah v m).isSome:=by
 obtain⟨h1,h2⟩:=h.2 m
 cases e:ah v m with
 | none=>rw[h1 e]
 | some x =>
  by_cases hc:S m∧x.a9=-1
  ·rw[(h2 x e).1 hc];rfl
  ·rw[(h2 x e).2 hc]
theorem VS.inv {s:dk}(hi:fY s){v':List (Nm×Hd)}{now:Int}{S:Nm→Prop}(h:VS s.vs v' now S)(ls:List (ByteArray×Nat))(Ho:(ls.map (·.1)).Nodup):fY { s with vs:=v',ls:=ls }:=by
 refine⟨hi.w6,fun k n=>?_,hi.N2,fun n k=>?_,h.1,fun m x hm=>?_,hi.bi,hi.bp,Ho⟩
 ·show n∈s.ids k↔(ah v' (k,n)).isSome=true
  rw[h.some];exact hi.Hl k n
 ·show k∈s.cX n↔(ah v' (k,n)).isSome=true
  rw[h.some];exact hi.Jw n k
 ·have hm:ah v' m=.some x:=hm
  obtain⟨h1,h2⟩:=h.2 m
  cases e:ah s.vs m with
  | none=>rw[h1 e]at hm;cases hm
  | some y =>
   have hy:=hi.SD m y e
   by_cases hc:S m∧y.a9=-1
   ·rw[(h2 y e).1 hc]at hm;cases hm;exact hy
   ·rw[(h2 y e).2 hc]at hm;cases hm;exact hy
theorem VS.nil {v:List (Nm×Hd)}(hn:(v.map (·.1)).Nodup){now:Int}:VS v v now (fun _=>False):=⟨hn,fun m=>⟨id,fun h e=>⟨fun hh=>hh.1.elim,fun _=>e⟩⟩⟩
theorem VS.mono {v v':List (Nm×Hd)}{now:Int}{S S':Nm→Prop}(h:VS v v' now S)(hs:∀m,(ah v m).isSome=true→(S m↔S' m)):VS v v' now S':=⟨h.1,fun m=>⟨(h.2 m).1,fun x e=>by
 have:=hs m (by rw[e];rfl)
 rw[←this];exact(h.2 m).2 x e⟩⟩
theorem VS.add {v v':List (Nm×Hd)}{now:Int}{S:Nm→Prop}(h:VS v v' now S){m:Nm}{x:Hd}(hx:ah v' m=.some x)(hc:x.a9=-1)(hS:¬S m):VS v (ct v' m (stamped x now)) now (fun m'=>S m'∨m'=m):=by
 refine⟨cW h.1 _ _,fun m'=>?_⟩
 rw[bm]
 by_cases e:m'=m
 ·subst e
  simp -implicitDefEqProofs only[if_true]
  have e2:=h.some m'
  rw[hx]at e2
  refine⟨fun hn=>(by rw[hn]at e2;cases e2),fun y hy=>?_⟩
  have:y=x:=by
   have:=((h.2 m').2 y hy).2 fun hh=>hS hh.1
   rw[hx]at this;exact(Option.some.inj this).symm
  subst this
  exact⟨fun _=>rfl,fun hh=>absurd ⟨.inr trivial,hc⟩ hh⟩
 ·simp -implicitDefEqProofs only[e,if_false,or_false]
  exact h.2 m'
theorem VS.skip {v v':List (Nm×Hd)}{now:Int}{S:Nm→Prop}(h:VS v v' now S){m:Nm}{x:Hd}(hx:ah v' m=.some x)(hc:x.a9≠-1)(hS:¬S m):VS v v' now (fun m'=>S m'∨m'=m):=by
 refine⟨h.1,fun m'=>⟨(h.2 m').1,fun y hy=>?_⟩⟩
 by_cases e:m'=m
 ·subst e
  have:=((h.2 m').2 y hy).2 fun hh=>hS hh.1
  have e2:y=x:=by rw[hx]at this;exact(Option.some.inj this).symm
  subst e2
  exact⟨fun hh=>absurd hh.2 hc,fun _=>hx⟩
 ·simp -implicitDefEqProofs only[e,or_false]
  exact(h.2 m').2 y hy
structure sf (s s':dk)(n:Nat)(now:Int)(D:List ByteArray):Prop where
 vs:VS s.vs s'.vs now (fun m=>m.1∈D∧bE s m.1<n∧m.2<n)
 on:∀k,k∈D→bE s k<n→ah s'.ls k=.some n
 off:∀k,¬(k∈D∧bE s k<n)→ah s'.ls k=ah s.ls k
 yr:(s.ls.map (·.1)).Nodup→(s'.ls.map (·.1)).Nodup
def Y1 (b:Bk)(s:dk)(F:Nat→Prop)(n:Nat)(now:Int)(H:af):Out→af→Prop:=fun o H'=>∃s',o=.val (.bF [.int .i64 (s.cX n).length,.int .i64 0])∧SH H' b s' F∧fY s'∧sf s s' n now (s.cX n)∧s'.n=s.n∧s'.cX=s.cX∧s'.ids=s.ids∧bh F H H'
theorem sf.skip {s s':dk}{n:Nat}{now:Int}{D:List ByteArray}(h:sf s s' n now D){k:ByteArray}(hk:n≤bE s k):sf s s' n now (D++[k]):=by
 have key:∀k',k'∈D++[k]∧bE s k'<n→k'∈D:=fun k' hh=>by
  rcases List.mem_append.1 hh.1 with h|h
  ·exact h
  ·simp at h;subst h;omega
 exact⟨h.vs.mono fun m _=>⟨fun hh=>⟨List.mem_append_left _ hh.1,hh.2⟩,fun hh=>⟨key _ ⟨hh.1,hh.2.1⟩,hh.2⟩⟩,fun k' h1 h2=>h.on k' (key _ ⟨h1,h2⟩) h2,fun k' hh=>h.off k' fun h'=>hh ⟨List.mem_append_left _ h'.1,h'.2⟩,h.yr⟩
theorem sf.add {s s' s2:dk}{n:Nat}{now:Int}{D:List ByteArray}(h:sf s s' n now D){k:ByteArray}(hk:bE s k<n)(hl:s2.ls=ct s'.ls k n)
  (hv:VS s.vs s2.vs now (fun m=>(m.1∈D∧bE s m.1<n∧m.2<n)∨(m.1=k∧m.2<n))):sf s s2 n now (D++[k]):=by
 refine⟨hv.mono fun m _=>?_,fun k' h1 h2=>?_,fun k' hh=>?_,fun hh=>by rw[hl];exact cW (h.yr hh) _ _⟩
 ·simp -implicitDefEqProofs only[List.mem_append,List.mem_singleton]
  constructor
  ·rintro (⟨a,b,c⟩|⟨a,c⟩)
   ·exact⟨.inl a,b,c⟩
   ·exact⟨.inr a,by rw[a];exact hk,c⟩
  ·rintro⟨a|a,b,c⟩
   ·exact .inl ⟨a,b,c⟩
   ·exact .inr ⟨a,c⟩
 ·rw[hl,bm]
  by_cases e:k'=k
  ·rw[if_pos e]
  ·rw[if_neg e];exact h.on k' (by simpa[e]using h1) h2
 ·rw[hl,bm,if_neg]
  ·exact h.off k' fun h'=>hh ⟨List.mem_append_left _ h'.1,h'.2⟩
  ·rintro rfl;exact hh ⟨by simp,hk⟩
theorem FP (b:Bk)(s:dk)(F:Nat→Prop)(n:Nat)(now:Int)(H:af)(hs:SH H b s F)(hi:fY s)(hn:s.n≤8000000)(SM:65536≤n)(ht:bl now) :
  W env (.call 24 [.ptr b.s 0,.int .u64 n,.int .i64 now]) H (Y1 b s F n now H):=by
 obtain⟨im,pm,sa⟩:=hs
 have Y2:¬(n<65536):=by omega
 obtain⟨t,yw⟩:∃t,iT (ah pm n) (.sl .nil []) false=t:=⟨_,rfl⟩
 have au:=((sa.op n).mut).len
 rw[yw]at au
 have hbp:=hi.bp n
 refine W.bR rfl rfl rfl ?_
 simp -implicitDefEqProofs only[EW,op,ef,cl,sq,reduceIte,j2,j3,j4,j5,j6,j7,j8,j9,y1,S1,Y2]
 refine ae _ _ _ _ _ _ _ _ (qP now _) ?_
 rintro u H⟨hu,rfl⟩
 have FN:(decide (0≤now)&&decide (now≤1099511627776))=true:=by simp[ht.1,ht.2]
 rw[FN]at hu
 cases hu
 simp -implicitDefEqProofs only[op,ef,cl,sq,reduceIte,j2,j3,j4,j5,j6,j7,j8,j9,y1,S1,sa.hs,sa.hp,kX,yw]
 have hl:=fun Hx (h:pc eS 1 0 Hx t (s.cX n))=>h.len
 have hlH:∀Hx,jf Hx .sl t=some (s.cX n).length:=fun Hx=>by
  have:=(sa.op n).mut
  rw[yw]at this
  rcases this with⟨e,rfl⟩|⟨c,rfl,_,_⟩
  ·rw[e];rfl
  ·rfl
 simp -implicitDefEqProofs only[op,ef,cl,sq,reduceIte,j2,j3,j4,j5,j6,j7,j8,j9,y1,S1,hlH]
 refine W.cG (fun (i:Nat) R H'=>At H' (fun H'=>∃s',tw H' b im pm s' F∧s'.n=s.n∧s'.cX=s.cX∧s'.ids=s.ids∧sf s s' n now ((s.cX n).take i)∧bh F H H')∧R 0=.ptr b.s 0∧R 1=.int .u64 n∧R 2=.int .i64 now∧R 25=t∧R 26=.int .i64 (s.cX n).length∧R 27=.int .i64 i∧i≤(s.cX n).length) (fun i=>(s.cX n).length-i) 0 ?_ ?_
 ·refine⟨.i ⟨s,sa,rfl,rfl,rfl,⟨(VS.nil hi.nd).mono fun m _=>⟨fun h=>h.elim,fun h=>by simp at h⟩,by simp,fun _ _=>rfl,id⟩,bh.refl _ _⟩,?_,?_,?_,?_,?_,?_,Nat.zero_le _⟩
  all_goals (simp -implicitDefEqProofs only[op,ef,cl,sq,reduceIte,j2,j3,j4,j5,j6,j7,j8,j9,y1,S1];try rfl)
 rintro i R H2⟨⟨s',Hq,A5,xG,JA,rT,aq⟩,h0,h1,h2,Y3,Vj,Vk,kM⟩
 by_cases au:i<(s.cX n).length
 ·obtain⟨k,hk⟩:=cj au
  have ws:=aC (show i<9223372036854775807 by omega)
  have Ah:pc eS 1 0 H2 t (s.cX n):=by
   have:=(Hq.op n).mut
   rwa[yw,xG]at this
  obtain⟨c,g1,g2,g3⟩:=oL (enc:=eS) (fun _=>rfl) Ah hk
  have oN:k∉(s.cX n).take i:=fun hh=>by
   obtain⟨j,hj,e2⟩:=List.getElem_of_mem hh
   have Jz:j<i∧j<(s.cX n).length:=by simp -implicitDefEqProofs only[List.length_take]at hj;omega
   have WB:(s.cX n)[j]?=some k:=by rw[←e2];simp[List.getElem?_eq_getElem Jz.2]
   have:=(List.getElem?_inj Jz.2 (hi.N2 n)).1 (WB.trans hk.symm)
   omega
  have lZ:=lh s' k
  have Ho:bE s' k=bE s k:=by unfold bE;rw[rT.off k fun h=>oN h.1]
  rw[Ho]at lZ
  by_cases dY:n≤bE s k
  ·simp -implicitDefEqProofs only[op,ef,cl,sq,reduceIte,j2,j3,j4,j5,j6,j7,j8,j9,y1,S1,h0,h1,h2,Y3,Vj,Vk,au,aa,g1,g2,g3,eS,Hq.hs,Hq.hl,fe,lZ,dY,ws]
   exact⟨i+1,by omega,.i ⟨s',Hq,A5,xG,JA,by rw[cD hk];exact rT.skip dY,aq⟩,rfl,by omega⟩
  ·have Y4:bE s k<n:=by omega
   have Y5:∀Hx,wF (.sc .str) Hx b.l (some (.map (ba T.str (kd s'.ls)))) (.str k) (.int .u64 n)=some (bX,Hx.set b.l (.map (ba T.str (kd (ct s'.ls k n))))):=fun Hx=>by
    rw[mI];congr 4;exact congrArg (ba T.str) (nI (fun n:Nat=>T.int .u64 n) s'.ls k n)
   have Aj:=Hq.SL (ct s'.ls k n)
   obtain⟨t2,N4⟩:∃t2,iT (ah im k) (.sl .nil []) false=t2:=⟨_,rfl⟩
   have SN:∀Hx,jf Hx .sl t2=some (s.ids k).length:=fun Hx=>by
    have:=(sa.oi k).mut
    rw[N4]at this
    rcases this with⟨e,rfl⟩|⟨c,rfl,_,_⟩
    ·rw[e];rfl
    ·rfl
   simp -implicitDefEqProofs only[op,ef,cl,sq,reduceIte,j2,j3,j4,j5,j6,j7,j8,j9,y1,S1,h0,h1,h2,Y3,Vj,Vk,au,aa,g1,g2,g3,eS,Hq.hs,Hq.hl,fe,lZ,dY,Y5,Aj.hs,Aj.hi,N4,SN]
   refine W.cN 2 (fun (j:Nat) R H'=>At H' (fun H'=>∃v',tw H' b im pm { s' with vs:=v',ls:=ct s'.ls k n } F∧VS s.vs v' now (fun m=>(m.1∈(s.cX n).take i∧bE s m.1<n∧m.2<n)∨(m.1=k∧m.2∈(s.ids k).take j))∧bh F H H')∧R 0=.ptr b.s 0∧R 1=.int .u64 n∧R 2=.int .i64 now∧R 9=.str k∧R 25=t∧R 26=.int .i64 (s.cX n).length∧R 27=.int .i64 i∧R 50=t2∧R 51=.int .i64 (s.ids k).length∧R 52=.int .i64 j∧j≤(s.ids k).length∧∀p a,p<j→(s.ids k)[p]?=some a→a<n) (fun j=>(s.ids k).length-j) 0
    (fun R H'=>At H' (fun H'=>∃v',tw H' b im pm { s' with vs:=v',ls:=ct s'.ls k n } F∧VS s.vs v' now (fun m=>(m.1∈(s.cX n).take i∧bE s m.1<n∧m.2<n)∨(m.1=k∧m.2<n))∧bh F H H')∧R 0=.ptr b.s 0∧R 1=.int .u64 n∧R 2=.int .i64 now∧R 25=t∧R 26=.int .i64 (s.cX n).length∧R 27=.int .i64 i) ?_ ?_ ?_
   ·refine⟨.i ⟨s'.vs,Aj,rT.vs.mono fun m _=>⟨.inl,fun h=>h.elim id fun h=>by simp at h⟩,aq.set (.inl sa.F0.2.2.2.2) _⟩,?_,?_,?_,?_,?_,?_,?_,?_,?_,?_,Nat.zero_le _,fun p a h=>by omega⟩
    all_goals (simp -implicitDefEqProofs only[op,ef,cl,sq,reduceIte,j2,j3,j4,j5,j6,j7,j8,j9,y1,S1,h0,h1,h2,Y3,Vj,Vk,SN];try rfl)
   ·rintro j R H3⟨⟨v',BQ,iq,BR⟩,q0,q1,q2,q9,PT,PU,PX,Vl,Vm,Vn,PA,cr⟩
    by_cases hj:j<(s.ids k).length
    ·obtain⟨o,ho⟩:=cj hj
     have wj:=aC (show j<9223372036854775807 by have:=hi.bi k;omega)
     have Jy:pc eU 1 0 H3 t2 (s.ids k):=by
      have:=(BQ.oi k).mut
      simp -implicitDefEqProofs only[JA]at this
      rwa[N4]at this
     obtain⟨c2,e1,e2,e3⟩:=oL (enc:=eU) (fun _=>rfl) Jy ho
     by_cases PB:n≤o
     ·simp -implicitDefEqProofs only[op,ef,cl,sq,reduceIte,j2,j3,j4,j5,j6,j7,j8,j9,y1,S1,q0,q1,q2,q9,PT,PU,PX,Vl,Vm,Vn,hj,aa,e1,e2,e3,eU,PB]
      refine⟨v',BQ,iq.mono fun m hm=>?_,BR⟩
      refine or_congr Iff.rfl ⟨fun ⟨a1,a2⟩=>⟨a1,?_⟩,fun ⟨a1,a2⟩=>⟨a1,?_⟩⟩
      ·obtain⟨p,hp,e⟩:=List.getElem_of_mem a2
       have vj:p<j∧p<(s.ids k).length:=by simp -implicitDefEqProofs only[List.length_take]at hp;omega
       exact cr p m.2 vj.1 (by rw[←e];simp[List.getElem?_eq_getElem vj.2])
      ·have iE:=(hi.Hl k m.2).2 (by rw[←a1];exact hm)
       obtain⟨p,hp,e⟩:=List.getElem_of_mem iE
       have PY:(s.ids k)[p]?=some m.2:=by rw[List.getElem?_eq_getElem hp,e]
       rcases Nat.lt_trichotomy p j with h|h|h
       ·exact List.mem_of_getElem? (i:=p) (by rw[List.getElem?_take,if_pos h];exact PY)
       ·subst h;rw[ho]at PY;cases PY;omega
       ·have:=hi.w6 k j p o m.2 h ho PY;omega
     ·have uq:=(hi.Hl k o).1 (List.mem_of_getElem? ho)
      rw[←iq.some]at uq
      obtain⟨x,hx⟩:=Option.isSome_iff_exists.1 uq
      have oM:=yu v' (k,o)
      rw[hx]at oM
      have N5:=fun Hx z ok=>kW uH z ok Hx (dM v') (k,o)
      simp -implicitDefEqProofs only[kN,eN]at N5
      have hnS:¬(((k,o):Nm).1∈(s.cX n).take i∧bE s ((k,o):Nm).1<n∧((k,o):Nm).2<n∨((k,o):Nm).1=k∧((k,o):Nm).2∈(s.ids k).take j):=by
       rintro (hh|⟨_,hh⟩)
       ·exact oN hh.1
       ·obtain⟨p,hp,e⟩:=List.getElem_of_mem hh
        have vj:p<j∧p<(s.ids k).length:=by simp -implicitDefEqProofs only[List.length_take]at hp;omega
        have e:((s.ids k).take j)[p]=o:=e
        have PY:(s.ids k)[p]?=some o:=by rw[←e];simp[List.getElem?_eq_getElem vj.2]
        have:=hi.w6 k p j o o vj.1 PY ho;omega
      have hSS:∀m:Nm,(((m.1∈(s.cX n).take i∧bE s m.1<n∧m.2<n)∨(m.1=k∧m.2∈(s.ids k).take j))∨m=(k,o))↔((m.1∈(s.cX n).take i∧bE s m.1<n∧m.2<n)∨(m.1=k∧m.2∈(s.ids k).take (j+1))):=fun m=>by
       rw[cD ho,List.mem_append,List.mem_singleton,or_assoc]
       refine or_congr Iff.rfl ?_
       constructor
       ·rintro (⟨a1,a2⟩|rfl)
        ·exact⟨a1,.inl a2⟩
        ·exact⟨rfl,.inr rfl⟩
       ·rintro⟨a1,a2|a2⟩
        ·exact .inl ⟨a1,a2⟩
        ·exact .inr (Prod.ext a1 a2)
      have l9:∀p a,p<j+1→(s.ids k)[p]?=some a→a<n:=fun p a hp ha=>by
       by_cases e:p=j
       ·subst e;rw[ho]at ha;cases ha;omega
       ·exact cr p a (by omega) ha
      have l0:=aW BQ.hs
      have lv:=aW BQ.hv
      have Ai:=fun Hx v=>uA uH Hx b.v (dM v') (k,o) v
      simp -implicitDefEqProofs only[kN,eN]at Ai
      by_cases dG:x.a9=-1
      ·simp -implicitDefEqProofs only[op,ef,cl,sq,reduceIte,j2,j3,j4,j5,j6,j7,j8,j9,y1,S1,S2,S3,List.length_set,q0,q1,q2,q9,PT,PU,PX,Vl,Vm,Vn,hj,aa,e1,e2,e3,eU,PB,BQ.hs,BQ.hv,N5,oM,pw,Option.getD_some,ff,dG,l0,lv,Ai,wj]
       have e:ct (dM v') (k,o) (T.agg [T.str x.value,T.sl x.kk (x.keys.map eS),T.int IntKind.i64 now])=dM (ct v' (k,o) (stamped x now)):=nI ff v' (k,o) (stamped x now)
       rw[e]
       exact⟨j+1,by omega,.i ⟨_,(BQ.Y0 (ct v' (k,o) (stamped x now))).lg (ay (F:=fun _=>False) (Ext.rfl'.app _)) (fun _ _ _ h=>h),(iq.add hx dG hnS).mono fun m _=>hSS m,(BR.set (.inl sa.F0.2.1) _).app _⟩,rfl,by omega,l9⟩
      ·have N7:(x.a9==-1)=false:=by simpa using dG
       simp -implicitDefEqProofs only[op,ef,cl,sq,reduceIte,j2,j3,j4,j5,j6,j7,j8,j9,y1,S1,S2,S3,List.length_set,q0,q1,q2,q9,PT,PU,PX,Vl,Vm,Vn,hj,aa,e1,e2,e3,eU,PB,BQ.hs,BQ.hv,N5,oM,pw,Option.getD_some,ff,N7,l0,lv,wj]
       exact⟨j+1,by omega,.i ⟨v',BQ.lg (ay (F:=fun _=>False) (Ext.rfl'.app _)) (fun _ _ _ h=>h),(iq.skip hx dG hnS).mono fun m _=>hSS m,BR.app _⟩,rfl,by omega,l9⟩
    ·have Y6:j=(s.ids k).length:=by omega
     subst Y6
     simp -implicitDefEqProofs only[op,ef,cl,sq,reduceIte,j2,j3,j4,j5,j6,j7,j8,j9,y1,S1,q0,q1,q2,q9,PT,PU,PX,Vl,Vm,Vn,hj]
     refine⟨v',BQ,iq.mono fun m hm=>?_,BR⟩
     rw[List.take_length]
     refine or_congr Iff.rfl ⟨fun ⟨a1,a2⟩=>⟨a1,?_⟩,fun ⟨a1,a2⟩=>⟨a1,(hi.Hl k m.2).2 (by rw[←a1];exact hm)⟩⟩
     obtain⟨p,hp,e⟩:=List.getElem_of_mem a2
     exact cr p m.2 hp (by rw[List.getElem?_eq_getElem hp,e])
   ·rintro R H3⟨⟨v',BQ,iq,BR⟩,q0,q1,q2,PT,PU,PX⟩
    simp -implicitDefEqProofs only[op,ef,cl,sq,reduceIte,j2,j3,j4,j5,j6,j7,j8,j9,y1,S1,q0,q1,q2,PT,PU,PX,ws]
    exact⟨i+1,by omega,.i ⟨_,BQ,A5,xG,JA,by rw[cD hk];exact rT.add Y4 rfl iq,BR⟩,rfl,by omega⟩
 ·have mK:i=(s.cX n).length:=by omega
  subst mK
  rw[List.take_length]at rT
  simp -implicitDefEqProofs only[op,ef,cl,sq,reduceIte,j2,j3,j4,j5,j6,j7,j8,j9,y1,S1,h0,h1,Vj,Vk,au,Hq.hs,Hq.hp,kX,yw,hlH]
  exact⟨s',rfl,⟨im,pm,Hq⟩,(rT.vs.inv hi s'.ls (rT.yr hi.yr)) |> fun h=>(by have e:s'={ s with vs:=s'.vs,ls:=s'.ls }:=(by cases s';cases s;simp_all);rw[e];exact h),rT,A5,xG,JA,aq⟩
section
variable {α β γ:Type} [DecidableEq α]
theorem oO (e:α×β)(es:List (α×β))(k:α):lX (e :: es) k=if k=e.1 then es else e :: lX es k:=by
 unfold lX
 rw[List.findIdx?_cons]
 by_cases hk:k=e.1
 ·simp[hk]
 ·simp -implicitDefEqProofs only[hk,decide_false,if_false,Bool.false_eq_true]
  cases List.findIdx? (fun e=>decide (k=e.1)) es<;>simp
theorem FQ (f:β→γ)(es:List (α×β))(k:α):lX (es.map fun e=>(e.1,f e.2)) k=(lX es k).map fun e=>(e.1,f e.2):=by
 induction es with
 | nil=>rfl
 | cons e es ih=>simp -implicitDefEqProofs only[List.map_cons,oO,ih];split<;>simp
theorem jq {es:List (α×β)}(h:(es.map (·.1)).Nodup)(k k':α):ah (lX es k) k'=if k'=k then none else ah es k':=by
 induction es with
 | nil=>simp[lX,dC]
 | cons e es ih =>
  rw[List.map_cons,List.nodup_cons]at h
  rw[oO]
  by_cases hk:k=e.1
  ·subst hk
   by_cases kx:k'=e.1
   ·subst kx;simp -implicitDefEqProofs only[if_true];exact cz.2 h.1
   ·simp[bJ,kx]
  ·simp -implicitDefEqProofs only[hk,if_false,bJ,ih h.2]
   by_cases kx:k'=e.1
   ·subst kx;simp[Ne.symm hk]
   ·simp[kx]
theorem yx {es:List (α×β)}(h:(es.map (·.1)).Nodup)(k:α):((lX es k).map (·.1)).Nodup:=by
 induction es with
 | nil=>simp[lX]
 | cons e es ih =>
  rw[List.map_cons,List.nodup_cons]at h
  rw[oO];split
  ·exact h.2
  ·rw[List.map_cons,List.nodup_cons]
   refine⟨fun hm=>h.1 ?_,ih h.2⟩
   have:ah (lX es k) e.1≠none:=fun hn=>cz.1 hn hm
   rw[jq h.2]at this
   split at this
   ·exact absurd rfl this
   ·exact Classical.byContradiction fun hh=>this (cz.2 hh)
end
theorem w7 {α:Type}[DecidableEq α]{l:List α}{x a:α}:a∈ea l x↔a∈l∧a≠x:=by simp[ea]
theorem w9 {α:Type}[DecidableEq α](l:List α)(x:α):(ea l x).length≤l.length:=List.length_filter_le ..
def dk.drop (s:dk)(k:ByteArray)(n:Nat):dk:=⟨lX s.vs (k,n),s.ls,fun k'=>if k'=k then ea (s.ids k) n else s.ids k',fun n'=>if n'=n then ea (s.cX n) k else s.cX n',s.n⟩
theorem fY.drop {s:dk}(hi:fY s)(k:ByteArray)(n:Nat):fY (s.drop k n):=by
 refine⟨fun k'=>?_,fun k' n'=>?_,fun n'=>?_,fun n' k'=>?_,yx hi.nd _,fun m h hm=>?_,fun k'=>?_,fun n'=>?_,hi.yr⟩
 ·simp -implicitDefEqProofs only[dk.drop];split
  ·exact uI.2 ((uI.1 (hi.w6 k)).sublist List.filter_sublist)
  ·exact hi.w6 k'
 ·simp -implicitDefEqProofs only[dk.drop,jq hi.nd]
  by_cases e:k'=k
  ·subst e
   simp -implicitDefEqProofs only[if_true,w7,hi.Hl,Prod.mk.injEq,true_and]
   by_cases e2:n'=n<;>simp[e2]
  ·simp[e,hi.Hl]
 ·simp -implicitDefEqProofs only[dk.drop];split
  ·exact(hi.N2 n).sublist List.filter_sublist
  ·exact hi.N2 n'
 ·simp -implicitDefEqProofs only[dk.drop,jq hi.nd]
  by_cases e:n'=n
  ·subst e
   simp -implicitDefEqProofs only[if_true,w7,hi.Jw,Prod.mk.injEq,and_true]
   by_cases e2:k'=k<;>simp[e2]
  ·simp[e,hi.Jw]
 ·simp -implicitDefEqProofs only[dk.drop,jq hi.nd]at hm
  split at hm
  ·cases hm
  ·exact hi.SD m h hm
 ·have:=hi.bi k'
  simp -implicitDefEqProofs only[dk.drop];split
  ·rename_i e;subst e;exact Nat.le_trans (w9 _ _) this
  ·exact this
 ·have:=hi.bp n'
  simp -implicitDefEqProofs only[dk.drop];split
  ·rename_i e;subst e;exact Nat.le_trans (w9 _ _) this
  ·exact this
def SO (b:Bk)(s:dk)(F:Nat→Prop)(k:ByteArray)(n:Nat)(H:af):Out→af→Prop:=fun o H' =>
 (ah s.vs (k,n)=none∧o=.val (.int .i64 110)∧Ext H H')∨(∃h,ah s.vs (k,n)=some h∧h.a9=-1∧o=.val (.int .i64 1)∧Ext H H') ∨
 ∃h,ah s.vs (k,n)=some h∧h.a9≠-1∧o=.val (.int .i64 0)∧SH H' b (s.drop k n) F∧bh F H H'
theorem N9 (b:Bk)(s:dk)(F:Nat→Prop)(k:ByteArray)(n:Nat)(H:af)(hs:SH H b s F)(hi:fY s)(hn:s.n≤8000000) :
  W env (.call 25 [.ptr b.s 0,.str k,.int .u64 n]) H (SO b s F k n H):=by
 obtain⟨im,pm,sa⟩:=hs
 have l0:=aW sa.hs
 have lv:=aW sa.hv
 have Lw:b.s<H.length+1:=by omega
 have lZ:=fun Hx z ok=>kW uH z ok Hx (dM s.vs) (k,n)
 simp -implicitDefEqProofs only[kN,eN]at lZ
 have oM:iT (ah (dM s.vs) (k,n)) (.agg [.str ⟨#[]⟩,.sl .nil [],.int .i64 0]) true=.bF [ff (pw (ah s.vs (k,n))),.bool (ah s.vs (k,n)).isSome]:=by
  unfold dM;rw[fN]
  cases ah s.vs (k,n)<;>rfl
 refine W.bR rfl rfl rfl ?_
 cases e:ah s.vs (k,n)with
 | none =>
  rw[e]at oM
  simp -implicitDefEqProofs only[Option.isSome_none]at oM
  simp -implicitDefEqProofs only[EX,op,ef,cl,sq,reduceIte,j2,j3,j4,j5,j6,j7,j8,j9,y1,S1,S2,S3,List.length_set,sa.hs,sa.hv,l0,Lw,lv,lZ,oM,ff]
  exact .inl ⟨e,rfl,((Ext.rfl'.app _).app _)⟩
 | some h =>
  rw[e]at oM
  simp -implicitDefEqProofs only[Option.isSome_some,pw,Option.getD_some]at oM
  by_cases dG:h.a9=-1
  ·simp -implicitDefEqProofs only[EX,op,ef,cl,sq,reduceIte,j2,j3,j4,j5,j6,j7,j8,j9,y1,S1,S2,S3,List.length_set,sa.hs,sa.hv,l0,Lw,lv,lZ,oM,ff,dG]
   exact .inr (.inl ⟨h,e,dG,rfl,((Ext.rfl'.app _).app _)⟩)
  ·have N7:(h.a9==-1)=false:=by simpa using dG
   have MI:=fun Hx=>Ea uH Hx b.v (dM s.vs) (k,n) (v:=ff h) (by unfold dM;rw[fN,e];rfl)
   simp -implicitDefEqProofs only[kN,eN]at MI
   have Md:pt (dM s.vs) (k,n)=dM (lX s.vs (k,n)):=FQ ff s.vs (k,n)
   rw[Md]at MI
   obtain⟨c,jw,po,hcF⟩:∃c,ah im k=some (.ax c 0 (s.ids k).length 1)∧H[c]?=some (.cells (aJ eU (s.ids k)))∧F c:=by
    have:=sa.oi k
    cases em:ah im k with
    | none =>
     rw[em]at this
     have h0:s.ids k=[]:=this
     have:=(hi.Hl k n).2 (by rw[e];rfl)
     rw[h0]at this;cases this
    | some t=>rw[em]at this;obtain⟨c,rfl,h1,h2⟩:=this;exact⟨c,rfl,h1,h2⟩
   obtain⟨d,o7,cu,hdF⟩:∃d,ah pm n=some (.ax d 0 (s.cX n).length 1)∧H[d]?=some (.cells (aJ eS (s.cX n)))∧F d:=by
    have:=sa.op n
    cases em:ah pm n with
    | none =>
     rw[em]at this
     have h0:s.cX n=[]:=this
     have:=(hi.Jw n k).2 (by rw[e];rfl)
     rw[h0]at this;cases this
    | some t=>rw[em]at this;obtain⟨c,rfl,h1,h2⟩:=this;exact⟨c,rfl,h1,h2⟩
   have bc:=sa.iU (k:=k) (c:=c) (by rw[jw];rfl)
   have bd:=sa.ke (n:=n) (c:=d) (by rw[o7];rfl)
   have hcd:c≠d:=fun h=>sa.sx k n c (by rw[jw];rfl) (by rw[o7,h];rfl)
   obtain⟨n1,n2,n3,n4⟩:=sa.ne
   have li:=aW sa.hi
   simp -implicitDefEqProofs only[EX,op,ef,cl,sq,reduceIte,j2,j3,j4,j5,j6,j7,j8,j9,y1,S1,S2,S3,List.length_set,sa.hs,sa.hv,l0,Lw,lv,lZ,oM,ff,N7,MI,n1,sa.hi,li,sa.vi,fe,jw]
   generalize vw:H.set b.v (B.map (ba kN (dM (lX s.vs (k,n)))))++[B.cells [T.str k,T.int IntKind.u64 n]]++[B.cells [T.str h.value,T.sl h.kk (h.keys.map eS),T.int IntKind.i64 h.a9]]=H1
   have YQ:H1.length=H.length+2:=by rw[←vw];simp
   have gx:∀{c x},c≠b.v→H[c]?=some x→H1[c]?=some x:=fun hc hx=>by
    have:=aW hx
    rw[←vw,aV (by simp;omega),aV (by simpa using this),bf (Ne.symm hc)];exact hx
   have v1:H1[b.v]?=some (.map (ba kN (dM (lX s.vs (k,n))))):=by rw[←vw,aV (by simp;omega),aV (by simpa using lv),bU lv]
   have s1:=gx (Ne.symm n1) sa.hs
   have i1:=gx (Ne.symm sa.vi) sa.hi
   have p1:=gx (Ne.symm sa.vp) sa.hp
   have w1:=gx (Ne.symm sa.vl) sa.hl
   refine ae _ _ _ _ _ _ _ _ (YN c (s.ids k) n H1 (gx bc.2.1 po) (by have:=hi.bi k;omega)) ?_
   rintro u H2⟨hu,c2,zF⟩
   cases hu
   have qT:∀{a x},a≠c→H1[a]?=some x→H2[a]?=some x:=fun ha hx=>zF.get hx ha
   have s2:=qT (Ne.symm bc.1) s1
   have v2:=qT (Ne.symm bc.2.1) v1
   have i2:=qT (Ne.symm bc.2.2.1) i1
   have p2:=qT (Ne.symm bc.2.2.2.1) p1
   have w2:=qT (Ne.symm bc.2.2.2.2.1) w1
   have d2:=qT (Ne.symm hcd) (gx bd.2.1 cu)
   obtain⟨H3,vz⟩:∃H3,H3=H2.set b.i (.map (ba T.str (ct im k (.ax c 0 (ea (s.ids k) n).length 1)))):=⟨_,rfl⟩
   have fZ:∀{a x},a≠b.i→H2[a]?=some x→H3[a]?=some x:=fun ha hx=>by rw[vz,bf (Ne.symm ha)];exact hx
   have s3:=fZ (Ne.symm n2) s2
   have v3:=fZ sa.vi v2
   have i3:H3[b.i]?=some (.map (ba T.str (ct im k (.ax c 0 (ea (s.ids k) n).length 1)))):=by rw[vz,bU (aW i2)]
   have p3:=fZ (Ne.symm sa.ip) p2
   have w3:=fZ (Ne.symm sa.il) w2
   have c3:=fZ bc.2.2.1 c2
   have d3:=fZ bd.2.2.1 d2
   simp -implicitDefEqProofs only[op,ef,cl,sq,reduceIte,j2,j3,j4,j5,j6,j7,j8,j9,y1,S1,s2,i2,mI,←vz,s3,p3,kX,o7]
   refine ae _ _ _ _ _ _ _ _ (YP d (s.cX n) k H3 d3 (by have:=hi.bp n;omega)) ?_
   rintro u H4⟨hu,d4,Ct⟩
   cases hu
   have ga:∀{a x},a≠d→H3[a]?=some x→H4[a]?=some x:=fun ha hx=>Ct.get hx ha
   have s4:=ga (Ne.symm bd.1) s3
   have v4:=ga (Ne.symm bd.2.1) v3
   have i4:=ga (Ne.symm bd.2.2.1) i3
   have p4:=ga (Ne.symm bd.2.2.2.1) p3
   have w4:=ga (Ne.symm bd.2.2.2.2.1) w3
   have c4:=ga hcd c3
   obtain⟨H5,SP⟩:∃H5,H5=H4.set b.p (.map (ba kU (ct pm n (.ax d 0 (ea (s.cX n) k).length 1)))):=⟨_,rfl⟩
   have fF:∀{a x},a≠b.p→H4[a]?=some x→H5[a]?=some x:=fun ha hx=>by rw[SP,bf (Ne.symm ha)];exact hx
   have s5:=fF (Ne.symm n3) s4
   have p5:H5[b.p]?=some (.map (ba kU (ct pm n (.ax d 0 (ea (s.cX n) k).length 1)))):=by rw[SP,bU (aW p4)]
   have l2:ah (ct pm n (.ax d 0 (ea (s.cX n) k).length 1)) n=some (.ax d 0 (ea (s.cX n) k).length 1):=by rw[bm,if_pos rfl]
   have ad1:H5.length=H4.length:=by rw[SP];simp
   have YR:H3.length=H2.length:=by rw[vz];simp
   have FR:∀{a x},a≠b.v→a≠c→a≠b.i→a≠d→a≠b.p→H[a]?=some x→H5[a]?=some x:=fun e1 e2 e3 e4 e5 hx=>fF e5 (ga e4 (fZ e3 (qT e2 (gx e1 hx))))
   have frF:bh F H H5:=⟨by have:=zF.1;have:=Ct.1;omega,fun a ha hF=>by
    obtain⟨x,hx⟩:=cj ha
    have ne:∀{c'},F c'→a≠c':=fun h e=>hF (e▸h)
    rw[hx]
    exact FR (ne sa.F0.2.1) (ne hcF) (ne sa.F0.2.2.1) (ne hdF) (ne sa.F0.2.2.2.1) hx⟩
   have PM:=fun Hx=>Ea M0 Hx b.p (ct pm n (.ax d 0 (ea (s.cX n) k).length 1)) n l2
   simp -implicitDefEqProofs only[kU]at PM
   have fin:∀(JB:List (Nat×T)) (H6:af),(∀n',ah JB n'=if n'=n then ah JB n else ah pm n')→Hm eS F H5 (ah JB n) (ea (s.cX n) k)→(∀a,dQ (ah JB n)=some a→a=d)→(JB.map (·.1)).Nodup→H6[b.p]?=some (.map (ba kU JB))→(∀{a x},a≠b.p→H5[a]?=some x→H6[a]?=some x)→tw H6 b (ct im k (.ax c 0 (ea (s.ids k) n).length 1)) JB (s.drop k n) F:=by
    intro JB H6 hl ho hb fB hp hk
    have kI:∀{k' a x},k'≠k→dQ (ah im k')=some a→H[a]?=some x→H6[a]?=some x:=fun {k' a x} bN ha hx=>by
     obtain⟨e1,e2,e3,e4,e5,_,e6⟩:=sa.iU ha
     exact hk e4 (FR e2 (fun e=>bN (sa.si k' k c (e▸ha) (by rw[jw];rfl))) e3 (fun e=>sa.sx k' n d (e▸ha) (by rw[o7];rfl)) e4 hx)
    have kP:∀{n' a x},n'≠n→dQ (ah pm n')=some a→H[a]?=some x→H6[a]?=some x:=fun {n' a x} bN ha hx=>by
     obtain⟨e1,e2,e3,e4,e5,_,e6⟩:=sa.ke ha
     exact hk e4 (FR e2 (fun e=>sa.sx k n' c (by rw[jw];rfl) (e▸ha)) e3 (fun e=>bN (sa.sp n' n d (e▸ha) (by rw[o7];rfl))) e4 hx)
    have bI:∀k' a,dQ (ah (ct im k (.ax c 0 (ea (s.ids k) n).length 1)) k')=some a→dQ (ah im k')=some a:=fun k' a ha=>by
     rw[bm]at ha
     split at ha
     ·rename_i e;subst e;rw[jw];exact ha
     ·exact ha
    have bP:∀n' a,dQ (ah JB n')=some a→dQ (ah pm n')=some a:=fun n' a ha=>by
     rw[hl]at ha
     split at ha
     ·rename_i e;subst e;rw[o7,hb a ha];rfl
     ·exact ha
    refine⟨hk (Ne.symm n3) s5,hk sa.vp (fF sa.vp v4),hk sa.ip (fF sa.ip i4),hp,hk (Ne.symm sa.pl) (fF (Ne.symm sa.pl) w4),sa.vi,sa.vp,sa.vl,sa.ip,sa.il,sa.pl,sa.F0,fun k'=>?_,fun n'=>?_,fun k1 k2 a h1 h2=>sa.si k1 k2 a (bI _ _ h1) (bI _ _ h2),fun k1 k2 a h1 h2=>sa.sp k1 k2 a (bP _ _ h1) (bP _ _ h2),fun k1 k2 a h1 h2=>sa.sx k1 k2 a (bI _ _ h1) (bP _ _ h2),fB⟩
    ·simp -implicitDefEqProofs only[dk.drop,bm]
     by_cases e:k'=k
     ·simp -implicitDefEqProofs only[e,if_true]
      exact⟨c,rfl,hk bc.2.2.2.1 (fF bc.2.2.2.1 c4),hcF⟩
     ·simp -implicitDefEqProofs only[e,if_false]
      exact(sa.oi k').dF (fun a x ha hx=>kI e ha hx) fun _ _ h=>h
    ·rw[hl]
     simp -implicitDefEqProofs only[dk.drop]
     by_cases e:n'=n
     ·simp -implicitDefEqProofs only[e,if_true]
      refine ho.dF (fun a x ha hx=>hk ?_ hx) fun _ _ h=>h
      rw[hb a ha];exact bd.2.2.2.1
     ·simp -implicitDefEqProofs only[e,if_false]
      exact(sa.op n').dF (fun a x ha hx=>kP e ha hx) fun _ _ h=>h
   by_cases hz:(ea (s.cX n) k).length=0
   ·have pJ:((ea (s.cX n) k).length=0)=True:=eq_true hz
    simp -implicitDefEqProofs only[op,ef,cl,sq,reduceIte,j2,j3,j4,j5,j6,j7,j8,j9,y1,S1,s4,p4,qL,←SP,s5,p5,kX,l2,pJ,PM]
    refine .inr (.inr ⟨h,e,dG,rfl,⟨_,_,fin (pt (ct pm n (.ax d 0 (ea (s.cX n) k).length 1)) n) _ (fun n'=>?_) ?_ (fun a ha=>?_) (yq (cW sa.np _ _) _) (bU (aW p5)) (fun ha hx=>by rw[bf (Ne.symm ha)];exact hx)⟩,frF.set (.inl sa.F0.2.2.2.1) _⟩)
    ·simp -implicitDefEqProofs only[lI (cW sa.np _ _),bm];split<;>simp
    ·rw[lI (cW sa.np _ _),if_pos rfl];exact List.eq_nil_of_length_eq_zero hz
    ·rw[lI (cW sa.np _ _),if_pos rfl]at ha;cases ha
   ·simp -implicitDefEqProofs only[op,ef,cl,sq,reduceIte,j2,j3,j4,j5,j6,j7,j8,j9,y1,S1,s4,p4,qL,←SP,s5,p5,kX,l2,hz]
    refine .inr (.inr ⟨h,e,dG,rfl,⟨_,_,fin _ H5 (fun n'=>?_) ?_ (fun a ha=>?_) (cW sa.np _ _) p5 (fun _ h=>h)⟩,frF⟩)
    ·simp -implicitDefEqProofs only[bm];split<;>simp
    ·rw[l2];exact⟨d,rfl,fF bd.2.2.2.1 d4,hdF⟩
    ·rw[l2]at ha;cases ha;rfl
abbrev tC (n:Nat)(R0:ar)(ps:List Nat)(bZ body:C):B:=.loop .ready Option.none n R0 ps bZ body
abbrev Lx (n:Nat)(R0:ar)(ps:List Nat)(bZ body:C):B:=.loop .busy Option.none n R0 ps bZ body
theorem mM {H H':af}(h:∀(c:Nat) x,H[c]?=some x→H'[c]?=some x):Ext H H':=by
 have hl:H.length≤H'.length:=by
  rcases Nat.eq_zero_or_pos H.length with h0|h0
  ·omega
  ·obtain⟨x,hx⟩:=cj (l:=H) (i:=H.length-1) (by omega)
   have:=aW (h _ x hx)
   omega
 refine⟨H'.drop H.length,List.ext_getElem? fun i=>?_⟩
 by_cases hi:i<H.length
 ·obtain⟨x,hx⟩:=cj hi
  rw[List.getElem?_append_left hi,hx,h i x hx]
 ·rw[List.getElem?_append_right (by omega),List.getElem?_drop]
  congr 1;omega
structure RI {α β:Type}(es:List (α×β))(ix:List Nat)(b6:List α):Prop where
 len:ix.length+b6.length=es.length
 lt:∀i∈ix,i<es.length
 Y7:ix.Nodup
 FT:b6.Nodup
 mem:∀k,k∈b6↔∃i v,es[i]?=some (k,v)∧i∉ix
theorem RI.start {α β:Type}(es:List (α×β)):RI es (List.range es.length) []:=⟨by simp,fun i h=>List.mem_range.1 h,List.nodup_range,by simp,fun k=>by
 simp -implicitDefEqProofs only[List.not_mem_nil,false_iff,not_exists,not_and]
 intro i v h hn
 exact hn (List.mem_range.2 (List.getElem?_eq_some_iff.1 h).1)⟩
theorem RI.step {α β:Type}{es:List (α×β)}(hn:(es.map (·.1)).Nodup){ix:List Nat}{b6:List α}(h:RI es ix b6){i:Nat}{k:α}{v:β}(hi:i∈ix)(he:es[i]?=some (k,v)):RI es (ix.erase i) (b6++[k]):=by
 have inj:∀j w,es[j]?=some (k,w)→j=i:=fun j w hj=>by
  have h1:(es.map (·.1))[j]?=some k:=by rw[List.getElem?_map,hj];rfl
  have h2:(es.map (·.1))[i]?=some k:=by rw[List.getElem?_map,he];rfl
  exact(List.getElem?_inj (List.getElem?_eq_some_iff.1 h1).1 hn).1 (h1.trans h2.symm)
 have hk:k∉b6:=fun hk=>by
  obtain⟨j,w,hj,hn⟩:=(h.mem k).1 hk
  exact hn (inj j w hj▸hi)
 refine⟨?_,fun j hj=>h.lt j (List.mem_of_mem_erase hj),h.Y7.erase _,?_,fun k'=>?_⟩
 ·have:=h.len
  have:=List.length_pos_of_mem hi
  rw[List.length_erase_of_mem hi,List.length_append,List.length_singleton];omega
 ·rw[List.nodup_append];exact⟨h.FT,by simp,fun a ha c hc=>by simp at hc;subst hc;rintro rfl;exact hk ha⟩
 ·rw[List.mem_append,List.mem_singleton,h.mem]
  constructor
  ·rintro (⟨j,w,hj,Y8⟩|rfl)
   ·exact⟨j,w,hj,fun hm=>Y8 (List.mem_of_mem_erase hm)⟩
   ·exact⟨i,v,he,fun hm=>(h.Y7.mem_erase_iff.1 hm).1 rfl⟩
  ·rintro⟨j,w,hj,Y8⟩
   by_cases e:j=i
   ·subst e;rw[he]at hj;cases hj;exact .inr rfl
   ·exact .inl ⟨j,w,hj,fun hm=>Y8 (h.Y7.mem_erase_iff.2 ⟨e,hm⟩)⟩
theorem RI.BJ {α β:Type}{es:List (α×β)}{b6:List α}(h:RI es [] b6)(k:α):k∈b6↔k∈es.map (·.1):=by
 rw[h.mem]
 constructor
 ·rintro⟨i,v,he,_⟩;exact List.mem_map.2 ⟨_,List.mem_of_getElem? he,rfl⟩
 ·intro hk
  obtain⟨e,he,rfl⟩:=List.mem_map.1 hk
  obtain⟨i,hi,e2⟩:=List.getElem_of_mem he
  exact⟨i,e.2,by rw[List.getElem?_eq_getElem hi,e2],by simp⟩
theorem Oa {n:Nat}{R0:ar}{ps:List Nat}{bZ body:C}(es:List (Nm×T))(c b mb:Nat)(H:af)(I:List Nm→af→Prop)(Y9:ps.length=1)(fB:(es.map (·.1)).Nodup)(h0:I [] H)(hb:H[b]?=some (tC n R0 ps bZ body))(hc:H[c]?=some (.cells [.map mb]))(hm:H[mb]?=some (.map (ba kN es)))
  (kH:∀b6 H' y,I b6 H'→I b6 (H'.set mb y)) (qH:∀b6 H' (l:af),I b6 H'→I b6 (H'++l))
  (bS:∀b6 v H',b6.length<es.length→I b6 H'→H'[b]?=some (tC n R0 ps bZ body)→H.length<H'.length→eF env bZ (iv R0 ps [(kN v)]) H' (fun o H1=>∃R1,o=.ex .normal R1∧H1[b]?=some (tC n R0 ps bZ body) ∧
   eF env body R1 (H1.set b (Lx n R0 ps bZ body)) (fun o H2=>∃R2,o=.ex .normal R2∧H2[b]?=some (Lx n R0 ps bZ body)∧I (b6++[v]) (H2.set b (tC n R0 ps bZ body))∧∀a y,H'[a]?=some y→a=mb∨a=H.length→H2[a]?=some y))) :
  W env (.call 94 [.mR b,.ptr c 0]) H (fun _ H'=>∃b6,I b6 H'∧RI es [] b6∧H'[b]?=some (tC n R0 ps bZ body)∧H'[mb]?=some (.map (ba kN es))):=by
 have lm:=aW hm
 have lb:=aW hb
 have Hr:b≠mb:=by rintro rfl;rw[hm]at hb;cases hb
 have Dd:(ba kN es).length=es.length:=by simp[ba]
 refine W.bR rfl rfl rfl ?_
 simp -implicitDefEqProofs only[NT,op,ef,cl,sq,reduceIte,j2,j3,j4,j5,j6,j7,j8,j9,y1,S1,hc,hm]
 refine W.cG (fun (b6:List Nm) R H'=>At H' (fun H'=>∃ix cur,I b6 H'∧RI es ix b6∧H'[b]?=some (tC n R0 ps bZ body)∧H'[mb]?=some (.cQ (ba kN es) ix H.length cur)∧H'[H.length]?=some (.tR mb))∧R 0=.mR b∧R 5=.ptr H.length 0) (fun b6=>es.length-b6.length) [] ?_ ?_
 ·refine⟨.i ⟨List.range (ba kN es).length,none,qH _ _ _ (kH _ _ _ h0),by rw[Dd];exact RI.start es,?_,?_,?_⟩,rfl,rfl⟩
  ·rw[aV (by simpa using lb),bf (Ne.symm Hr)];exact hb
  ·rw[aV (by simpa using lm),bU lm]
  ·rw[aU (by simp)]
 rintro b6 R H1⟨⟨ix,cur,hI,lJ,ko,JC,BK⟩,r0,r5⟩
 have lb1:=aW ko
 have SQ:=aW JC
 have Za:=aW BK
 have Zb:b≠H.length:=by rintro rfl;rw[BK]at ko;cases ko
 have Cn:mb≠H.length:=by omega
 simp -implicitDefEqProofs only[op,ef,cl,sq,reduceIte,j2,j3,j4,j5,j6,j7,j8,j9,y1,S1,r5]
 refine ym _ _ _ _ _ _ _ r5 JC ?_
 rintro t H2 (⟨rfl,rfl,rfl⟩|⟨i,e,hi,he,rfl,rfl⟩)
 ·simp -implicitDefEqProofs only[op,ef,cl,sq,reduceIte,j2,j3,j4,j5,j6,j7,j8,j9,y1,S1]
  exact⟨b6,kH _ _ _ hI,lJ,by rw[bf (Ne.symm Hr)];exact ko,bU SQ⟩
 obtain⟨⟨k,v0⟩,Ly⟩:=cj (lJ.lt i hi)
 have Co:e=(kN k,v0):=by
  rw[ba,List.getElem?_map,Ly]at he;exact(Option.some.inj he).symm
 subst Co
 have b2:(H1.set mb (.cQ (ba kN es) (ix.erase i) H.length (some i)))[b]?=some (tC n R0 ps bZ body):=by rw[bf (Ne.symm Hr)];exact ko
 have m2:(H1.set mb (.cQ (ba kN es) (ix.erase i) H.length (some i)))[mb]?=some (.cQ (ba kN es) (ix.erase i) H.length (some i)):=bU SQ
 have i2:(H1.set mb (.cQ (ba kN es) (ix.erase i) H.length (some i)))[H.length]?=some (.tR mb):=by rw[bf Cn];exact BK
 have Zc:(H1.set mb (.cQ (ba kN es) (ix.erase i) H.length (some i))).length=H1.length:=by simp
 have SS:=kH b6 H1 (.cQ (ba kN es) (ix.erase i) H.length (some i)) hI
 generalize H1.set mb (.cQ (ba kN es) (ix.erase i) H.length (some i))=H2 at *
 have mV:b6.length<es.length:=by have:=lJ.len;have:=List.length_pos_of_mem hi;omega
 have fin:∀H3,Ext H2 H3→I b6 H3→eF env bZ (iv R0 ps [kN k]) H3 (fun o H1=>∃R1,o=.ex .normal R1∧H1[b]?=some (tC n R0 ps bZ body)∧eF env body R1 (H1.set b (Lx n R0 ps bZ body)) (fun o H2=>∃R2,o=.ex .normal R2∧H2[b]?=some (Lx n R0 ps bZ body) ∧
   ∃y:List Nm,es.length-y.length<es.length-b6.length∧At (H2.set b (tC n R0 ps bZ body)) (fun H'=>∃ix cur,I y H'∧RI es ix y∧H'[b]?=some (tC n R0 ps bZ body)∧H'[mb]?=some (.cQ (ba kN es) ix H.length cur)∧H'[H.length]?=some (.tR mb))∧R 0=.mR b∧R 5=.ptr H.length 0)):=by
  intro H3 hx h3
  have Ds:=hx.len
  refine cM _ _ _ (fun o H4=>?_) (bS b6 k H3 mV h3 (hx.get b2) (by omega))
  rintro⟨R1,rfl,hr,hw⟩
  refine⟨R1,rfl,hr,cM _ _ _ (fun o H5=>?_) hw⟩
  rintro⟨R2,rfl,uu,Zd,qU⟩
  have Cu:=aW uu
  have SG:=qU mb _ (hx.get m2) (.inl rfl)
  have SF:=qU H.length _ (hx.get i2) (.inr rfl)
  exact⟨R2,rfl,uu,b6++[k],by rw[List.length_append,List.length_singleton];omega,.i ⟨_,_,Zd,lJ.step fB hi Ly,bU Cu,by rw[bf Hr];exact SG,by rw[bf Zb];exact SF⟩,r0,r5⟩
 have Ze:=aW b2
 simp -implicitDefEqProofs only[op,ef,cl,sq,reduceIte,j2,j3,j4,j5,j6,j7,j8,j9,y1,S1,r0,r5,i2,m2,he,kN,eN,S2]
 refine Ld (b:=b) (n:=n) (R0:=R0) (ps:=ps) (bZ:=bZ) (body:=body) (by simp -implicitDefEqProofs only[op,ef,cl,sq,reduceIte,j2,j3,j4,j5,j6,j7,j8,j9,y1,S1,r0]) (by first|exact b2|(rw[aV Ze];exact b2)) (by rw[Y9];rfl) ?_
 simp -implicitDefEqProofs only[op,ef,cl,sq,reduceIte,j2,j3,j4,j5,j6,j7,j8,j9,y1,S1]
 first
  | exact fin _ ⟨_,rfl⟩ (qH _ _ _ SS)
  | exact fin _ Ext.rfl' SS
theorem Ob {n:Nat}{R0:ar}{ps:List Nat}{bZ body:C}(es:List (ByteArray×T))(c b mb:Nat)(H:af)(I:List ByteArray→af→Prop)(Y9:ps.length=1)(fB:(es.map (·.1)).Nodup)(h0:I [] H)(hb:H[b]?=some (tC n R0 ps bZ body))(hc:H[c]?=some (.cells [.map mb]))(hm:H[mb]?=some (.map (ba T.str es)))
  (kH:∀b6 H' y,I b6 H'→I b6 (H'.set mb y)) (qH:∀b6 H' (l:af),I b6 H'→I b6 (H'++l))
  (bS:∀b6 v H',b6.length<es.length→I b6 H'→H'[b]?=some (tC n R0 ps bZ body)→H.length<H'.length→eF env bZ (iv R0 ps [(T.str v)]) H' (fun o H1=>∃R1,o=.ex .normal R1∧H1[b]?=some (tC n R0 ps bZ body) ∧
   eF env body R1 (H1.set b (Lx n R0 ps bZ body)) (fun o H2=>∃R2,o=.ex .normal R2∧H2[b]?=some (Lx n R0 ps bZ body)∧I (b6++[v]) (H2.set b (tC n R0 ps bZ body))∧∀a y,H'[a]?=some y→a=mb∨a=H.length→H2[a]?=some y))) :
  W env (.call 100 [.mR b,.ptr c 0]) H (fun _ H'=>∃b6,I b6 H'∧RI es [] b6∧H'[b]?=some (tC n R0 ps bZ body)∧H'[mb]?=some (.map (ba T.str es))):=by
 have lm:=aW hm
 have lb:=aW hb
 have Hr:b≠mb:=by rintro rfl;rw[hm]at hb;cases hb
 have Dd:(ba T.str es).length=es.length:=by simp[ba]
 refine W.bR rfl rfl rfl ?_
 simp -implicitDefEqProofs only[E0,op,ef,cl,sq,reduceIte,j2,j3,j4,j5,j6,j7,j8,j9,y1,S1,hc,hm]
 refine W.cG (fun (b6:List ByteArray) R H'=>At H' (fun H'=>∃ix cur,I b6 H'∧RI es ix b6∧H'[b]?=some (tC n R0 ps bZ body)∧H'[mb]?=some (.cQ (ba T.str es) ix H.length cur)∧H'[H.length]?=some (.tR mb))∧R 0=.mR b∧R 5=.ptr H.length 0) (fun b6=>es.length-b6.length) [] ?_ ?_
 ·refine⟨.i ⟨List.range (ba T.str es).length,none,qH _ _ _ (kH _ _ _ h0),by rw[Dd];exact RI.start es,?_,?_,?_⟩,rfl,rfl⟩
  ·rw[aV (by simpa using lb),bf (Ne.symm Hr)];exact hb
  ·rw[aV (by simpa using lm),bU lm]
  ·rw[aU (by simp)]
 rintro b6 R H1⟨⟨ix,cur,hI,lJ,ko,JC,BK⟩,r0,r5⟩
 have lb1:=aW ko
 have SQ:=aW JC
 have Za:=aW BK
 have Zb:b≠H.length:=by rintro rfl;rw[BK]at ko;cases ko
 have Cn:mb≠H.length:=by omega
 simp -implicitDefEqProofs only[op,ef,cl,sq,reduceIte,j2,j3,j4,j5,j6,j7,j8,j9,y1,S1,r5]
 refine ym _ _ _ _ _ _ _ r5 JC ?_
 rintro t H2 (⟨rfl,rfl,rfl⟩|⟨i,e,hi,he,rfl,rfl⟩)
 ·simp -implicitDefEqProofs only[op,ef,cl,sq,reduceIte,j2,j3,j4,j5,j6,j7,j8,j9,y1,S1]
  exact⟨b6,kH _ _ _ hI,lJ,by rw[bf (Ne.symm Hr)];exact ko,bU SQ⟩
 obtain⟨⟨k,v0⟩,Ly⟩:=cj (lJ.lt i hi)
 have Co:e=(T.str k,v0):=by
  rw[ba,List.getElem?_map,Ly]at he;exact(Option.some.inj he).symm
 subst Co
 have b2:(H1.set mb (.cQ (ba T.str es) (ix.erase i) H.length (some i)))[b]?=some (tC n R0 ps bZ body):=by rw[bf (Ne.symm Hr)];exact ko
 have m2:(H1.set mb (.cQ (ba T.str es) (ix.erase i) H.length (some i)))[mb]?=some (.cQ (ba T.str es) (ix.erase i) H.length (some i)):=bU SQ
 have i2:(H1.set mb (.cQ (ba T.str es) (ix.erase i) H.length (some i)))[H.length]?=some (.tR mb):=by rw[bf Cn];exact BK
 have Zc:(H1.set mb (.cQ (ba T.str es) (ix.erase i) H.length (some i))).length=H1.length:=by simp
 have SS:=kH b6 H1 (.cQ (ba T.str es) (ix.erase i) H.length (some i)) hI
 generalize H1.set mb (.cQ (ba T.str es) (ix.erase i) H.length (some i))=H2 at *
 have mV:b6.length<es.length:=by have:=lJ.len;have:=List.length_pos_of_mem hi;omega
 have fin:∀H3,Ext H2 H3→I b6 H3→eF env bZ (iv R0 ps [T.str k]) H3 (fun o H1=>∃R1,o=.ex .normal R1∧H1[b]?=some (tC n R0 ps bZ body)∧eF env body R1 (H1.set b (Lx n R0 ps bZ body)) (fun o H2=>∃R2,o=.ex .normal R2∧H2[b]?=some (Lx n R0 ps bZ body) ∧
   ∃y:List ByteArray,es.length-y.length<es.length-b6.length∧At (H2.set b (tC n R0 ps bZ body)) (fun H'=>∃ix cur,I y H'∧RI es ix y∧H'[b]?=some (tC n R0 ps bZ body)∧H'[mb]?=some (.cQ (ba T.str es) ix H.length cur)∧H'[H.length]?=some (.tR mb))∧R 0=.mR b∧R 5=.ptr H.length 0)):=by
  intro H3 hx h3
  have Ds:=hx.len
  refine cM _ _ _ (fun o H4=>?_) (bS b6 k H3 mV h3 (hx.get b2) (by omega))
  rintro⟨R1,rfl,hr,hw⟩
  refine⟨R1,rfl,hr,cM _ _ _ (fun o H5=>?_) hw⟩
  rintro⟨R2,rfl,uu,Zd,qU⟩
  have Cu:=aW uu
  have SG:=qU mb _ (hx.get m2) (.inl rfl)
  have SF:=qU H.length _ (hx.get i2) (.inr rfl)
  exact⟨R2,rfl,uu,b6++[k],by rw[List.length_append,List.length_singleton];omega,.i ⟨_,_,Zd,lJ.step fB hi Ly,bU Cu,by rw[bf Hr];exact SG,by rw[bf Zb];exact SF⟩,r0,r5⟩
 have Ze:=aW b2
 simp -implicitDefEqProofs only[op,ef,cl,sq,reduceIte,j2,j3,j4,j5,j6,j7,j8,j9,y1,S1,r0,r5,i2,m2,he,kN,eN,S2]
 refine Ld (b:=b) (n:=n) (R0:=R0) (ps:=ps) (bZ:=bZ) (body:=body) (by simp -implicitDefEqProofs only[op,ef,cl,sq,reduceIte,j2,j3,j4,j5,j6,j7,j8,j9,y1,S1,r0]) (by first|exact b2|(rw[aV Ze];exact b2)) (by rw[Y9];rfl) ?_
 simp -implicitDefEqProofs only[op,ef,cl,sq,reduceIte,j2,j3,j4,j5,j6,j7,j8,j9,y1,S1]
 first
  | exact fin _ ⟨_,rfl⟩ (qH _ _ _ SS)
  | exact fin _ Ext.rfl' SS
def JD {α:Type}(enc:α→List T)(n:Nat)(es:List (α×T))(H:af):Out→af→Prop:=fun o H'=>Ext H H'∧∃t b6,o=.val t∧pc enc n H.length H' t b6∧RI es [] b6
def iJ (H:af):T→af
 | .ax b _ _ _=>H.set b .dead
 | _=>H
theorem jr (H:af)(t:T):(iJ H t).length=H.length:=by cases t<;>simp[iJ]
theorem nK {H:af}{t:T}{a:Nat}(h:∀off len m,t≠.ax a off len m):(iJ H t)[a]?=H[a]?:=by
 cases t with
 | ax b off len m=>exact bf (fun e=>h off len m (by rw[e]))
 | _=>rfl
theorem xa {α:Type}{enc:α→List T}{n n0 bytes:Nat}(hn:∀x,(enc x).length=n){H:af}{t:T}{l:List α}(h:pc enc n n0 H t l)(v:α)(hr:db (l.length+1) bytes=true):m3 H n bytes t [enc v]=some (.ax H.length 0 (l.length+1) n,iJ H t++[.cells (aJ enc (l++[v]))]):=by
 have qH:aJ enc l++enc v=aJ enc (l++[v]):=by simp[aJ]
 rcases h with⟨rfl,rfl⟩|⟨b,rfl,hb,_⟩
 ·simp -implicitDefEqProofs only[List.length_nil,Nat.zero_add]at hr
  simp[m3,hr,iJ,aJ]
 ·have hc:l.length*n=(aJ enc l).length:=(du hn l).symm
  simp[m3,hb,hc,hr,iJ,qH]
theorem SU (es:List (Nm×T))(c mb:Nat)(H:af)(fB:(es.map (·.1)).Nodup)(ib:es.length≤8000000)(hc:H[c]?=some (.cells [.map mb]))(hm:H[mb]?=some (.map (ba kN es))) :
  W env (.call 116 [.sl .nil [],.fn 94 [.ptr c 0]]) H (JD eN 2 es H):=by
 have lm:=aW hm
 have lc:=aW hc
 refine W.QX rfl rfl ?_
 simp -implicitDefEqProofs only[E8,op,ef,cl,sq,reduceIte,j2,j3,j4,j5,j6,j7,j8,j9,y1,S1,S2]
 generalize hR:nX (nX (nX (gr [T.sl SK.nil [],T.fn 94 [T.ptr c 0]]) 2 (T.ptr H.length 0)) 4 (T.sl SK.nil [])) 6 (T.fn 94 [T.ptr c 0])=R0
 have r2:R0 2=.ptr H.length 0:=by rw[←hR];simp -implicitDefEqProofs only[op,ef,cl,sq,reduceIte,j2,j3,j4,j5,j6,j7,j8,j9,y1,S1]
 have r6:R0 6=.fn 94 [.ptr c 0]:=by rw[←hR];simp -implicitDefEqProofs only[op,ef,cl,sq,reduceIte,j2,j3,j4,j5,j6,j7,j8,j9,y1,S1]
 have Zf:R0 13=.bF []:=by rw[←hR];rfl
 refine W.D0 (f:=94) (cs:=[.ptr c 0]) (by simp -implicitDefEqProofs only[op,ef,cl,sq,reduceIte,j2,j3,j4,j5,j6,j7,j8,j9,y1,S1,r6]) ?_
 have a1:(H++[B.cells [T.sl SK.nil []]]).length=H.length+1:=by simp
 rw[a1,Zf,Lq]
 have e1:H.length+1+1=H.length+2:=rfl
 rw[e1]
 generalize tV:H.length=f at *
 have n02:¬(f=f+2):=by omega
 have Zg:¬(f+1=f+2):=by omega
 have kc:∀x y:B,(H++[B.cells [T.sl SK.nil []]]++[y,x])[f+2]?=some x:=fun x y=>by
  rw[List.getElem?_append_right (by omega),a1]
  have:f+2-(f+1)=1:=by omega
  rw[this];rfl
 have SV:∀x y:B,(H++[B.cells [T.sl SK.nil []]]++[y,x]).length=f+3:=fun x y=>by simp[tV]
 have Oc:∀(x y:B) (a:Nat) z,H[a]?=some z→(H++[B.cells [T.sl SK.nil []]]++[y,x])[a]?=some z:=fun x y a z hz=>by
  have:=aW hz
  rw[aV (by omega),aV (by omega)];exact hz
 refine W.use (Oa (hb:=kc _ _) es c (f+2) mb _ (fun b6 H'=>At H' fun H'=>∃t,H'[f]?=some (.cells [t])∧pc eN 2 (f+4) H' t b6∧H'[f+1]?=some .zf∧∀(a:Nat) y,H[a]?=some y→a≠mb→H'[a]?=some y) rfl fB ?_ (Oc _ _ _ _ hc) (Oc _ _ _ _ hm) ?_ ?_ ?_) ?_
 ·refine .i ⟨.sl .nil [],?_,nA _ _ _ _,?_,fun a y hy _=>Oc _ _ _ _ hy⟩
  ·rw[aV (by omega),aU (by omega)]
  ·rw[aU (by omega)]
 ·rintro b6 H' y⟨t,h1,h2,h3,h4⟩
  refine .i ⟨t,by rw[bf (by omega)];exact h1,?_,by rw[bf (by omega)];exact h3,fun a z hz ha=>by rw[bf (Ne.symm ha)];exact h4 a z hz ha⟩
  rcases h2 with h2|⟨d,e1,e2,e3⟩
  ·exact .inl h2
  ·exact .inr ⟨d,e1,by rw[bf (by omega)];exact e2,e3⟩
 ·rintro b6 H' l⟨t,h1,h2,h3,h4⟩
  exact .i ⟨t,by rw[aV (aW h1)];exact h1,h2.ext ⟨_,rfl⟩,by rw[aV (aW h3)];exact h3,fun a z hz ha=>by rw[aV (aW (h4 a z hz ha))];exact h4 a z hz ha⟩
 ·rintro b6 v H' mV⟨t,h1,h2,h3,h4⟩ hb hlen
  rw[SV]at hlen
  have mf:=aW h1
  have m1:=aW h3
  have m2:=aW hb
  have bG:∀a,a<f+4→∀off len m,t≠.ax a off len m:=fun a ha off len m he=>by
   rcases h2 with⟨_,e⟩|⟨d,e,_,e3⟩
   ·rw[e]at he;cases he
   ·rw[e]at he;cases he;omega
  have Jk:zg t=t:=by rcases h2 with⟨_,rfl⟩|⟨d,rfl,_⟩<;>rfl
  have hL:∀y:B,(H'.set (f+2) y++[B.cells (eN v)]).length=H'.length+1:=fun y=>by simp
  have mJ:∀y:B,m3 (H'.set (f+2) y++[B.cells (eN v)]) 2 24 t [eN v]=some (.ax (H'.length+1) 0 (b6++[v]).length 2,iJ (H'.set (f+2) y++[B.cells (eN v)]) t++[.cells (aJ eN (b6++[v]))]):=fun y=>by
   have:=xa (enc:=eN) (n:=2) (bytes:=24) (n0:=f+4) (H:=H'.set (f+2) y++[B.cells (eN v)]) (t:=t) (l:=b6) (fun _=>rfl) (by
    rcases h2 with h2|⟨d,e1,e2,e3⟩
    ·exact .inl h2
    ·refine .inr ⟨d,e1,?_,e3⟩
     first
      | (rw[aV (by rw[List.length_set];exact aW e2),bf (by omega)];exact e2)
      | (rw[bf (by omega)];exact e2)) v (tu (by omega) (by omega))
   rw[hL]at this
   rw[this,List.length_append];rfl
  simp -implicitDefEqProofs only[eN]at mJ
  have oF:∀(y:B) (a:Nat) z,H'[a]?=some z→a≠f+2→a<f+4→(iJ (H'.set (f+2) y++[B.cells (eN v)]) t++[.cells (aJ eN (b6++[v]))])[a]?=some z:=fun y a z hz h2 h4=>by
   have:=aW hz
   rw[aV (by rw[jr];simp;omega),nK (bG a h4)]
   first
    | (rw[aV (by rw[List.length_set];exact this),bf (Ne.symm h2)];exact hz)
    | (rw[bf (Ne.symm h2)];exact hz)
  have Zh:¬(f+2=H'.length):=by omega
  have Zi:¬(f+2=f):=by omega
  have Zj:¬(H'.length=f):=by omega
  simp -implicitDefEqProofs only[op,ef,cl,sq,reduceIte,j2,j3,j4,j5,j6,j7,j8,j9,y1,S1,S2,iv,kN,eN]
  refine⟨_,rfl,?_,?_⟩
  ·first
    | exact hb
    | (rw[aV m2];exact hb)
  have FU:=fun y=>oF y f _ h1 (by omega) (by omega)
  have SW:∀y:B,(iJ (H'.set (f+2) y++[B.cells (eN v)]) t++[.cells (aJ eN (b6++[v]))])[f+2]?=some y:=fun y=>by
   rw[aV (by rw[jr];simp;omega),nK (bG _ (by omega))]
   first
    | (rw[aV (by rw[List.length_set];exact m2),bU m2])
    | (rw[bU m2])
  have FV:∀y:B,(iJ (H'.set (f+2) y++[B.cells (eN v)]) t++[.cells (aJ eN (b6++[v]))])[H'.length+1]?=some (.cells (aJ eN (b6++[v]))):=fun y=>by
   rw[aU (by rw[jr,hL])]
  try simp -implicitDefEqProofs only[eN]at FU
  try simp -implicitDefEqProofs only[eN]at SW
  try simp -implicitDefEqProofs only[eN]at FV
  try simp -implicitDefEqProofs only[eN]at oF
  simp -implicitDefEqProofs only[op,ef,cl,sq,reduceIte,j2,j3,j4,j5,j6,j7,j8,j9,y1,S1,S2,List.length_set,r2,mf,m2,Zh,Zi,Zj,h1,Jk,mJ,FU]
  refine⟨_,rfl,by rw[bf (by omega)];exact SW _,.i ⟨_,by rw[bf (by omega),bU (aW (FU _))],.inr ⟨_,rfl,by rw[bf (by omega),bf (by omega)];exact FV _,by omega⟩,by rw[bf (by omega),bf (by omega)];exact oF _ _ _ h3 (by omega) (by omega),fun a y hy ha=>?_⟩,fun a y hy ha=>?_⟩
  ·have:=aW hy
   rw[bf (by omega),bf (by omega)];exact oF _ _ _ (h4 a y hy ha) (by omega) (by omega)
  ·rw[SV]at ha
   rw[bf (by omega)];exact oF _ _ _ hy (by omega) (by omega)
 ·rintro o H'⟨b6,⟨t,h1,h2,h3,h4⟩,lJ,hb,qi⟩
  refine⟨hb,?_⟩
  have k2:¬(f+2=f+1):=by omega
  have Zk:¬(f+2=f):=by omega
  simp -implicitDefEqProofs only[op,ef,cl,sq,reduceIte,j2,j3,j4,j5,j6,j7,j8,j9,y1,S1,S2,r2,Zk,h1]
  refine ET (b:=f+1) (by simp -implicitDefEqProofs only[op,ef,cl,sq,reduceIte,j2,j3,j4,j5,j6,j7,j8,j9,y1,S1]) (by rw[bf (by omega)];exact h3) ?_
  simp -implicitDefEqProofs only[op,ef,cl,sq,reduceIte,j2,j3,j4,j5,j6,j7,j8,j9,y1,S1]
  refine⟨mM fun a y hy=>?_,t,b6,rfl,?_,lJ⟩
  ·have:=aW hy
   rw[bf (by omega),bf (by omega)]
   by_cases ha:a=mb
   ·subst ha;rw[hm]at hy;cases hy;exact qi
   ·exact h4 a y hy ha
  ·rcases h2 with h2|⟨d,e1,e2,e3⟩
   ·exact .inl h2
   ·exact .inr ⟨d,e1,by rw[bf (by omega),bf (by omega)];exact e2,by omega⟩
theorem SX (es:List (ByteArray×T))(c mb:Nat)(H:af)(fB:(es.map (·.1)).Nodup)(ib:es.length≤8000000)(hc:H[c]?=some (.cells [.map mb]))(hm:H[mb]?=some (.map (ba T.str es))) :
  W env (.call 121 [.sl .nil [],.fn 100 [.ptr c 0]]) H (JD eS 1 es H):=by
 have lm:=aW hm
 have lc:=aW hc
 refine W.QX rfl rfl ?_
 simp -implicitDefEqProofs only[Fb,op,ef,cl,sq,reduceIte,j2,j3,j4,j5,j6,j7,j8,j9,y1,S1,S2]
 generalize hR:nX (nX (nX (gr [T.sl SK.nil [],T.fn 100 [T.ptr c 0]]) 2 (T.ptr H.length 0)) 4 (T.sl SK.nil [])) 6 (T.fn 100 [T.ptr c 0])=R0
 have r2:R0 2=.ptr H.length 0:=by rw[←hR];simp -implicitDefEqProofs only[op,ef,cl,sq,reduceIte,j2,j3,j4,j5,j6,j7,j8,j9,y1,S1]
 have r6:R0 6=.fn 100 [.ptr c 0]:=by rw[←hR];simp -implicitDefEqProofs only[op,ef,cl,sq,reduceIte,j2,j3,j4,j5,j6,j7,j8,j9,y1,S1]
 have Zf:R0 13=.bF []:=by rw[←hR];rfl
 refine W.D0 (f:=100) (cs:=[.ptr c 0]) (by simp -implicitDefEqProofs only[op,ef,cl,sq,reduceIte,j2,j3,j4,j5,j6,j7,j8,j9,y1,S1,r6]) ?_
 have a1:(H++[B.cells [T.sl SK.nil []]]).length=H.length+1:=by simp
 rw[a1,Zf,Lq]
 have e1:H.length+1+1=H.length+2:=rfl
 rw[e1]
 generalize tV:H.length=f at *
 have n02:¬(f=f+2):=by omega
 have Zg:¬(f+1=f+2):=by omega
 have kc:∀x y:B,(H++[B.cells [T.sl SK.nil []]]++[y,x])[f+2]?=some x:=fun x y=>by
  rw[List.getElem?_append_right (by omega),a1]
  have:f+2-(f+1)=1:=by omega
  rw[this];rfl
 have SV:∀x y:B,(H++[B.cells [T.sl SK.nil []]]++[y,x]).length=f+3:=fun x y=>by simp[tV]
 have Oc:∀(x y:B) (a:Nat) z,H[a]?=some z→(H++[B.cells [T.sl SK.nil []]]++[y,x])[a]?=some z:=fun x y a z hz=>by
  have:=aW hz
  rw[aV (by omega),aV (by omega)];exact hz
 refine W.use (Ob (hb:=kc _ _) es c (f+2) mb _ (fun b6 H'=>At H' fun H'=>∃t,H'[f]?=some (.cells [t])∧pc eS 1 (f+4) H' t b6∧H'[f+1]?=some .zf∧∀(a:Nat) y,H[a]?=some y→a≠mb→H'[a]?=some y) rfl fB ?_ (Oc _ _ _ _ hc) (Oc _ _ _ _ hm) ?_ ?_ ?_) ?_
 ·refine .i ⟨.sl .nil [],?_,nA _ _ _ _,?_,fun a y hy _=>Oc _ _ _ _ hy⟩
  ·rw[aV (by omega),aU (by omega)]
  ·rw[aU (by omega)]
 ·rintro b6 H' y⟨t,h1,h2,h3,h4⟩
  refine .i ⟨t,by rw[bf (by omega)];exact h1,?_,by rw[bf (by omega)];exact h3,fun a z hz ha=>by rw[bf (Ne.symm ha)];exact h4 a z hz ha⟩
  rcases h2 with h2|⟨d,e1,e2,e3⟩
  ·exact .inl h2
  ·exact .inr ⟨d,e1,by rw[bf (by omega)];exact e2,e3⟩
 ·rintro b6 H' l⟨t,h1,h2,h3,h4⟩
  exact .i ⟨t,by rw[aV (aW h1)];exact h1,h2.ext ⟨_,rfl⟩,by rw[aV (aW h3)];exact h3,fun a z hz ha=>by rw[aV (aW (h4 a z hz ha))];exact h4 a z hz ha⟩
 ·rintro b6 v H' mV⟨t,h1,h2,h3,h4⟩ hb hlen
  rw[SV]at hlen
  have mf:=aW h1
  have m1:=aW h3
  have m2:=aW hb
  have bG:∀a,a<f+4→∀off len m,t≠.ax a off len m:=fun a ha off len m he=>by
   rcases h2 with⟨_,e⟩|⟨d,e,_,e3⟩
   ·rw[e]at he;cases he
   ·rw[e]at he;cases he;omega
  have Jk:zg t=t:=by rcases h2 with⟨_,rfl⟩|⟨d,rfl,_⟩<;>rfl
  have hL:∀y:B,(H'.set (f+2) y).length=H'.length:=fun y=>by simp
  have mJ:∀y:B,m3 (H'.set (f+2) y) 1 16 t [eS v]=some (.ax (H'.length) 0 (b6++[v]).length 1,iJ (H'.set (f+2) y) t++[.cells (aJ eS (b6++[v]))]):=fun y=>by
   have:=xa (enc:=eS) (n:=1) (bytes:=16) (n0:=f+4) (H:=H'.set (f+2) y) (t:=t) (l:=b6) (fun _=>rfl) (by
    rcases h2 with h2|⟨d,e1,e2,e3⟩
    ·exact .inl h2
    ·refine .inr ⟨d,e1,?_,e3⟩
     first
      | (rw[aV (by rw[List.length_set];exact aW e2),bf (by omega)];exact e2)
      | (rw[bf (by omega)];exact e2)) v (tu (by omega) (by omega))
   rw[hL]at this
   rw[this,List.length_append];rfl
  simp -implicitDefEqProofs only[eS]at mJ
  have oF:∀(y:B) (a:Nat) z,H'[a]?=some z→a≠f+2→a<f+4→(iJ (H'.set (f+2) y) t++[.cells (aJ eS (b6++[v]))])[a]?=some z:=fun y a z hz h2 h4=>by
   have:=aW hz
   rw[aV (by rw[jr];simp;omega),nK (bG a h4)]
   first
    | (rw[aV (by rw[List.length_set];exact this),bf (Ne.symm h2)];exact hz)
    | (rw[bf (Ne.symm h2)];exact hz)
  have Zh:¬(f+2=H'.length):=by omega
  have Zi:¬(f+2=f):=by omega
  have Zj:¬(H'.length=f):=by omega
  simp -implicitDefEqProofs only[op,ef,cl,sq,reduceIte,j2,j3,j4,j5,j6,j7,j8,j9,y1,S1,S2,iv,kN,eN]
  refine⟨_,rfl,?_,?_⟩
  ·first
    | exact hb
    | (rw[aV m2];exact hb)
  have FU:=fun y=>oF y f _ h1 (by omega) (by omega)
  have SW:∀y:B,(iJ (H'.set (f+2) y) t++[.cells (aJ eS (b6++[v]))])[f+2]?=some y:=fun y=>by
   rw[aV (by rw[jr];simp;omega),nK (bG _ (by omega))]
   first
    | (rw[aV (by rw[List.length_set];exact m2),bU m2])
    | (rw[bU m2])
  have FV:∀y:B,(iJ (H'.set (f+2) y) t++[.cells (aJ eS (b6++[v]))])[H'.length]?=some (.cells (aJ eS (b6++[v]))):=fun y=>by
   rw[aU (by rw[jr,hL])]
  try simp -implicitDefEqProofs only[eS]at FU
  try simp -implicitDefEqProofs only[eS]at SW
  try simp -implicitDefEqProofs only[eS]at FV
  try simp -implicitDefEqProofs only[eS]at oF
  simp -implicitDefEqProofs only[op,ef,cl,sq,reduceIte,j2,j3,j4,j5,j6,j7,j8,j9,y1,S1,S2,List.length_set,r2,mf,m2,Zh,Zi,Zj,h1,Jk,mJ,FU]
  refine⟨_,rfl,by rw[bf (by omega)];exact SW _,.i ⟨_,by rw[bf (by omega),bU (aW (FU _))],.inr ⟨_,rfl,by rw[bf (by omega),bf (by omega)];exact FV _,by omega⟩,by rw[bf (by omega),bf (by omega)];exact oF _ _ _ h3 (by omega) (by omega),fun a y hy ha=>?_⟩,fun a y hy ha=>?_⟩
  ·have:=aW hy
   rw[bf (by omega),bf (by omega)];exact oF _ _ _ (h4 a y hy ha) (by omega) (by omega)
  ·rw[SV]at ha
   rw[bf (by omega)];exact oF _ _ _ hy (by omega) (by omega)
 ·rintro o H'⟨b6,⟨t,h1,h2,h3,h4⟩,lJ,hb,qi⟩
  refine⟨hb,?_⟩
  have k2:¬(f+2=f+1):=by omega
  have Zk:¬(f+2=f):=by omega
  simp -implicitDefEqProofs only[op,ef,cl,sq,reduceIte,j2,j3,j4,j5,j6,j7,j8,j9,y1,S1,S2,r2,Zk,h1]
  refine ET (b:=f+1) (by simp -implicitDefEqProofs only[op,ef,cl,sq,reduceIte,j2,j3,j4,j5,j6,j7,j8,j9,y1,S1]) (by rw[bf (by omega)];exact h3) ?_
  simp -implicitDefEqProofs only[op,ef,cl,sq,reduceIte,j2,j3,j4,j5,j6,j7,j8,j9,y1,S1]
  refine⟨mM fun a y hy=>?_,t,b6,rfl,?_,lJ⟩
  ·have:=aW hy
   rw[bf (by omega),bf (by omega)]
   by_cases ha:a=mb
   ·subst ha;rw[hm]at hy;cases hy;exact qi
   ·exact h4 a y hy ha
  ·rcases h2 with h2|⟨d,e1,e2,e3⟩
   ·exact .inl h2
   ·exact .inr ⟨d,e1,by rw[bf (by omega),bf (by omega)];exact e2,by omega⟩
theorem Od (es:List (Nm×T))(c mb:Nat)(H:af)(fB:(es.map (·.1)).Nodup)(ib:es.length≤8000000)(hc:H[c]?=some (.cells [.map mb]))(hm:H[mb]?=some (.map (ba kN es))) :
  W env (.call 92 [.fn 94 [.ptr c 0]]) H (JD eN 2 es H):=by
 refine W.bR rfl rfl rfl ?_
 simp -implicitDefEqProofs only[NS,op,ef,cl,sq,reduceIte,j2,j3,j4,j5,j6,j7,j8,j9,y1,S1]
 refine ae _ _ _ _ _ _ _ _ (SU es c mb H fB ib hc hm) ?_
 rintro u H1⟨hx,t,b6,hu,h1,h2⟩
 cases hu
 simp -implicitDefEqProofs only[op,ef,cl,sq,reduceIte,j2,j3,j4,j5,j6,j7,j8,j9,y1,S1]
 exact⟨hx,_,b6,rfl,h1,h2⟩
theorem Oe (es:List (ByteArray×T))(c mb:Nat)(H:af)(fB:(es.map (·.1)).Nodup)(ib:es.length≤8000000)(hc:H[c]?=some (.cells [.map mb]))(hm:H[mb]?=some (.map (ba T.str es))) :
  W env (.call 98 [.fn 100 [.ptr c 0]]) H (JD eS 1 es H):=by
 refine W.bR rfl rfl rfl ?_
 simp -implicitDefEqProofs only[NX,op,ef,cl,sq,reduceIte,j2,j3,j4,j5,j6,j7,j8,j9,y1,S1]
 refine ae _ _ _ _ _ _ _ _ (SX es c mb H fB ib hc hm) ?_
 rintro u H1⟨hx,t,b6,hu,h1,h2⟩
 cases hu
 simp -implicitDefEqProofs only[op,ef,cl,sq,reduceIte,j2,j3,j4,j5,j6,j7,j8,j9,y1,S1]
 exact⟨hx,_,b6,rfl,h1,h2⟩
theorem iK {α:Type}[Inhabited α]{d:Array α}{i:Nat}(h:i<d.size):d.toList[i]?=some d[i]!:=by
 rw[Array.getElem?_toList,Array.getElem?_eq_getElem h,getElem!_pos d i h]
theorem xb {α:Type}[Inhabited α](d:Array α)(i j:Nat):(Go.Sort.swp d i j).toList=(d.toList.set i d[j]!).set j d[i]!:=by
 simp[Go.Sort.swp,Array.toList_setIfInBounds]
theorem swp_size {α:Type}[Inhabited α](d:Array α)(i j:Nat):(Go.Sort.swp d i j).size=d.size:=by simp[Go.Sort.swp]
def aX (a b:Nm):Bool:=decide (dz a b<0)
def Zl (c:Nat)(d':Array Nm)(H:af):Out→af→Prop:=fun o H'=>o=.val (.bF [])∧H'[c]?=some (.cells (aJ eN d'.toList))∧bh (fun x=>x=c) H H'
theorem uJ {Hx:af}{c:Nat}(d:Array Nm){i j:Nat}(hi:i<d.size)(hj:j<d.size) :
  pr Hx c [.str d[j]!.1,.int .u64 d[j]!.2] (i*2) (some (.cells (aJ eN d.toList)))=some (Hx.set c (.cells (aJ eN (d.toList.set i d[j]!)))) ∧
  ∀Hy,pr Hy c [.str d[i]!.1,.int .u64 d[i]!.2] (j*2) (some (.cells (aJ eN (d.toList.set i d[j]!))))=some (Hy.set c (.cells (aJ eN (Go.Sort.swp d i j).toList))):=by
 have g1:=lE (enc:=eN) (n:=2) (y:=d[j]!) (fun _=>rfl) (iK hi) Hx c (eN d[j]!) 0 (by simp[eN]) (by simp[eN])
 obtain⟨z,hz⟩:=cj (l:=d.toList.set i d[j]!) (i:=j) (by simpa using hj)
 have g2:=fun Hy=>lE (enc:=eN) (n:=2) (y:=d[i]!) (fun _=>rfl) hz Hy c (eN d[i]!) 0 (by simp[eN]) (by simp[eN])
 refine⟨by simpa[eN]using g1,fun Hy=>?_⟩
 rw[xb]
 simpa[eN]using g2 Hy
theorem FW {d:Array Nm}{i:Nat}(h:i<d.size):sd 2 (i*2) (some (.cells (aJ eN d.toList)))=some [.str d[i]!.1,.int .u64 d[i]!.2]:=by
 have:=jM (enc:=eN) (n:=2) (fun _=>rfl) (iK h) 0 2 (by decide)
 simpa[eN]using this
open Go.Sort in
theorem SY (c:Nat)(d:Array Nm)(a b:Nat)(H:af)(hc:H[c]?=some (.cells (aJ eN d.toList)))(hb:b≤d.size)(gb:a≤b)(hs:d.size<4611686018427387903) :
  W env (.call 132 [.ax c 0 d.size 2,.int .i64 a,.int .i64 b,.fn 61 []]) H (Zl c (insertionSort aX d a b) H):=by
 refine W.bR rfl rfl rfl ?_
 have wa:=aC (show a<9223372036854775807 by omega)
 simp -implicitDefEqProofs only[Aa,op,ef,cl,sq,reduceIte,j2,j3,j4,j5,j6,j7,j8,j9,y1,S1,wa]
 refine W.cG (fun (i:Nat) R H'=>At H' (fun H'=>∃di:Array Nm,H'[c]?=some (.cells (aJ eN di.toList))∧di.size=d.size∧insOuter aX a b i di=insertionSort aX d a b∧bh (fun x=>x=c) H H')∧R 0=.ax c 0 d.size 2∧R 1=.int .i64 a∧R 2=.int .i64 b∧R 3=.fn 61 []∧R 8=.int .i64 i∧a+1≤i) (fun i=>b-i) (a+1) ⟨.i ⟨d,hc,rfl,rfl,bh.refl _ _⟩,rfl,rfl,rfl,rfl,rfl,Nat.le_refl _⟩ ?_
 rintro i R H1⟨⟨di,hd,a6,yz,aq⟩,h0,h1,h2,h3,h8,vu⟩
 by_cases au:i<b
 ·have wi:=aC (show i<9223372036854775807 by omega)
  simp -implicitDefEqProofs only[op,ef,cl,sq,reduceIte,j2,j3,j4,j5,j6,j7,j8,j9,y1,S1,h0,h1,h2,h3,h8,au]
  refine W.cN 2 (fun (j:Nat) R H'=>At H' (fun H'=>∃dj:Array Nm,H'[c]?=some (.cells (aJ eN dj.toList))∧dj.size=d.size∧insInner aX a j dj=insInner aX a i di∧bh (fun x=>x=c) H H')∧R 0=.ax c 0 d.size 2∧R 1=.int .i64 a∧R 2=.int .i64 b∧R 3=.fn 61 []∧R 8=.int .i64 i∧R 9=.int .i64 j∧j≤i) (fun j=>j) i
   (fun R H'=>At H' (fun H'=>∃dj:Array Nm,H'[c]?=some (.cells (aJ eN dj.toList))∧dj.size=d.size∧dj=insInner aX a i di∧bh (fun x=>x=c) H H')∧R 0=.ax c 0 d.size 2∧R 1=.int .i64 a∧R 2=.int .i64 b∧R 3=.fn 61 []∧R 8=.int .i64 i) ?_ ?_ ?_
  ·refine⟨.i ⟨di,hd,a6,rfl,aq⟩,?_,?_,?_,?_,?_,?_,Nat.le_refl _⟩
   all_goals (simp -implicitDefEqProofs only[op,ef,cl,sq,reduceIte,j2,j3,j4,j5,j6,j7,j8,j9,y1,S1,h0,h1,h2,h3,h8])
  ·rintro j R H2⟨⟨dj,cu,px,qV,jO⟩,q0,q1,q2,q3,q8,q9,Qy⟩
   by_cases Of:a<j
   ·obtain⟨j',rfl⟩:∃j',j=j'+1:=⟨j-1,by omega⟩
    have wp:IntKind.i64.wrap (((j'+1:Nat):Int)-1)=(j':Int):=by rw[wrap64 (by omega)];omega
    have j1:j'+1<d.size:=by omega
    have j0:j'<d.size:=by omega
    have i1:dE 2 (j'+1) (.ax c 0 d.size 2)=some (.ptr c ((j'+1)*2)):=by rw[jV];simp[j1]
    have i0:dE 2 j' (.ax c 0 d.size 2)=some (.ptr c (j'*2)):=by rw[jV];simp[j0]
    have v1:=FW (d:=dj) (i:=j'+1) (by omega)
    have v0:=FW (d:=dj) (i:=j') (by omega)
    simp -implicitDefEqProofs only[op,ef,cl,sq,reduceIte,j2,j3,j4,j5,j6,j7,j8,j9,y1,S1,q0,q1,q2,q3,q8,q9,Of,aa,i1,i0,wp,cu,v1,v0]
    refine kV _ _ _ _ _ _ _ (by simp -implicitDefEqProofs only[op,ef,cl,sq,reduceIte,j2,j3,j4,j5,j6,j7,j8,j9,y1,S1]) ?_
    simp -implicitDefEqProofs only[op,ef,cl,sq,reduceIte,j2,j3,j4,j5,j6,j7,j8,j9,y1,S1,cy,q0,q1,q2,q3,q8,q9,List.append_nil]
    refine ae _ _ _ _ _ _ _ _ (cd dj[j'+1]! dj[j']! _) ?_
    rintro u H3⟨hu,hx⟩
    cases hu
    have hx:Ext H2 H3:=hx
    have nL:=hx.get cu
    obtain⟨s1,s2⟩:=uJ (Hx:=H3) (c:=c) dj (i:=j'+1) (j:=j') (by omega) (by omega)
    have SZ:bh (fun x=>x=c) H H3:=jO.trans (ay (F:=fun _=>False) hx) (fun _ h=>h.elim)
    have ltd:aX dj[j'+1]! dj[j']! = decide (dz dj[j'+1]! dj[j']!<0):=rfl
    by_cases mr:dz dj[j'+1]! dj[j']!<0
    ·simp -implicitDefEqProofs only[op,ef,cl,sq,reduceIte,j2,j3,j4,j5,j6,j7,j8,j9,y1,S1,q0,q1,q2,q3,q8,q9,mr,aa,i1,i0,wp,nL,v1,v0,s1,S2,s2,aW nL]
     exact⟨j',by omega,.i ⟨swp dj (j'+1) j',bU (by rw[List.length_set];exact aW nL),by rw[swp_size];exact px,by rw[←qV];conv=>{ rhs;rw[insInner,if_pos (by simp -implicitDefEqProofs only[Bool.and_eq_true,decide_eq_true_eq,ltd];exact⟨Of,mr⟩)] },(SZ.set (.inl rfl) _).set (.inl rfl) _⟩,rfl,by omega⟩
    ·simp -implicitDefEqProofs only[op,ef,cl,sq,reduceIte,j2,j3,j4,j5,j6,j7,j8,j9,y1,S1,q0,q1,q2,q3,q8,q9,mr]
     exact .i ⟨dj,nL,px,by rw[←qV,insInner,ltd];simp[mr],SZ⟩
   ·simp -implicitDefEqProofs only[op,ef,cl,sq,reduceIte,j2,j3,j4,j5,j6,j7,j8,j9,y1,S1,q0,q1,q2,q3,q8,q9,Of]
    refine .i ⟨dj,cu,px,?_,jO⟩
    rw[←qV]
    cases j with
    | zero=>rfl
    | succ j=>rw[insInner,if_neg (by simp -implicitDefEqProofs only[Bool.and_eq_true,decide_eq_true_eq];omega)]
  ·rintro R H2⟨⟨dj,cu,px,qV,jO⟩,q0,q1,q2,q3,q8⟩
   simp -implicitDefEqProofs only[op,ef,cl,sq,reduceIte,j2,j3,j4,j5,j6,j7,j8,j9,y1,S1,q0,q1,q2,q3,q8,wi]
   refine⟨i+1,by omega,.i ⟨dj,cu,px,?_,jO⟩,rfl,by omega⟩
   rw[←yz,qV]
   conv=>rhs;rw[insOuter,if_pos au]
 ·simp -implicitDefEqProofs only[op,ef,cl,sq,reduceIte,j2,j3,j4,j5,j6,j7,j8,j9,y1,S1,h0,h1,h2,h3,h8,au]
  rw[insOuter,if_neg au]at yz
  subst yz
  exact⟨rfl,hd,aq⟩
theorem JE {β:Type}{K:Option β→Prop}{A:Array UInt8}{n:Nat}(hn:n<A.size)(f:UInt8→β)(h:∀c,K (some (f c))):K (Option.map f A[n]?):=by rw[Array.getElem?_eq_getElem hn];exact h _
theorem S0 (n:Nat)(hn:n<256)(H:af):W env (.call 118 [.int .u64 n]) H (fun o H'=>H'=H∧∃m:Nat,o=.val (.int .i64 m)):=by
 refine W.bR rfl rfl rfl ?_
 simp -implicitDefEqProofs only[z9,op,ef,cl,sq,reduceIte,j2,j3,j4,j5,j6,j7,j8,j9,y1,S1]
 refine ae _ _ _ _ _ _ _ (fun o H'=>H'=H∧∃m:Nat,o=.val (.int .i64 m)) ?_ ?_
 ·refine W.bR rfl rfl rfl ?_
  have h1:¬(4294967296≤n):=by omega
  have h2:¬(65536≤n):=by omega
  have h3:¬(256≤n):=by omega
  have Og:=wW hn
  simp -implicitDefEqProofs only[tt,op,ef,cl,sq,reduceIte,j2,j3,j4,j5,j6,j7,j8,j9,y1,S1,h1,h2,h3,Og,aa]
  refine JE (K:=kT env _ _ _ _ _ _ _ _) (by show n<256;exact hn) _ fun ch=>?_
  have CA:ch.toNat<256:=ch.toNat_lt
  have wc:IntKind.i64.wrap ((ch.toNat:Nat):Int)=((ch.toNat:Nat):Int):=wrap64 (by omega)
  have wc2:IntKind.i64.wrap (0+((ch.toNat:Nat):Int))=((ch.toNat:Nat):Int):=by rw[wrap64 (by omega)];omega
  simp -implicitDefEqProofs only[op,ef,cl,sq,reduceIte,j2,j3,j4,j5,j6,j7,j8,j9,y1,S1,wc,wc2]
  exact⟨ch.toNat,rfl⟩
 ·rintro u H'⟨rfl,m,hu⟩
  cases hu
  simp -implicitDefEqProofs only[op,ef,cl,sq,reduceIte,j2,j3,j4,j5,j6,j7,j8,j9,y1,S1]
  exact⟨m,rfl⟩
set_option maxHeartbeats 8000000
theorem wA {a b:Nat}(h:a+b<9223372036854775808):IntKind.i64.wrap ((a:Int)+(b:Int))=((a+b:Nat):Int):=by rw[wrap64 (by omega)];omega
theorem aZ {a:Nat}(h:a+1<9223372036854775808):IntKind.i64.wrap ((a:Int)+1)=((a+1:Nat):Int):=by rw[wrap64 (by omega)];omega
theorem wS {a b:Nat}(h:b≤a∧a<9223372036854775808):IntKind.i64.wrap ((a:Int)-(b:Int))=((a-b:Nat):Int):=by rw[wrap64 (by omega)];omega
theorem aY {a:Nat}(h:1≤a∧a<9223372036854775808):IntKind.i64.wrap ((a:Int)-1)=((a-1:Nat):Int):=by rw[wrap64 (by omega)];omega
theorem wM {a:Nat}(h:2*a<9223372036854775808):IntKind.i64.wrap (2*(a:Int))=((2*a:Nat):Int):=by rw[wrap64 (by omega)];omega
section
variable {c n i j:Nat} {d:Array Nm}
theorem aM (h:i<n):dE 2 i (.ax c 0 n 2)=some (.ptr c (i*2)):=by rw[jV];simp[h]
theorem qW {l:List Nm}:(aJ eN l).length=l.length*2:=by rw[du (n:=2) (fun _=>rfl)]
theorem aO (h:i<d.size):(i*2+2≤(aJ eN d.toList).length)=True:=by rw[qW];simp;omega
theorem aP (h:i<d.size):List.take 2 (List.drop (i*2) (aJ eN d.toList))=[.str d[i]!.1,.int .u64 d[i]!.2]:=by
 have:=FW h
 rw[mH,if_pos (by rw[qW];simp;omega)]at this
 exact Option.some.inj this
theorem aQ {x:Nm}(h:i<d.size):(i*2+2≤(aJ eN (d.toList.set j x)).length)=True:=by rw[qW];simp;omega
theorem aR (h:i<d.size)(h':j<d.size):(List.take (i*2) (aJ eN d.toList)++[.str d[j]!.1,.int .u64 d[j]!.2])++List.drop (i*2+2) (aJ eN d.toList)=aJ eN (d.toList.set i d[j]!):=by
 have:=(uJ (Hx:=[.cells []]) (c:=0) d h h').1
 rw[gY,if_pos (by rw[qW];simp;omega)]at this
 simpa using this
theorem aS (h:i<d.size)(h':j<d.size):(List.take (j*2) (aJ eN (d.toList.set i d[j]!))++[.str d[i]!.1,.int .u64 d[i]!.2])++List.drop (j*2+2) (aJ eN (d.toList.set i d[j]!))=aJ eN (Go.Sort.swp d i j).toList:=by
 have:=(uJ (Hx:=[.cells []]) (c:=0) d h h').2 [.cells []]
 rw[gY,if_pos (by rw[qW];simp;omega)]at this
 simpa using this
end
theorem cn {p:Prop}[Decidable p](h:p):decide p=true:=decide_eq_true h
theorem cf {p:Prop}[Decidable p](h:¬p):decide p=false:=decide_eq_false h
theorem fG {a b:Bool}(h:a=true)(h':b=true):(a&&b)=true:=by rw[h,h'];rfl
theorem dg {a b:Bool}(h:a=false):¬((a&&b)=true):=by rw[h];simp
theorem dJ {a b:Bool}(h:b=false):¬((a&&b)=true):=by rw[h];simp
theorem jX {a:Bool}(h:a=true):¬((!a)=true):=by rw[h];simp
theorem fg {a:Bool}(h:a=false):(!a)=true:=by rw[h];rfl
def SC (c n:Nat)(H:af)(P:Array Nm→Prop)(H':af):Prop:=∃d:Array Nm,H'[c]?=some (.cells (aJ eN d.toList))∧d.size=n∧P d∧bh (fun x=>x=c) H H'
theorem SC.swp {c n:Nat}{H H1:af}{P:Array Nm→Prop}{y x:B}{d':Array Nm}(hd:H1[c]?=some y)(hs:d'.size=n)(hP:P d')(hf:bh (fun x=>x=c) H H1):SC c n H P ((H1.set c x).set c (.cells (aJ eN d'.toList))) :=
 ⟨d',bU (by rw[List.length_set];exact aW hd),hs,hP,(hf.set (.inl rfl) _).set (.inl rfl) _⟩
def yA (c n:Nat)(d':Array Nm)(H:af):Out→af→Prop:=fun o H'=>o=.val (.bF [])∧SC c n H (fun x=>x=d') H'
open Go.Sort in
theorem S4 (c n:Nat)(d:Array Nm)(a b:Nat)(H:af)(hn:d.size=n)(hc:H[c]?=some (.cells (aJ eN d.toList)))(hb:b≤n)(gb:a<b)(hs:n<4611686018427387903) :
  W env (.call 136 [.ax c 0 n 2,.int .i64 a,.int .i64 b,.fn 61 []]) H (yA c n (reverseRange d a b) H):=by
 refine W.bR rfl rfl rfl ?_
 simp -implicitDefEqProofs (maxSteps:=1000000) (disch:=omega) only[Fk,op,ef,cl,sq,reduceIte,j2,j3,j4,j5,j6,j7,j8,j9,y1,S1,aY]
 refine W.cG (fun (i:Nat) R H'=>At H' (fun H'=>∃j,R 9=.int .i64 (j:Nat)∧i+j=a+b-1∧a≤i∧SC c n H (fun di=>reverseLoop i j di=reverseRange d a b) H')∧R 0=.ax c 0 n 2∧R 8=.int .i64 i) (fun i=>a+b-i) a ⟨.i ⟨b-1,rfl,by omega,Nat.le_refl _,d,hc,hn,rfl,bh.refl _ _⟩,rfl,rfl⟩ ?_
 rintro i R H1⟨⟨j,h9,qQ,FX,di,hd,a6,yB,aq⟩,h0,h8⟩
 have lc:=aW hd
 by_cases au:i<j
 ·simp -implicitDefEqProofs (maxSteps:=1000000) (disch:=omega) only[aa,aM,aO,aP,aQ,aR,aS,wA,aZ,wS,aY,wM,S2,op,ef,cl,sq,reduceIte,j2,j3,j4,j5,j6,j7,j8,j9,y1,S1,h0,h8,h9,au,hd,lc]
  exact⟨i+1,by omega,.i ⟨j-1,rfl,by omega,by omega,.swp hd (by rw[swp_size];exact a6) (by rw[←yB];conv=>{ rhs;rw[reverseLoop,if_pos au] }) aq⟩,rfl⟩
 ·simp -implicitDefEqProofs only[op,ef,cl,sq,reduceIte,j2,j3,j4,j5,j6,j7,j8,j9,y1,S1,h0,h8,h9,au]
  rw[reverseLoop,if_neg au]at yB
  exact⟨rfl,di,hd,a6,yB,aq⟩
set_option maxHeartbeats 8000000
open Go.Sort in
theorem FY (c n:Nat)(d:Array Nm)(lo hi first:Nat)(H:af)(hn:d.size=n)(hc:H[c]?=some (.cells (aJ eN d.toList)))(hb:first+hi≤n)(n5:lo≤n)(hs:n<2305843009213693951) :
  W env (.call 153 [.ax c 0 n 2,.int .i64 lo,.int .i64 hi,.int .i64 first,.fn 61 []]) H (yA c n (siftDown aX hi first lo d) H):=by
 refine W.bR rfl rfl rfl ?_
 simp -implicitDefEqProofs only[Fz,op,ef,cl,sq,reduceIte,j2,j3,j4,j5,j6,j7,j8,j9,y1,S1]
 refine W.cG (fun (r:Nat) R H'=>At H' (fun H'=>SC c n H (fun di=>siftDown aX hi first r di=siftDown aX hi first lo d) H')∧R 0=.ax c 0 n 2∧R 2=.int .i64 hi∧R 3=.int .i64 first∧R 4=.fn 61 []∧R 10=.int .i64 r∧r≤n) (fun r=>hi-r) lo ⟨.i ⟨d,hc,hn,rfl,bh.refl _ _⟩,rfl,rfl,rfl,rfl,rfl,n5⟩ ?_
 rintro r R H1⟨⟨di,hd,a6,hP,aq⟩,h0,h2,h3,h4,aB,hr⟩
 have lc:=aW hd
 by_cases dY:2*r+1≥hi
 ·simp -implicitDefEqProofs (maxSteps:=1000000) (disch:=omega) only[aa,aM,aO,aP,aQ,aR,aS,wA,aZ,wS,aY,wM,S2,op,ef,cl,sq,reduceIte,j2,j3,j4,j5,j6,j7,j8,j9,y1,S1,h0,h2,h3,h4,aB,dY]
  rw[siftDown,dif_pos dY]at hP
  exact⟨rfl,di,hd,a6,hP,aq⟩
 by_cases dh:2*r+1+1<hi
 ·simp -implicitDefEqProofs (maxSteps:=1000000) (disch:=omega) only[aa,aM,aO,aP,aQ,aR,aS,wA,aZ,wS,aY,wM,S2,op,ef,cl,sq,reduceIte,j2,j3,j4,j5,j6,j7,j8,j9,y1,S1,h0,h2,h3,h4,aB,dY,dh,hd,lc]
  refine kV _ _ _ _ _ _ _ (by simp -implicitDefEqProofs (maxSteps:=1000000) (disch:=omega) only[aa,aM,aO,aP,aQ,aR,aS,wA,aZ,wS,aY,wM,S2,op,ef,cl,sq,reduceIte,j2,j3,j4,j5,j6,j7,j8,j9,y1,S1,h0,h2,h3,h4,aB,dY,dh,hd,lc]) ?_
  simp -implicitDefEqProofs (maxSteps:=1000000) (disch:=omega) only[aa,aM,aO,aP,aQ,aR,aS,wA,aZ,wS,aY,wM,S2,op,ef,cl,sq,reduceIte,j2,j3,j4,j5,j6,j7,j8,j9,y1,S1,cy,h0,h2,h3,h4,aB,dY,dh,hd,lc,List.append_nil]
  refine ae _ _ _ _ _ _ _ _ (cd di[first+(2*r+1)]! di[first+(2*r+1)+1]! _) ?_
  rintro u H2⟨hu,hx⟩
  cases hu
  have hx:Ext H1 H2:=hx
  have hd:=hx.get hd
  have lc:=aW hd
  have aq:=aq.trans (ay (F:=fun _=>False) hx) (fun _ h=>h.elim)
  have cY:aX di[first+(2*r+1)]! di[first+(2*r+1)+1]! = decide (dz di[first+(2*r+1)]! di[first+(2*r+1)+1]!<0):=rfl
  by_cases c1:dz di[first+(2*r+1)]! di[first+(2*r+1)+1]!<0
  ·simp -implicitDefEqProofs (maxSteps:=1000000) (disch:=omega) only[aa,aM,aO,aP,aQ,aR,aS,wA,aZ,wS,aY,wM,S2,op,ef,cl,sq,reduceIte,j2,j3,j4,j5,j6,j7,j8,j9,y1,S1,h0,h2,h3,h4,aB,dY,dh,hd,lc,c1]
   refine kV _ _ _ _ _ _ _ (by simp -implicitDefEqProofs (maxSteps:=1000000) (disch:=omega) only[aa,aM,aO,aP,aQ,aR,aS,wA,aZ,wS,aY,wM,S2,op,ef,cl,sq,reduceIte,j2,j3,j4,j5,j6,j7,j8,j9,y1,S1,h0,h2,h3,h4,aB,dY,dh,hd,lc]) ?_
   simp -implicitDefEqProofs (maxSteps:=1000000) (disch:=omega) only[aa,aM,aO,aP,aQ,aR,aS,wA,aZ,wS,aY,wM,S2,op,ef,cl,sq,reduceIte,j2,j3,j4,j5,j6,j7,j8,j9,y1,S1,cy,h0,h2,h3,h4,aB,dY,dh,hd,lc,List.append_nil]
   refine ae _ _ _ _ _ _ _ _ (cd di[first+r]! di[first+(2*r+1+1)]! _) ?_
   rintro u H3⟨hu,hx⟩
   cases hu
   have hx:Ext H2 H3:=hx
   have hd:=hx.get hd
   have lc:=aW hd
   have aq:=aq.trans (ay (F:=fun _=>False) hx) (fun _ h=>h.elim)
   have xc:aX di[first+r]! di[first+(2*r+1+1)]! = decide (dz di[first+r]! di[first+(2*r+1+1)]!<0):=rfl
   by_cases c2:dz di[first+r]! di[first+(2*r+1+1)]!<0
   ·simp -implicitDefEqProofs (maxSteps:=1000000) (disch:=omega) only[aa,aM,aO,aP,aQ,aR,aS,wA,aZ,wS,aY,wM,S2,op,ef,cl,sq,reduceIte,j2,j3,j4,j5,j6,j7,j8,j9,y1,S1,h0,h2,h3,h4,aB,dY,dh,hd,lc,c2]
    refine⟨2*r+1+1,by omega,.i (.swp hd (by rw[swp_size];exact a6) ?_ aq),rfl,by omega⟩
    rw[←hP]
    conv=>{ rhs;rw[siftDown,dif_neg dY,if_pos (fG (cn dh) (cY.trans (cn c1))),if_neg (jX (xc.trans (cn c2))),dif_pos dh] }
   ·simp -implicitDefEqProofs (maxSteps:=1000000) (disch:=omega) only[aa,aM,aO,aP,aQ,aR,aS,wA,aZ,wS,aY,wM,S2,op,ef,cl,sq,reduceIte,j2,j3,j4,j5,j6,j7,j8,j9,y1,S1,h0,h2,h3,h4,aB,dY,dh,hd,lc,c2]
    rw[siftDown,dif_neg dY,if_pos (fG (cn dh) (cY.trans (cn c1))),if_pos (fg (xc.trans (cf c2)))]at hP
    exact⟨rfl,di,hd,a6,hP,aq⟩
  ·simp -implicitDefEqProofs (maxSteps:=1000000) (disch:=omega) only[aa,aM,aO,aP,aQ,aR,aS,wA,aZ,wS,aY,wM,S2,op,ef,cl,sq,reduceIte,j2,j3,j4,j5,j6,j7,j8,j9,y1,S1,h0,h2,h3,h4,aB,dY,dh,hd,lc,c1]
   refine kV _ _ _ _ _ _ _ (by simp -implicitDefEqProofs (maxSteps:=1000000) (disch:=omega) only[aa,aM,aO,aP,aQ,aR,aS,wA,aZ,wS,aY,wM,S2,op,ef,cl,sq,reduceIte,j2,j3,j4,j5,j6,j7,j8,j9,y1,S1,h0,h2,h3,h4,aB,dY,dh,hd,lc]) ?_
   simp -implicitDefEqProofs (maxSteps:=1000000) (disch:=omega) only[aa,aM,aO,aP,aQ,aR,aS,wA,aZ,wS,aY,wM,S2,op,ef,cl,sq,reduceIte,j2,j3,j4,j5,j6,j7,j8,j9,y1,S1,cy,h0,h2,h3,h4,aB,dY,dh,hd,lc,List.append_nil]
   refine ae _ _ _ _ _ _ _ _ (cd di[first+r]! di[first+(2*r+1)]! _) ?_
   rintro u H3⟨hu,hx⟩
   cases hu
   have hx:Ext H2 H3:=hx
   have hd:=hx.get hd
   have lc:=aW hd
   have aq:=aq.trans (ay (F:=fun _=>False) hx) (fun _ h=>h.elim)
   have xc:aX di[first+r]! di[first+(2*r+1)]! = decide (dz di[first+r]! di[first+(2*r+1)]!<0):=rfl
   by_cases c2:dz di[first+r]! di[first+(2*r+1)]!<0
   ·simp -implicitDefEqProofs (maxSteps:=1000000) (disch:=omega) only[aa,aM,aO,aP,aQ,aR,aS,wA,aZ,wS,aY,wM,S2,op,ef,cl,sq,reduceIte,j2,j3,j4,j5,j6,j7,j8,j9,y1,S1,h0,h2,h3,h4,aB,dY,dh,hd,lc,c2]
    refine⟨2*r+1,by omega,.i (.swp hd (by rw[swp_size];exact a6) ?_ aq),rfl,by omega⟩
    rw[←hP]
    conv=>{ rhs;rw[siftDown,dif_neg dY,if_neg (dJ (cY.trans (cf c1))),if_neg (jX (xc.trans (cn c2)))] }
   ·simp -implicitDefEqProofs (maxSteps:=1000000) (disch:=omega) only[aa,aM,aO,aP,aQ,aR,aS,wA,aZ,wS,aY,wM,S2,op,ef,cl,sq,reduceIte,j2,j3,j4,j5,j6,j7,j8,j9,y1,S1,h0,h2,h3,h4,aB,dY,dh,hd,lc,c2]
    rw[siftDown,dif_neg dY,if_neg (dJ (cY.trans (cf c1))),if_pos (fg (xc.trans (cf c2)))]at hP
    exact⟨rfl,di,hd,a6,hP,aq⟩
 ·simp -implicitDefEqProofs (maxSteps:=1000000) (disch:=omega) only[aa,aM,aO,aP,aQ,aR,aS,wA,aZ,wS,aY,wM,S2,op,ef,cl,sq,reduceIte,j2,j3,j4,j5,j6,j7,j8,j9,y1,S1,h0,h2,h3,h4,aB,dY,dh,hd,lc]
  simp -implicitDefEqProofs only[op,ef,cl,sq,reduceIte,j2,j3,j4,j5,j6,j7,j8,j9,y1,S1]
  simp -implicitDefEqProofs (maxSteps:=1000000) (disch:=omega) only[aa,aM,aO,aP,aQ,aR,aS,wA,aZ,wS,aY,wM,S2,op,ef,cl,sq,reduceIte,j2,j3,j4,j5,j6,j7,j8,j9,y1,S1,h0,h2,h3,h4,aB,dY,dh,hd,lc]
  refine kV _ _ _ _ _ _ _ (by simp -implicitDefEqProofs (maxSteps:=1000000) (disch:=omega) only[aa,aM,aO,aP,aQ,aR,aS,wA,aZ,wS,aY,wM,S2,op,ef,cl,sq,reduceIte,j2,j3,j4,j5,j6,j7,j8,j9,y1,S1,h0,h2,h3,h4,aB,dY,dh,hd,lc]) ?_
  simp -implicitDefEqProofs (maxSteps:=1000000) (disch:=omega) only[aa,aM,aO,aP,aQ,aR,aS,wA,aZ,wS,aY,wM,S2,op,ef,cl,sq,reduceIte,j2,j3,j4,j5,j6,j7,j8,j9,y1,S1,cy,h0,h2,h3,h4,aB,dY,dh,hd,lc,List.append_nil]
  refine ae _ _ _ _ _ _ _ _ (cd di[first+r]! di[first+(2*r+1)]! _) ?_
  rintro u H3⟨hu,hx⟩
  cases hu
  have hx:Ext H1 H3:=hx
  have hd:=hx.get hd
  have lc:=aW hd
  have aq:=aq.trans (ay (F:=fun _=>False) hx) (fun _ h=>h.elim)
  have xc:aX di[first+r]! di[first+(2*r+1)]! = decide (dz di[first+r]! di[first+(2*r+1)]!<0):=rfl
  by_cases c2:dz di[first+r]! di[first+(2*r+1)]!<0
  ·simp -implicitDefEqProofs (maxSteps:=1000000) (disch:=omega) only[aa,aM,aO,aP,aQ,aR,aS,wA,aZ,wS,aY,wM,S2,op,ef,cl,sq,reduceIte,j2,j3,j4,j5,j6,j7,j8,j9,y1,S1,h0,h2,h3,h4,aB,dY,dh,hd,lc,c2]
   refine⟨2*r+1,by omega,.i (.swp hd (by rw[swp_size];exact a6) ?_ aq),rfl,by omega⟩
   rw[←hP]
   conv=>{ rhs;rw[siftDown,dif_neg dY,if_neg (dg (cf dh)),if_neg (jX (xc.trans (cn c2)))] }
  ·simp -implicitDefEqProofs (maxSteps:=1000000) (disch:=omega) only[aa,aM,aO,aP,aQ,aR,aS,wA,aZ,wS,aY,wM,S2,op,ef,cl,sq,reduceIte,j2,j3,j4,j5,j6,j7,j8,j9,y1,S1,h0,h2,h3,h4,aB,dY,dh,hd,lc,c2]
   rw[siftDown,dif_neg dY,if_neg (dg (cf dh)),if_pos (fg (xc.trans (cf c2)))]at hP
   exact⟨rfl,di,hd,a6,hP,aq⟩
set_option maxHeartbeats 8000000
theorem wQ2 {a:Nat}(h:a<9223372036854775808):IntKind.i64.wrap ((a:Int).tdiv 2)=((a/2:Nat):Int):=by rw[Int.tdiv_eq_ediv_of_nonneg (by omega),wrap64 (by omega)];omega
theorem Vo {a:Nat}(h:a<9223372036854775808):IntKind.i64.wrap ((a:Int)-1)=(a:Int)-1:=wrap64 (by omega)
theorem JF {a:Nat}:(((a:Nat):Int)≥0)=True:=by simp
open Go.Sort in
theorem Oh (c n:Nat)(d:Array Nm)(a b:Nat)(H:af)(hn:d.size=n)(hc:H[c]?=some (.cells (aJ eN d.toList)))(hb:b≤n)(gb:a<b)(hs:n<2305843009213693951) :
  W env (.call 133 [.ax c 0 n 2,.int .i64 a,.int .i64 b,.fn 61 []]) H (yA c n (heapSort aX d a b) H):=by
 refine W.bR rfl rfl rfl ?_
 simp -implicitDefEqProofs (maxSteps:=1000000) (disch:=omega) only[Fi,aa,aM,aO,aP,aQ,aR,aS,wA,aZ,wS,aY,wM,S2,op,ef,cl,sq,reduceIte,j2,j3,j4,j5,j6,j7,j8,j9,y1,S1,wQ2]
 refine W.cN 0 (fun (k:Nat) R H'=>At H' (fun H'=>SC c n H (fun di=>heapBuild aX (b-a) a k di=heapBuild aX (b-a) a ((b-a-1)/2+1) d) H')∧R 0=.ax c 0 n 2∧R 3=.fn 61 []∧R 8=.int .i64 a∧R 9=.int .i64 0∧R 10=.int .i64 (b-a:Nat)∧R 11=.int .i64 ((k:Int)-1)∧k≤b-a) (fun k=>k) ((b-a-1)/2+1)
  (fun R H'=>At H' (fun H'=>SC c n H (fun di=>di=heapBuild aX (b-a) a ((b-a-1)/2+1) d) H')∧R 0=.ax c 0 n 2∧R 3=.fn 61 []∧R 8=.int .i64 a∧R 9=.int .i64 0∧R 10=.int .i64 (b-a:Nat))
  ⟨.i ⟨d,hc,hn,rfl,bh.refl _ _⟩,rfl,rfl,rfl,rfl,rfl,by simp[nX],by omega⟩ ?_ ?_
 ·rintro k R H1⟨⟨di,hd,a6,hP,aq⟩,h0,h3,h8,h9,aB,a0,hk⟩
  cases k with
  | zero =>
   rw[show(((0:Nat):Int)-1)=-1 from rfl]at a0
   simp -implicitDefEqProofs (maxSteps:=1000000) (disch:=omega) only[aa,aM,aO,aP,aQ,aR,aS,wA,aZ,wS,aY,wM,S2,op,ef,cl,sq,reduceIte,j2,j3,j4,j5,j6,j7,j8,j9,y1,S1,h0,h3,h8,h9,aB,a0]
   exact .i ⟨di,hd,a6,hP,aq⟩
  | succ k =>
   rw[show(((k+1:Nat):Int)-1)=(k:Int) by omega]at a0
   simp -implicitDefEqProofs (maxSteps:=1000000) (disch:=omega) only[aa,aM,aO,aP,aQ,aR,aS,wA,aZ,wS,aY,wM,S2,op,ef,cl,sq,reduceIte,j2,j3,j4,j5,j6,j7,j8,j9,y1,S1,h0,h3,h8,h9,aB,a0,JF]
   refine ae _ _ _ _ _ _ _ _ (FY c n di k (b-a) a _ a6 hd (by omega) (by omega) hs) ?_
   rintro u H2⟨hu,d2,cu,gZ,rfl,dN⟩
   cases hu
   simp -implicitDefEqProofs (maxSteps:=1000000) (disch:=omega) only[Vo,op,ef,cl,sq,reduceIte,j2,j3,j4,j5,j6,j7,j8,j9,y1,S1,h0,h3,h8,h9,aB,a0]
   exact⟨k,by omega,.i ⟨_,cu,gZ,hP,aq.trans dN fun _ h=>.inl h⟩,rfl,by omega⟩
 ·rintro R H1⟨⟨di,hd,a6,hP,aq⟩,h0,h3,h8,h9,aB⟩
  simp -implicitDefEqProofs (maxSteps:=1000000) (disch:=omega) only[aa,aM,aO,aP,aQ,aR,aS,wA,aZ,wS,aY,wM,S2,op,ef,cl,sq,reduceIte,j2,j3,j4,j5,j6,j7,j8,j9,y1,S1,h0,h3,h8,h9,aB]
  refine W.cG (fun (k:Nat) R H'=>At H' (fun H'=>SC c n H (fun di=>heapPop aX a k di=heapSort aX d a b) H')∧R 0=.ax c 0 n 2∧R 3=.fn 61 []∧R 8=.int .i64 a∧R 9=.int .i64 0∧R 10=.int .i64 (b-a:Nat)∧R 12=.int .i64 ((k:Int)-1)∧k≤b-a) (fun k=>k) (b-a) ⟨.i ⟨di,hd,a6,by rw[hP];rfl,aq⟩,?_,?_,?_,?_,?_,?_,Nat.le_refl _⟩ ?_
  ·simp -implicitDefEqProofs only[op,ef,cl,sq,reduceIte,j2,j3,j4,j5,j6,j7,j8,j9,y1,S1,h0]
  ·simp -implicitDefEqProofs only[op,ef,cl,sq,reduceIte,j2,j3,j4,j5,j6,j7,j8,j9,y1,S1,h3]
  ·simp -implicitDefEqProofs only[op,ef,cl,sq,reduceIte,j2,j3,j4,j5,j6,j7,j8,j9,y1,S1,h8]
  ·simp -implicitDefEqProofs only[op,ef,cl,sq,reduceIte,j2,j3,j4,j5,j6,j7,j8,j9,y1,S1,h9]
  ·simp -implicitDefEqProofs only[op,ef,cl,sq,reduceIte,j2,j3,j4,j5,j6,j7,j8,j9,y1,S1,aB]
  ·simp -implicitDefEqProofs only[op,ef,cl,sq,reduceIte,j2,j3,j4,j5,j6,j7,j8,j9,y1,S1];omega
  rintro k R H1⟨⟨di,hd,a6,hP,aq⟩,h0,h3,h8,h9,aB,aA,hk⟩
  have lc:=aW hd
  cases k with
  | zero =>
   rw[show(((0:Nat):Int)-1)=-1 from rfl]at aA
   simp -implicitDefEqProofs (maxSteps:=1000000) (disch:=omega) only[aa,aM,aO,aP,aQ,aR,aS,wA,aZ,wS,aY,wM,S2,op,ef,cl,sq,reduceIte,j2,j3,j4,j5,j6,j7,j8,j9,y1,S1,h0,h3,h8,h9,aB,aA]
   exact⟨rfl,di,hd,a6,hP,aq⟩
  | succ k =>
   rw[show(((k+1:Nat):Int)-1)=(k:Int) by omega]at aA
   simp -implicitDefEqProofs (maxSteps:=1000000) (disch:=omega) only[aa,aM,aO,aP,aQ,aR,aS,wA,aZ,wS,aY,wM,S2,op,ef,cl,sq,reduceIte,j2,j3,j4,j5,j6,j7,j8,j9,y1,S1,h0,h3,h8,h9,aB,aA,JF,hd,lc]
   obtain⟨d1,o7,yC,rfl,oP⟩:=SC.swp (n:=n) (P:=fun x=>x=swp di a (a+k)) (x:=.cells (aJ eN (di.toList.set a di[a+k]!))) hd (by rw[Go.Sort.swp_size];exact a6) rfl aq
   refine ae _ _ _ _ _ _ _ _ (FY c n _ 0 k a _ yC o7 (by omega) (by omega) hs) ?_
   rintro u H2⟨hu,d2,cu,gZ,rfl,dN⟩
   cases hu
   simp -implicitDefEqProofs (maxSteps:=1000000) (disch:=omega) only[Vo,op,ef,cl,sq,reduceIte,j2,j3,j4,j5,j6,j7,j8,j9,y1,S1,h0,h3,h8,h9,aB,aA]
   exact⟨k,by omega,.i ⟨_,cu,gZ,hP,oP.trans dN fun _ h=>.inl h⟩,rfl,by omega⟩
set_option maxHeartbeats 8000000
def S5 (p:Nat)(r:Nat×Nat×Nat)(H:af):Out→af→Prop:=fun o H'=>o=.val (.bF [.int .i64 r.1,.int .i64 r.2.1])∧H'[p]?=some (.cells [.int .i64 r.2.2])∧bh (fun x=>x=p) H H'
open Go.Sort in
theorem yD (c n p sw:Nat)(d:Array Nm)(a b:Nat)(H:af)(hn:d.size=n)(hc:H[c]?=some (.cells (aJ eN d.toList)))(hp:H[p]?=some (.cells [.int .i64 sw]))(ha:a<n)(hb:b<n)(hs:n<2305843009213693951)(Oi:sw<1000) :
  W env (.call 162 [.ax c 0 n 2,.int .i64 a,.int .i64 b,.ptr p 0,.fn 61 []]) H (S5 p (order2 aX d a b sw) H):=by
 refine W.bR rfl rfl rfl ?_
 have hd:=hc
 have aq:=bh.refl (fun x=>x=p) H
 simp -implicitDefEqProofs (maxSteps:=1000000) (disch:=omega) only[FH,aa,aM,aO,aP,aQ,aR,aS,wA,aZ,wS,aY,wM,S2,op,ef,cl,sq,reduceIte,j2,j3,j4,j5,j6,j7,j8,j9,y1,S1,hd]
 refine kV _ _ _ _ _ _ _ (by simp -implicitDefEqProofs (maxSteps:=1000000) (disch:=omega) only[aa,aM,aO,aP,aQ,aR,aS,wA,aZ,wS,aY,wM,S2,op,ef,cl,sq,reduceIte,j2,j3,j4,j5,j6,j7,j8,j9,y1,S1,hd]) ?_
 simp -implicitDefEqProofs (maxSteps:=1000000) (disch:=omega) only[aa,aM,aO,aP,aQ,aR,aS,wA,aZ,wS,aY,wM,S2,op,ef,cl,sq,reduceIte,j2,j3,j4,j5,j6,j7,j8,j9,y1,S1,cy,hd,List.append_nil]
 refine ae _ _ _ _ _ _ _ _ (cd d[b]! d[a]! _) ?_
 rintro u H1⟨hu,hx⟩
 cases hu
 have hx:Ext H H1:=hx
 have hd:=hx.get hd
 have lc:=aW hd
 have aq:=aq.trans (ay (F:=fun _=>False) hx) (fun _ h=>h.elim)
 have lu:=hx.get hp
 have lp:=aW lu
 have cY:aX d[b]! d[a]! = decide (dz d[b]! d[a]!<0):=rfl
 by_cases c1:dz d[b]! d[a]!<0
 ·simp -implicitDefEqProofs (maxSteps:=1000000) (disch:=omega) only[aa,aM,aO,aP,aQ,aR,aS,wA,aZ,wS,aY,wM,S2,op,ef,cl,sq,reduceIte,j2,j3,j4,j5,j6,j7,j8,j9,y1,S1,hd,c1,lu,lp]
  refine⟨?_,?_,?_⟩
  ·rw[order2,if_pos (cY.trans (cn c1))]
  ·rw[order2,if_pos (cY.trans (cn c1))];exact bU lp
  ·exact aq.set (.inl rfl) _
 ·simp -implicitDefEqProofs (maxSteps:=1000000) (disch:=omega) only[aa,aM,aO,aP,aQ,aR,aS,wA,aZ,wS,aY,wM,S2,op,ef,cl,sq,reduceIte,j2,j3,j4,j5,j6,j7,j8,j9,y1,S1,hd,c1,lu,lp]
  refine⟨?_,?_,?_⟩
  ·rw[order2,if_neg (by rw[cY,cf c1];simp)]
  ·rw[order2,if_neg (by rw[cY,cf c1];simp)];exact lu
  ·exact aq
theorem yE (d:Array Nm){n a b sw:Nat}(ha:a<n)(hb:b<n):(Go.Sort.order2 aX d a b sw).1<n∧(Go.Sort.order2 aX d a b sw).2.1<n∧(Go.Sort.order2 aX d a b sw).2.2≤sw+1:=by
 unfold Go.Sort.order2
 split
 ·exact⟨hb,ha,Nat.le_refl _⟩
 ·exact⟨ha,hb,Nat.le_succ _⟩
def JG (p:Nat)(r:Nat×Nat)(H:af):Out→af→Prop:=fun o H'=>o=.val (.int .i64 r.1)∧H'[p]?=some (.cells [.int .i64 r.2])∧bh (fun x=>x=p) H H'
open Go.Sort in
theorem yF (c n p sw:Nat)(d:Array Nm)(a b e:Nat)(H:af)(hn:d.size=n)(hc:H[c]?=some (.cells (aJ eN d.toList)))(hp:H[p]?=some (.cells [.int .i64 sw]))(oQ:¬c=p)(ha:a<n)(hb:b<n)(he:e<n)(hs:n<2305843009213693951)(Oi:sw<900) :
  W env (.call 157 [.ax c 0 n 2,.int .i64 a,.int .i64 b,.int .i64 e,.ptr p 0,.fn 61 []]) H (fun o H'=>JG p (median aX d a b e sw) H o H'∧(median aX d a b e sw).1<n∧(median aX d a b e sw).2≤sw+3):=by
 refine W.bR rfl rfl rfl ?_
 simp -implicitDefEqProofs only[FD,op,ef,cl,sq,reduceIte,j2,j3,j4,j5,j6,j7,j8,j9,y1,S1]
 refine ae _ _ _ _ _ _ _ _ (yD c n p sw d a b _ hn hc hp ha hb hs (by omega)) ?_
 rintro u H1⟨hu,lu,oP⟩
 cases hu
 have jw:=oP.get hc oQ
 obtain⟨r1,Cr⟩:∃r,r=order2 aX d a b sw:=⟨_,rfl⟩
 obtain⟨q1,q2,q3⟩:=yE d (sw:=sw) ha hb
 rw[←Cr]at q1 q2 q3 lu ⊢
 simp -implicitDefEqProofs only[op,ef,cl,sq,reduceIte,j2,j3,j4,j5,j6,j7,j8,j9,y1,S1]
 refine ae _ _ _ _ _ _ _ _ (yD c n p r1.2.2 d r1.2.1 e _ hn jw lu q2 he hs (by omega)) ?_
 rintro u H2⟨hu,lV,dN⟩
 cases hu
 have po:=dN.get jw oQ
 obtain⟨r2,uu⟩:∃r,r=order2 aX d r1.2.1 e r1.2.2:=⟨_,rfl⟩
 obtain⟨q4,q5,q6⟩:=yE d (sw:=r1.2.2) q2 he
 rw[←uu]at q4 q5 q6 lV ⊢
 simp -implicitDefEqProofs only[op,ef,cl,sq,reduceIte,j2,j3,j4,j5,j6,j7,j8,j9,y1,S1]
 refine ae _ _ _ _ _ _ _ _ (yD c n p r2.2.2 d r1.1 r2.1 _ hn po lV q1 q4 hs (by omega)) ?_
 rintro u H3⟨hu,JH,oS⟩
 cases hu
 obtain⟨q7,q8,q9⟩:=yE d (sw:=r2.2.2) q1 q4
 have e:median aX d a b e sw=((order2 aX d r1.1 r2.1 r2.2.2).2.1,(order2 aX d r1.1 r2.1 r2.2.2).2.2):=by rw[median,←Cr,←uu]
 rw[e]
 simp -implicitDefEqProofs only[op,ef,cl,sq,reduceIte,j2,j3,j4,j5,j6,j7,j8,j9,y1,S1]
 exact⟨⟨rfl,JH,(oP.trans dN fun _ h=>.inl h).trans oS fun _ h=>.inl h⟩,q8,by omega⟩
open Go.Sort in
theorem yG (c n p sw:Nat)(d:Array Nm)(a:Nat)(H:af)(hn:d.size=n)(hc:H[c]?=some (.cells (aJ eN d.toList)))(hp:H[p]?=some (.cells [.int .i64 sw]))(oQ:¬c=p)(ha:1≤a)(A3:a+1<n)(hs:n<2305843009213693951)(Oi:sw<900) :
  W env (.call 156 [.ax c 0 n 2,.int .i64 a,.ptr p 0,.fn 61 []]) H (fun o H'=>JG p (medianAdjacent aX d a sw) H o H'∧(medianAdjacent aX d a sw).1<n∧(medianAdjacent aX d a sw).2≤sw+3):=by
 refine W.bR rfl rfl rfl ?_
 simp -implicitDefEqProofs (maxSteps:=1000000) (disch:=omega) only[FC,aa,aM,aO,aP,aQ,aR,aS,wA,aZ,wS,aY,wM,S2,op,ef,cl,sq,reduceIte,j2,j3,j4,j5,j6,j7,j8,j9,y1,S1]
 refine ae _ _ _ _ _ _ _ _ (yF c n p sw d (a-1) a (a+1) _ hn hc hp oQ (by omega) (by omega) A3 hs Oi) ?_
 rintro u H1⟨⟨hu,lu,oP⟩,q1,q2⟩
 cases hu
 simp -implicitDefEqProofs only[op,ef,cl,sq,reduceIte,j2,j3,j4,j5,j6,j7,j8,j9,y1,S1]
 exact⟨⟨rfl,lu,oP⟩,q1,q2⟩
theorem CB {a:Nat}(h:a<9223372036854775808):IntKind.i64.wrap ((a:Int).tdiv 4)=((a/4:Nat):Int):=by rw[Int.tdiv_eq_ediv_of_nonneg (by omega),wrap64 (by omega)];omega
theorem Vp {a:Nat}(h:a<9223372036854775808):IntKind.i64.wrap ((a:Int)*1)=((a*1:Nat):Int):=by rw[wrap64 (by omega)];omega
theorem CC {a:Nat}(h:a*2<9223372036854775808):IntKind.i64.wrap ((a:Int)*2)=((a*2:Nat):Int):=by rw[wrap64 (by omega)];omega
theorem Vq {a:Nat}(h:a*3<9223372036854775808):IntKind.i64.wrap ((a:Int)*3)=((a*3:Nat):Int):=by rw[wrap64 (by omega)];omega
def gy:Go.Sort.Hint→Int
 | .unknown=>0
 | .increasing=>1
 | .decreasing=>2
open Go.Sort in
theorem FZ (c n:Nat)(d:Array Nm)(a b:Nat)(H:af)(hn:d.size=n)(hc:H[c]?=some (.cells (aJ eN d.toList)))(hb:b≤n)(gb:a+12<b)(hs:n<1305843009213693951) :
  W env (.call 135 [.ax c 0 n 2,.int .i64 a,.int .i64 b,.fn 61 []]) H (fun o H'=>o=.val (.bF [.int .i64 (choosePivot aX d a b).1,.int .i64 (gy (choosePivot aX d a b).2)])∧Ext H H'):=by
 refine W.bR rfl rfl rfl ?_
 have h8:8≤b-a:=by omega
 have lc:=aW hc
 have oQ:¬c=H.length:=by omega
 have mr:(H++[B.cells [T.int IntKind.i64 0]])[c]?=some (.cells (aJ eN d.toList)):=by rw[aV lc];exact hc
 have S6:(H++[B.cells [T.int IntKind.i64 0]])[H.length]?=some (.cells [.int .i64 ((0:Nat):Int)]):=aU rfl
 have fin:∀H2:af,bh (fun x=>x=H.length) (H++[B.cells [T.int IntKind.i64 0]]) H2→Ext H H2:=fun H2 hf=>mM fun x y hx=>hf.get (by rw[aV (aW hx)];exact hx) (by have:=aW hx;omega)
 by_cases uK:50≤b-a
 ·simp -implicitDefEqProofs (maxSteps:=1000000) (disch:=omega) only[Ac,aa,aM,aO,aP,aQ,aR,aS,wA,aZ,wS,aY,wM,S2,op,ef,cl,sq,reduceIte,j2,j3,j4,j5,j6,j7,j8,j9,y1,S1,CB,Vp,CC,Vq,h8,uK]
  refine ae _ _ _ _ _ _ _ _ (yG c n H.length 0 d _ _ hn mr S6 oQ (by omega) (by omega) (by omega) (by omega)) ?_
  rintro u H1⟨⟨hu,lu,oP⟩,q1,q2⟩
  cases hu
  obtain⟨ri,lJ⟩:∃r,r=medianAdjacent aX d (a+(b-a)/4*1) 0:=⟨_,rfl⟩
  rw[←lJ]at q1 q2 lu ⊢
  have jw:=oP.get mr oQ
  simp -implicitDefEqProofs only[op,ef,cl,sq,reduceIte,j2,j3,j4,j5,j6,j7,j8,j9,y1,S1]
  refine ae _ _ _ _ _ _ _ _ (yG c n H.length ri.2 d _ _ hn jw lu oQ (by omega) (by omega) (by omega) (by omega)) ?_
  rintro u H2⟨⟨hu,lV,dN⟩,q3,q4⟩
  cases hu
  obtain⟨rj,S7⟩:∃r,r=medianAdjacent aX d (a+(b-a)/4*2) ri.2:=⟨_,rfl⟩
  rw[←S7]at q3 q4 lV ⊢
  have po:=dN.get jw oQ
  simp -implicitDefEqProofs only[op,ef,cl,sq,reduceIte,j2,j3,j4,j5,j6,j7,j8,j9,y1,S1]
  refine ae _ _ _ _ _ _ _ _ (yG c n H.length rj.2 d _ _ hn po lV oQ (by omega) (by omega) (by omega) (by omega)) ?_
  rintro u H3⟨⟨hu,JH,oS⟩,q5,q6⟩
  cases hu
  obtain⟨rk,Oj⟩:∃r,r=medianAdjacent aX d (a+(b-a)/4*3) rj.2:=⟨_,rfl⟩
  rw[←Oj]at q5 q6 JH ⊢
  have S8:=oS.get po oQ
  simp -implicitDefEqProofs only[op,ef,cl,sq,reduceIte,j2,j3,j4,j5,j6,j7,j8,j9,y1,S1]
  refine ae _ _ _ _ _ _ _ _ (yF c n H.length rk.2 d ri.1 rj.1 rk.1 _ hn S8 JH oQ q1 q3 q5 (by omega) (by omega)) ?_
  rintro u H4⟨⟨hu,oT,xK⟩,q7,q8⟩
  cases hu
  have e:choosePivot aX d a b=((median aX d ri.1 rj.1 rk.1 rk.2).1,if (median aX d ri.1 rj.1 rk.1 rk.2).2=0 then .increasing else if (median aX d ri.1 rj.1 rk.1 rk.2).2=12 then .decreasing else .unknown):=by
   simp -implicitDefEqProofs only[choosePivot,ge_iff_le,if_pos h8,if_pos uK,←lJ,←S7,←Oj]
  rw[e]
  have hx:=fin _ (((oP.trans dN fun _ h=>.inl h).trans oS fun _ h=>.inl h).trans xK fun _ h=>.inl h)
  generalize median aX d ri.1 rj.1 rk.1 rk.2=r at *
  obtain⟨m,sw⟩:=r
  simp only at oT ⊢
  by_cases s0:sw=0
  ·subst s0
   have e0:(((0:Nat):Int)==0)=true:=rfl
   simp -implicitDefEqProofs only[op,ef,cl,sq,reduceIte,j2,j3,j4,j5,j6,j7,j8,j9,y1,S1,oT,e0]
   exact⟨rfl,hx⟩
  have e0:(((sw:Nat):Int)==0)=false:=by simp;omega
  by_cases s1:sw=12
  ·subst s1
   have e1:(((12:Nat):Int)==12)=true:=rfl
   simp -implicitDefEqProofs only[op,ef,cl,sq,reduceIte,j2,j3,j4,j5,j6,j7,j8,j9,y1,S1,oT,e0,e1]
   exact⟨rfl,hx⟩
  have e1:(((sw:Nat):Int)==12)=false:=by simp;omega
  simp -implicitDefEqProofs only[op,ef,cl,sq,reduceIte,j2,j3,j4,j5,j6,j7,j8,j9,y1,S1,oT,e0,e1,s0,s1]
  exact⟨rfl,hx⟩
 ·simp -implicitDefEqProofs (maxSteps:=1000000) (disch:=omega) only[Ac,aa,aM,aO,aP,aQ,aR,aS,wA,aZ,wS,aY,wM,S2,op,ef,cl,sq,reduceIte,j2,j3,j4,j5,j6,j7,j8,j9,y1,S1,CB,Vp,CC,Vq,h8,uK]
  refine ae _ _ _ _ _ _ _ _ (yF c n H.length 0 d _ _ _ _ hn mr S6 oQ (by omega) (by omega) (by omega) (by omega) (by omega)) ?_
  rintro u H4⟨⟨hu,oT,xK⟩,q7,q8⟩
  cases hu
  have e:choosePivot aX d a b=((median aX d (a+(b-a)/4*1) (a+(b-a)/4*2) (a+(b-a)/4*3) 0).1,if (median aX d (a+(b-a)/4*1) (a+(b-a)/4*2) (a+(b-a)/4*3) 0).2=0 then .increasing else if (median aX d (a+(b-a)/4*1) (a+(b-a)/4*2) (a+(b-a)/4*3) 0).2=12 then .decreasing else .unknown):=by
   simp -implicitDefEqProofs only[choosePivot,ge_iff_le,if_pos h8,if_neg uK]
  rw[e]
  have hx:=fin _ xK
  generalize median aX d (a+(b-a)/4*1) (a+(b-a)/4*2) (a+(b-a)/4*3) 0=r at *
  obtain⟨m,sw⟩:=r
  simp only at oT ⊢
  by_cases s0:sw=0
  ·subst s0
   have e0:(((0:Nat):Int)==0)=true:=rfl
   simp -implicitDefEqProofs only[op,ef,cl,sq,reduceIte,j2,j3,j4,j5,j6,j7,j8,j9,y1,S1,oT,e0]
   exact⟨rfl,hx⟩
  have e0:(((sw:Nat):Int)==0)=false:=by simp;omega
  by_cases s1:sw=12
  ·subst s1
   have e1:(((12:Nat):Int)==12)=true:=rfl
   simp -implicitDefEqProofs only[op,ef,cl,sq,reduceIte,j2,j3,j4,j5,j6,j7,j8,j9,y1,S1,oT,e0,e1]
   exact⟨rfl,hx⟩
  have e1:(((sw:Nat):Int)==12)=false:=by simp;omega
  simp -implicitDefEqProofs only[op,ef,cl,sq,reduceIte,j2,j3,j4,j5,j6,j7,j8,j9,y1,S1,oT,e0,e1,s0,s1]
  exact⟨rfl,hx⟩
set_option maxHeartbeats 8000000
open Go.Sort (bitsLen)
theorem F4 {n k:Nat}(h:2^k≤n):(n/2^k).log2+k=n.log2:=by
 have h0:0<2^k:=Nat.two_pow_pos k
 have hn:n≠0:=by omega
 have hq:n/2^k≠0:=by have:=Nat.div_pos h h0;omega
 have h1:=Nat.log2_self_le hq
 have h2:=Nat.lt_log2_self (n:=n/2^k)
 refine((Nat.log2_eq_iff hn).2 ⟨?_,?_⟩).symm
 ·rw[Nat.pow_add];exact(Nat.le_div_iff_mul_le h0).1 h1
 ·rw[show(n/2^k).log2+k+1=((n/2^k).log2+1)+k by omega,Nat.pow_add];exact(Nat.div_lt_iff_lt_mul h0).1 h2
theorem xd {n k:Nat}(h:2^k≤n):bitsLen (n/2^k)+k=bitsLen n:=by
 have h0:0<2^k:=Nat.two_pow_pos k
 have hq:n/2^k≠0:=by have:=Nat.div_pos h h0;omega
 have:=F4 h
 unfold bitsLen
 rw[if_neg hq,if_neg (by omega)]
 omega
theorem pW {n k:Nat}(h:n<2^k):bitsLen n≤k:=by
 unfold bitsLen
 split
 ·omega
 ·rename_i h0;have:=(Nat.log2_lt h0).2 h;omega
def tbl:Array UInt8:=#[0,1,2,2,3,3,3,3,4,4,4,4,4,4,4,4,5,5,5,5,5,5,5,5,5,5,5,5,5,5,5,5,6,6,6,6,6,6,6,6,6,6,6,6,6,6,6,6,6,6,6,6,6,6,6,6,6,6,6,6,6,6,6,6,7,7,7,7,7,7,7,7,7,7,7,7,7,7,7,7,7,7,7,7,7,7,7,7,7,7,7,7,7,7,7,7,7,7,7,7,7,7,7,7,7,7,7,7,7,7,7,7,7,7,7,7,7,7,7,7,7,7,7,7,7,7,7,7,8,8,8,8,8,8,8,8,8,8,8,8,8,8,8,8,8,8,8,8,8,8,8,8,8,8,8,8,8,8,8,8,8,8,8,8,8,8,8,8,8,8,8,8,8,8,8,8,8,8,8,8,8,8,8,8,8,8,8,8,8,8,8,8,8,8,8,8,8,8,8,8,8,8,8,8,8,8,8,8,8,8,8,8,8,8,8,8,8,8,8,8,8,8,8,8,8,8,8,8,8,8,8,8,8,8,8,8,8,8,8,8,8,8,8,8,8,8,8,8,8,8,8,8,8,8,8,8]
def Zm:Bool:=(List.range 256).all fun n=>match tbl[n]? with|some c=>c.toNat==bitsLen n|none=>false
theorem JI:Zm=true:=by decide +kernel
theorem yH {β:Type}{K:Option β→Prop}{n:Nat}(hn:n<256)(f:UInt8→β)(h:∀c:UInt8,c.toNat=bitsLen n→K (some (f c))):K (Option.map f tbl[n]?):=by
 have:=List.all_eq_true.1 JI n (List.mem_range.2 hn)
 split at this
 ·rename_i c hc
  rw[hc];exact h c (by simpa using this)
 ·cases this
theorem S9 (n:Nat)(hn:n<16777216)(H:af):W env (.call 141 [.int .u64 n]) H (fun o H'=>o=.val (.int .i64 (bitsLen n))∧H'=H):=by
 refine W.bR rfl rfl rfl ?_
 have h1:¬(4294967296≤n):=by omega
 have fin:∀(m k:Nat),m<256→k≤16→IntKind.i64.wrap ((k:Int)+((bitsLen m:Nat):Int))=((bitsLen m+k:Nat):Int):=fun m k hm hk=>by
  have:=pW (n:=m) (k:=8) hm
  rw[wrap64 (by omega)];omega
 by_cases h2:65536≤n
 ·have e16:(n:Int).fdiv (2^(min (16:Int).toNat IntKind.u64.bits))=((n/65536:Nat):Int):=by
   show(n:Int).fdiv 65536=_
   rw[Int.fdiv_eq_ediv_of_nonneg _ (by decide)];omega
  have h3:¬(256≤n/65536):=by omega
  have Og:=wW (n:=n/65536) (by omega)
  have w16:IntKind.i64.wrap (0+16)=16:=by decide
  have:=fin (n/65536) 16 (by omega) (by omega)
  rw[show bitsLen (n/65536)+16=bitsLen n from xd (k:=16) h2]at this
  simp -implicitDefEqProofs only[tt,op,ef,cl,sq,reduceIte,j2,j3,j4,j5,j6,j7,j8,j9,y1,S1,h1,h2,e16,h3,Og,w16,aa]
  refine yH (K:=kT env _ _ _ _ _ _ _ _) (by omega) _ fun ch CA=>?_
  have wc:IntKind.i64.wrap ((ch.toNat:Nat):Int)=((ch.toNat:Nat):Int):=wrap64 (by have:=ch.toNat_lt;omega)
  rw[CA]at wc
  simp -implicitDefEqProofs only[op,ef,cl,sq,reduceIte,j2,j3,j4,j5,j6,j7,j8,j9,y1,S1,CA,wc]
  exact congrArg (fun x=>Out.val (.int .i64 x)) this
 by_cases h3:256≤n
 ·have e8:(n:Int).fdiv (2^(min (8:Int).toNat IntKind.u64.bits))=((n/256:Nat):Int):=by
   show(n:Int).fdiv 256=_
   rw[Int.fdiv_eq_ediv_of_nonneg _ (by decide)];omega
  have Og:=wW (n:=n/256) (by omega)
  have w80:IntKind.i64.wrap (0+8)=8:=by decide
  have:=fin (n/256) 8 (by omega) (by omega)
  rw[show bitsLen (n/256)+8=bitsLen n from xd (k:=8) h3]at this
  simp -implicitDefEqProofs only[tt,op,ef,cl,sq,reduceIte,j2,j3,j4,j5,j6,j7,j8,j9,y1,S1,h1,h2,e8,h3,Og,w80,aa]
  refine yH (K:=kT env _ _ _ _ _ _ _ _) (by omega) _ fun ch CA=>?_
  have wc:IntKind.i64.wrap ((ch.toNat:Nat):Int)=((ch.toNat:Nat):Int):=wrap64 (by have:=ch.toNat_lt;omega)
  rw[CA]at wc
  simp -implicitDefEqProofs only[op,ef,cl,sq,reduceIte,j2,j3,j4,j5,j6,j7,j8,j9,y1,S1,CA,wc]
  exact congrArg (fun x=>Out.val (.int .i64 x)) this
 ·have Og:=wW (n:=n) (by omega)
  have:=fin n 0 (by omega) (by omega)
  simp -implicitDefEqProofs only[tt,op,ef,cl,sq,reduceIte,j2,j3,j4,j5,j6,j7,j8,j9,y1,S1,h1,h2,h3,Og,aa]
  refine yH (K:=kT env _ _ _ _ _ _ _ _) (by omega) _ fun ch CA=>?_
  have wc:IntKind.i64.wrap ((ch.toNat:Nat):Int)=((ch.toNat:Nat):Int):=wrap64 (by have:=ch.toNat_lt;omega)
  rw[CA]at wc
  simp -implicitDefEqProofs only[op,ef,cl,sq,reduceIte,j2,j3,j4,j5,j6,j7,j8,j9,y1,S1,CA,wc]
  exact congrArg (fun x=>Out.val (.int .i64 x)) this
theorem F5 (n:Nat)(hn:n<16777216)(H:af):W env (.call 118 [.int .u64 n]) H (fun o H'=>o=.val (.int .i64 (bitsLen n))∧H'=H):=by
 refine W.bR rfl rfl rfl ?_
 simp -implicitDefEqProofs only[z9,op,ef,cl,sq,reduceIte,j2,j3,j4,j5,j6,j7,j8,j9,y1,S1]
 refine ae _ _ _ _ _ _ _ _ (S9 n hn _) ?_
 rintro u H1⟨hu,rfl⟩
 cases hu
 simp -implicitDefEqProofs only[op,ef,cl,sq,reduceIte,j2,j3,j4,j5,j6,j7,j8,j9,y1,S1]
theorem F6 (n:Nat)(hn:n<16777216)(H:af):W env (.call 154 [.int .i64 n]) H (fun o H'=>o=.val (.int .u64 ((1 <<< bitsLen n:Nat):Int))∧H'=H):=by
 refine W.bR rfl rfl rfl ?_
 have wu:=pf (n:=n) (by omega)
 simp -implicitDefEqProofs only[FA,op,ef,cl,sq,reduceIte,j2,j3,j4,j5,j6,j7,j8,j9,y1,S1,wu]
 refine ae _ _ _ _ _ _ _ _ (F5 n hn _) ?_
 rintro u H1⟨hu,rfl⟩
 cases hu
 have hb:=pW (n:=n) (k:=24) hn
 have n0:¬(((bitsLen n:Nat):Int)<0):=by omega
 have e:IntKind.u64.wrap (1*2^(min ((bitsLen n:Nat):Int).toNat IntKind.u64.bits))=((1 <<< bitsLen n:Nat):Int):=by
  rw[Int.toNat_natCast,Nat.min_eq_left (by show bitsLen n≤64;omega),Nat.one_shiftLeft,Int.one_mul]
  have:(2:Nat)^bitsLen n≤2^24:=Nat.pow_le_pow_right (by decide) hb
  have h2:((2:Int)^bitsLen n)=((2^bitsLen n:Nat):Int):=by simp
  rw[h2]
  exact pf (by omega)
 simp -implicitDefEqProofs only[op,ef,cl,sq,reduceIte,j2,j3,j4,j5,j6,j7,j8,j9,y1,S1,n0,e]
set_option maxHeartbeats 8000000
open Go.Sort (bitsLen)
theorem Lz (x:Int):IntKind.u64.wrap x=x%18446744073709551616:=by
 unfold IntKind.wrap
 simp -implicitDefEqProofs only[IntKind.signed,IntKind.bits]
 simp
theorem JJ (r:UInt64):IntKind.u64.wrap ((r.toNat:Int)*2^(min (13:Int).toNat IntKind.u64.bits))=((r <<< 13).toNat:Int):=by
 rw[Lz,UInt64.toNat_shiftLeft,Nat.shiftLeft_eq]
 show(r.toNat:Int)*8192%_=((r.toNat*8192%18446744073709551616:Nat):Int)
 omega
theorem JK (r:UInt64):IntKind.u64.wrap ((r.toNat:Int)*2^(min (17:Int).toNat IntKind.u64.bits))=((r <<< 17).toNat:Int):=by
 rw[Lz,UInt64.toNat_shiftLeft,Nat.shiftLeft_eq]
 show(r.toNat:Int)*131072%_=((r.toNat*131072%18446744073709551616:Nat):Int)
 omega
theorem Ol (r:UInt64):(r.toNat:Int).fdiv (2^(min (7:Int).toNat IntKind.u64.bits))=((r >>> 7).toNat:Int):=by
 rw[UInt64.toNat_shiftRight,Nat.shiftRight_eq_div_pow]
 show(r.toNat:Int).fdiv 128=((r.toNat/128:Nat):Int)
 rw[Int.fdiv_eq_ediv_of_nonneg _ (by decide)];omega
theorem Ta (r:UInt64):BitVec.ofInt IntKind.u64.bits (r.toNat:Int)=r.toBitVec:=by
 apply BitVec.eq_of_toNat_eq
 rw[BitVec.toNat_ofInt]
 have:=r.toNat_lt
 show((r.toNat:Int)%18446744073709551616).toNat=r.toNat
 omega
theorem Tb (r s:UInt64):IntKind.u64.wrap ((BitVec.ofInt IntKind.u64.bits (r.toNat:Int) ^^^ BitVec.ofInt IntKind.u64.bits (s.toNat:Int)).toNat:Int)=((r ^^^ s).toNat:Int):=by
 refine Eq.trans ?_ (pf (r ^^^ s).toNat_lt)
 rw[Ta,Ta]
 rfl
theorem Ak (r:UInt64)(k:Nat)(hk:k<18446744073709551616):IntKind.u64.wrap ((BitVec.ofInt IntKind.u64.bits (r.toNat:Int) &&& BitVec.ofInt IntKind.u64.bits (k:Int)).toNat:Int)=((r.toNat &&& k:Nat):Int):=by
 have h:(BitVec.ofInt IntKind.u64.bits (r.toNat:Int) &&& BitVec.ofInt IntKind.u64.bits (k:Int)).toNat=r.toNat &&& k:=by
  rw[BitVec.toNat_and,BitVec.toNat_ofInt,BitVec.toNat_ofInt]
  have:=r.toNat_lt
  have e1:((r.toNat:Int)%((2^IntKind.u64.bits:Nat):Int)).toNat=r.toNat:=by
   show((r.toNat:Int)%18446744073709551616).toNat=r.toNat
   omega
  have e2:((k:Int)%((2^IntKind.u64.bits:Nat):Int)).toNat=k:=by
   show((k:Int)%18446744073709551616).toNat=k
   omega
  rw[e1,e2]
 rw[h]
 exact pf (Nat.lt_of_le_of_lt Nat.and_le_right hk)
theorem LA (p:Nat)(r:UInt64)(H:af)(hp:H[p]?=some (.cells [.int .u64 r.toNat])) :
  W env (.call 155 [.ptr p 0]) H (fun o H'=>o=.val (.int .u64 (Go.Sort.xorNext r).toNat)∧H'[p]?=some (.cells [.int .u64 (Go.Sort.xorNext r).toNat])∧bh (fun x=>x=p) H H'):=by
 refine W.bR rfl rfl rfl ?_
 have lp:=aW hp
 have n13:¬((13:Int)<0):=by decide
 have n7:¬((7:Int)<0):=by decide
 have n17:¬((17:Int)<0):=by decide
 simp -implicitDefEqProofs only[JJ,JK,Ol,Tb,FB,op,ef,cl,sq,reduceIte,j2,j3,j4,j5,j6,j7,j8,j9,y1,S1,hp,lp,S2,n13,n7,n17]
 exact⟨rfl,rfl,(((bh.refl (fun x=>x=p) _).set (.inl rfl) _).set (.inl rfl) _).set (.inl rfl) _⟩
theorem xe {n:Nat}(h:n≠0):1 <<< bitsLen n≤2*n:=by
 rw[Nat.one_shiftLeft,bitsLen,if_neg h,Nat.pow_succ]
 have:=Nat.log2_self_le h
 omega
def LB (a len md:Nat)(d:Array Nm):Nat→UInt64×Array Nm
 | 0=>(UInt64.ofNat len,d)
 | j+1=>Go.Sort.breakStep a len md (LB a len md d j) (a+len/4*2-1+j)
theorem Vr {a:Nat}(h:1≤a∧a<18446744073709551616):IntKind.u64.wrap ((a:Int)-1)=((a-1:Nat):Int):=by rw[ux (by omega)];omega
theorem wN {a:Nat}(h:a<9223372036854775808):IntKind.i64.wrap (a:Int)=(a:Int):=wrap64 (by omega)
open Go.Sort in
theorem JL (c n:Nat)(d:Array Nm)(a b:Nat)(H:af)(hn:d.size=n)(hc:H[c]?=some (.cells (aJ eN d.toList)))(hb:b≤n)(gb:a+12<b)(hs:n<16777216) :
  W env (.call 134 [.ax c 0 n 2,.int .i64 a,.int .i64 b,.fn 61 []]) H (yA c n (breakPatterns d a b) H):=by
 refine W.bR rfl rfl rfl ?_
 have h8:8≤b-a:=by omega
 have lc:=aW hc
 obtain⟨len,hlen⟩:∃len,len=b-a:=⟨_,rfl⟩
 have wl:IntKind.u64.wrap ((len:Nat):Int)=(len:Int):=pf (by omega)
 rw[←hlen]at h8
 simp -implicitDefEqProofs (maxSteps:=1000000) (disch:=omega) only[Fj,aa,aM,aO,aP,aQ,aR,aS,wA,aZ,wS,aY,wM,S2,op,ef,cl,sq,reduceIte,j2,j3,j4,j5,j6,j7,j8,j9,y1,S1,CB,CC,←hlen,wl,h8]
 refine ae _ _ _ _ _ _ _ _ (F6 len (by omega) _) ?_
 rintro u H1⟨hu,rfl⟩
 cases hu
 obtain⟨md,Tc⟩:∃md,md=1 <<< bitsLen len:=⟨_,rfl⟩
 have MJ:=xe (n:=len) (by omega)
 have JC:1≤1 <<< bitsLen len:=by rw[Nat.one_shiftLeft];exact Nat.one_le_two_pow
 rw[←Tc]at JC MJ ⊢
 have hq:len/4*2≤len:=by omega
 obtain⟨ix,vI⟩:∃ix,ix=a+len/4*2-1:=⟨_,rfl⟩
 have uv:breakPatterns d a b=(LB a len md d 3).2:=by
  simp -implicitDefEqProofs only[breakPatterns,←hlen,ge_iff_le,if_pos h8,LB,←Tc,Nat.add_zero]
 simp -implicitDefEqProofs (maxSteps:=1000000) (disch:=omega) only[aa,aM,aO,aP,aQ,aR,aS,wA,aZ,wS,aY,wM,S2,op,ef,cl,sq,reduceIte,j2,j3,j4,j5,j6,j7,j8,j9,y1,S1,CB,CC,←vI]
 have jw:(H++[B.cells [T.int IntKind.u64 len]])[c]?=some (.cells (aJ eN d.toList)):=by rw[aV lc];exact hc
 have lu:(H++[B.cells [T.int IntKind.u64 len]])[H.length]?=some (.cells [.int .u64 (UInt64.ofNat len).toNat]):=by
  rw[aU rfl,UInt64.toNat_ofNat_of_lt' (by show len<18446744073709551616;omega)]
 refine W.cG (fun (j:Nat) R H'=>At H' (fun H'=>∃d':Array Nm,H'[c]?=some (.cells (aJ eN d'.toList))∧d'.size=n∧d'=(LB a len md d j).2∧H'[H.length]?=some (.cells [.int .u64 (LB a len md d j).1.toNat])∧bh (fun x=>x=c∨x=H.length) (H++[B.cells [T.int IntKind.u64 len]]) H')∧R 0=.ax c 0 n 2∧R 1=.int .i64 a∧R 8=.int .i64 len∧R 9=.ptr H.length 0∧R 10=.int .u64 md∧R 11=.int .i64 (ix+j:Nat)∧j≤3) (fun j=>3-j) 0 ⟨.i ⟨d,jw,hn,rfl,lu,bh.refl _ _⟩,rfl,rfl,rfl,rfl,rfl,rfl,by omega⟩ ?_
 rintro j R H1⟨⟨di,hd,a6,Td,hp,aq⟩,h0,h1,JM,h9,aB,a0,hj⟩
 by_cases hj3:j<3
 ·have hle:ix+j≤a+len/4*2+1:=by omega
  simp -implicitDefEqProofs (maxSteps:=1000000) (disch:=omega) only[aa,aM,aO,aP,aQ,aR,aS,wA,aZ,wS,aY,wM,S2,op,ef,cl,sq,reduceIte,j2,j3,j4,j5,j6,j7,j8,j9,y1,S1,CB,CC,h0,h1,JM,h9,aB,a0,hle]
  refine ae _ _ _ _ _ _ _ _ (LA H.length _ _ hp) ?_
  rintro u H2⟨hu,lV,dN⟩
  cases hu
  have hd:=dN.get hd (by omega)
  have yI:=aW hd
  obtain⟨r,hr⟩:∃r,r=xorNext (LB a len md d j).1:=⟨_,rfl⟩
  rw[←hr]at lV ⊢
  obtain⟨ot,JN⟩:∃ot,ot=r.toNat &&& (md-1):=⟨_,rfl⟩
  have hol:ot≤md-1:=by rw[JN];exact Nat.and_le_right
  have bS:LB a len md d (j+1)=(r,swp di (ix+j) (a+if ot≥len then ot-len else ot)):=by
   simp -implicitDefEqProofs only[LB,breakStep,←hr,←Td,←JN,←vI]
  have bG:¬(c=H.length):=by omega
  by_cases dY:len≤ot
  ·rw[if_pos dY]at bS
   simp -implicitDefEqProofs (maxSteps:=1000000) (disch:=omega) only[aa,aM,aO,aP,aQ,aR,aS,wA,aZ,wS,aY,wM,S2,op,ef,cl,sq,reduceIte,j2,j3,j4,j5,j6,j7,j8,j9,y1,S1,Vr,Ak,wN,←JN,h0,h1,JM,h9,aB,a0,dY,hd,yI]
   refine⟨j+1,by omega,.i ⟨swp di (ix+j) (a+(ot-len)),bU (by rw[List.length_set];exact yI),by rw[swp_size];exact a6,by rw[bS],?_,((aq.trans dN fun x h=>.inl (.inr h)).set (.inl (.inl rfl)) _).set (.inl (.inl rfl)) _⟩,rfl,by omega⟩
   rw[bf bG,bf bG,lV,bS]
  ·rw[if_neg dY]at bS
   simp -implicitDefEqProofs (maxSteps:=1000000) (disch:=omega) only[aa,aM,aO,aP,aQ,aR,aS,wA,aZ,wS,aY,wM,S2,op,ef,cl,sq,reduceIte,j2,j3,j4,j5,j6,j7,j8,j9,y1,S1,Vr,Ak,wN,←JN,h0,h1,JM,h9,aB,a0,dY,hd,yI]
   refine⟨j+1,by omega,.i ⟨swp di (ix+j) (a+ot),bU (by rw[List.length_set];exact yI),by rw[swp_size];exact a6,by rw[bS],?_,((aq.trans dN fun x h=>.inl (.inr h)).set (.inl (.inl rfl)) _).set (.inl (.inl rfl)) _⟩,rfl,by omega⟩
   rw[bf bG,bf bG,lV,bS]
 ·have Jz:j=3:=by omega
  subst Jz
  have hle:¬(ix+3≤a+len/4*2+1):=by omega
  simp -implicitDefEqProofs (maxSteps:=1000000) (disch:=omega) only[aa,aM,aO,aP,aQ,aR,aS,wA,aZ,wS,aY,wM,S2,op,ef,cl,sq,reduceIte,j2,j3,j4,j5,j6,j7,j8,j9,y1,S1,CB,CC,h0,h1,JM,h9,aB,a0,hle]
  exact⟨rfl,di,hd,a6,by rw[uv,Td],(ay (F:=fun x=>x=c) (H:=H) (H':=H++[B.cells [T.int IntKind.u64 len]]) ⟨_,rfl⟩).trans aq fun x h=>h.elim .inl fun e=>.inr (by omega)⟩
set_option maxHeartbeats 8000000
open Go.Sort in
theorem lj {p:Nm→Bool}{d:Array Nm}{i k:Nat}(h:1≤i):scanDown p d i k=if (decide (i≤k)&&p d[k]!)=true then scanDown p d i (k-1)else k:=by
 cases k with
 | zero=>rw[scanDown,if_neg (dg (cf (by omega)))]
 | succ k=>rw[scanDown];rfl
open Go.Sort in
theorem Om {a i j si sj:Nat}{d:Array Nm}(hi:si=scanUp (fun x=>!aX d[a]! x) d j i)(hj:sj=scanDown (fun x=>aX d[a]! x) d si j):partEqLoop aX a i j d=if si>sj then(si,d)else if (sj-1)+1-(si+1)<j+1-i then partEqLoop aX a (si+1) (sj-1) (swp d si sj)else(si,d):=by
 subst hi;subst hj
 rw[partEqLoop]
 rfl
open Go.Sort in
theorem Te (c n:Nat)(d:Array Nm)(a b pv:Nat)(H:af)(hn:d.size=n)(hc:H[c]?=some (.cells (aJ eN d.toList)))(hb:b≤n)(gb:a<b)(l3:pv<n)(hs:n<2305843009213693951) :
  W env (.call 138 [.ax c 0 n 2,.int .i64 a,.int .i64 b,.int .i64 pv,.fn 61 []]) H (fun o H'=>o=.val (.int .i64 (partitionEqual aX d a b pv).1)∧SC c n H (fun x=>x=(partitionEqual aX d a b pv).2) H'):=by
 refine W.bR rfl rfl rfl ?_
 have hd:=hc
 have lc:=aW hd
 simp -implicitDefEqProofs (maxSteps:=1000000) (disch:=omega) only[Fm,aa,aM,aO,aP,aQ,aR,aS,wA,aZ,wS,aY,wM,S2,op,ef,cl,sq,reduceIte,j2,j3,j4,j5,j6,j7,j8,j9,y1,S1,hd,lc]
 obtain⟨d1,o7,yC,e1,oP⟩:=SC.swp (n:=n) (P:=fun x=>x=swp d a pv) (x:=.cells (aJ eN (d.toList.set a d[pv]!))) hd (by rw[Go.Sort.swp_size];exact hn) rfl (bh.refl (fun x=>x=c) H)
 subst e1
 generalize ((H.set c (.cells (aJ eN (d.toList.set a d[pv]!)))).set c (.cells (aJ eN (swp d a pv).toList)))=H1 at *
 refine W.cN 0 (fun (q:Nat×Nat) R H'=>At H' (fun H'=>SC c n H (fun di=>partEqLoop aX a q.1 q.2 di=partitionEqual aX d a b pv) H')∧R 0=.ax c 0 n 2∧R 1=.int .i64 a∧R 4=.fn 61 []∧R 11=.int .i64 q.1∧R 12=.int .i64 q.2∧a<q.1∧q.2<n∧q.1≤n) (fun q=>q.2+1-q.1) (a+1,b-1)
  (fun R H'=>At H' (fun H'=>SC c n H (fun di=>di=(partitionEqual aX d a b pv).2) H')∧R 11=.int .i64 (partitionEqual aX d a b pv).1) ⟨.i ⟨_,o7,yC,rfl,oP⟩,rfl,rfl,rfl,rfl,rfl,by omega,by simp only;omega,by simp only;omega⟩ ?_ ?_
 ·rintro⟨i,j⟩ R H1 ⟨⟨di,hd,a6,hP,aq⟩,h0,h1,h4,a0,aA,FX,x8,iE⟩
  simp only at hP a0 aA FX x8 iE ⊢
  simp -implicitDefEqProofs only[op,ef,cl,sq,reduceIte,j2,j3,j4,j5,j6,j7,j8,j9,y1,S1,h0,h1,h4,a0,aA]
  obtain⟨si,oU⟩:∃si,si=scanUp (fun x=>!aX di[a]! x) di j i:=⟨_,rfl⟩
  refine W.cN 2 (fun (k:Nat) R H'=>At H' (fun H'=>H'[c]?=some (.cells (aJ eN di.toList))∧bh (fun x=>x=c) H H')∧R 0=.ax c 0 n 2∧R 1=.int .i64 a∧R 4=.fn 61 []∧R 11=.int .i64 k∧R 12=.int .i64 j∧i≤k∧k≤n∧scanUp (fun x=>!aX di[a]! x) di j k=si) (fun k=>j+1-k) i
   (fun R H'=>At H' (fun H'=>H'[c]?=some (.cells (aJ eN di.toList))∧bh (fun x=>x=c) H H')∧R 0=.ax c 0 n 2∧R 1=.int .i64 a∧R 4=.fn 61 []∧R 11=.int .i64 si∧R 12=.int .i64 j∧i≤si∧si≤n) ⟨.i ⟨hd,aq⟩,h0,h1,h4,a0,aA,Nat.le_refl _,iE,oU.symm⟩ ?_ ?_
  ·rintro k R H2⟨⟨hd,aq⟩,h0,h1,h4,a0,aA,qX,oN,hk⟩
   have lc:=aW hd
   by_cases eC:k≤j
   ·simp -implicitDefEqProofs (maxSteps:=1000000) (disch:=omega) only[aa,aM,aO,aP,aQ,aR,aS,wA,aZ,wS,aY,wM,S2,op,ef,cl,sq,reduceIte,j2,j3,j4,j5,j6,j7,j8,j9,y1,S1,h0,h1,h4,a0,aA,eC,hd,lc]
    refine kV _ _ _ _ _ _ _ (by simp -implicitDefEqProofs (maxSteps:=1000000) (disch:=omega) only[aa,aM,aO,aP,aQ,aR,aS,wA,aZ,wS,aY,wM,S2,op,ef,cl,sq,reduceIte,j2,j3,j4,j5,j6,j7,j8,j9,y1,S1,h0,h1,h4,a0,aA,eC,hd,lc]) ?_
    simp -implicitDefEqProofs (maxSteps:=1000000) (disch:=omega) only[aa,aM,aO,aP,aQ,aR,aS,wA,aZ,wS,aY,wM,S2,op,ef,cl,sq,reduceIte,j2,j3,j4,j5,j6,j7,j8,j9,y1,S1,cy,h0,h1,h4,a0,aA,eC,hd,lc,List.append_nil]
    refine ae _ _ _ _ _ _ _ _ (cd di[a]! di[k]! _) ?_
    rintro u H3⟨hu,hx⟩
    cases hu
    have hx:Ext H2 H3:=hx
    have hd:=hx.get hd
    have lc:=aW hd
    have aq:=aq.trans (ay (F:=fun _=>False) hx) (fun _ h=>h.elim)
    have cY:aX di[a]! di[k]! = decide (dz di[a]! di[k]!<0):=rfl
    by_cases c1:dz di[a]! di[k]!<0
    ·simp -implicitDefEqProofs (maxSteps:=1000000) (disch:=omega) only[aa,aM,aO,aP,aQ,aR,aS,wA,aZ,wS,aY,wM,S2,op,ef,cl,sq,reduceIte,j2,j3,j4,j5,j6,j7,j8,j9,y1,S1,h0,h1,h4,a0,aA,eC,c1]
     rw[scanUp,if_neg (dJ (by rw[cY,cn c1];rfl))]at hk
     subst hk
     exact⟨.i ⟨hd,aq⟩,rfl,qX,oN⟩
    ·simp -implicitDefEqProofs (maxSteps:=1000000) (disch:=omega) only[aa,aM,aO,aP,aQ,aR,aS,wA,aZ,wS,aY,wM,S2,op,ef,cl,sq,reduceIte,j2,j3,j4,j5,j6,j7,j8,j9,y1,S1,h0,h1,h4,a0,aA,eC,c1]
     rw[scanUp,if_pos (fG (cn eC) (fg (cY.trans (cf c1))))]at hk
     exact⟨k+1,by omega,.i ⟨hd,aq⟩,rfl,by omega,by omega,hk⟩
   ·simp -implicitDefEqProofs (maxSteps:=1000000) (disch:=omega) only[op,ef,cl,sq,reduceIte,j2,j3,j4,j5,j6,j7,j8,j9,y1,S1,h0,h1,h4,a0,aA,eC]
    simp -implicitDefEqProofs only[op,ef,cl,sq,reduceIte,j2,j3,j4,j5,j6,j7,j8,j9,y1,S1,h0,h1,h4,a0,aA,eC]
    rw[scanUp,if_neg (dg (cf eC))]at hk
    subst hk
    exact⟨.i ⟨hd,aq⟩,rfl,qX,oN⟩
  ·rintro R H2⟨⟨hd,aq⟩,h0,h1,h4,a0,aA,yJ,F7⟩
   simp -implicitDefEqProofs only[op,ef,cl,sq,reduceIte,j2,j3,j4,j5,j6,j7,j8,j9,y1,S1,h0,h1,h4,a0,aA]
   obtain⟨sj,sg⟩:∃sj,sj=scanDown (fun x=>aX di[a]! x) di si j:=⟨_,rfl⟩
   refine W.cN 4 (fun (k:Nat) R H'=>At H' (fun H'=>H'[c]?=some (.cells (aJ eN di.toList))∧bh (fun x=>x=c) H H')∧R 0=.ax c 0 n 2∧R 1=.int .i64 a∧R 4=.fn 61 []∧R 11=.int .i64 si∧R 12=.int .i64 k∧k≤j∧scanDown (fun x=>aX di[a]! x) di si k=sj) (fun k=>k) j
    (fun R H'=>At H' (fun H'=>H'[c]?=some (.cells (aJ eN di.toList))∧bh (fun x=>x=c) H H')∧R 0=.ax c 0 n 2∧R 1=.int .i64 a∧R 4=.fn 61 []∧R 11=.int .i64 si∧R 12=.int .i64 sj∧sj≤j) ⟨.i ⟨hd,aq⟩,h0,h1,h4,a0,aA,Nat.le_refl _,sg.symm⟩ ?_ ?_
   ·rintro k R H3⟨⟨hd,aq⟩,h0,h1,h4,a0,aA,eC,hk⟩
    have lc:=aW hd
    rw[lj (by omega)]at hk
    by_cases bN:si≤k
    ·simp -implicitDefEqProofs (maxSteps:=1000000) (disch:=omega) only[aa,aM,aO,aP,aQ,aR,aS,wA,aZ,wS,aY,wM,S2,op,ef,cl,sq,reduceIte,j2,j3,j4,j5,j6,j7,j8,j9,y1,S1,h0,h1,h4,a0,aA,bN,hd,lc]
     refine kV _ _ _ _ _ _ _ (by simp -implicitDefEqProofs (maxSteps:=1000000) (disch:=omega) only[aa,aM,aO,aP,aQ,aR,aS,wA,aZ,wS,aY,wM,S2,op,ef,cl,sq,reduceIte,j2,j3,j4,j5,j6,j7,j8,j9,y1,S1,h0,h1,h4,a0,aA,bN,hd,lc]) ?_
     simp -implicitDefEqProofs (maxSteps:=1000000) (disch:=omega) only[aa,aM,aO,aP,aQ,aR,aS,wA,aZ,wS,aY,wM,S2,op,ef,cl,sq,reduceIte,j2,j3,j4,j5,j6,j7,j8,j9,y1,S1,cy,h0,h1,h4,a0,aA,bN,hd,lc,List.append_nil]
     refine ae _ _ _ _ _ _ _ _ (cd di[a]! di[k]! _) ?_
     rintro u H4⟨hu,hx⟩
     cases hu
     have hx:Ext H3 H4:=hx
     have hd:=hx.get hd
     have lc:=aW hd
     have aq:=aq.trans (ay (F:=fun _=>False) hx) (fun _ h=>h.elim)
     have cY:aX di[a]! di[k]! = decide (dz di[a]! di[k]!<0):=rfl
     by_cases c1:dz di[a]! di[k]!<0
     ·simp -implicitDefEqProofs (maxSteps:=1000000) (disch:=omega) only[aa,aM,aO,aP,aQ,aR,aS,wA,aZ,wS,aY,wM,S2,op,ef,cl,sq,reduceIte,j2,j3,j4,j5,j6,j7,j8,j9,y1,S1,h0,h1,h4,a0,aA,bN,c1]
      rw[if_pos (fG (cn bN) (cY.trans (cn c1)))]at hk
      exact⟨k-1,by omega,.i ⟨hd,aq⟩,rfl,by omega,hk⟩
     ·simp -implicitDefEqProofs (maxSteps:=1000000) (disch:=omega) only[aa,aM,aO,aP,aQ,aR,aS,wA,aZ,wS,aY,wM,S2,op,ef,cl,sq,reduceIte,j2,j3,j4,j5,j6,j7,j8,j9,y1,S1,h0,h1,h4,a0,aA,bN,c1]
      rw[if_neg (dJ (cY.trans (cf c1)))]at hk
      subst hk
      exact⟨.i ⟨hd,aq⟩,rfl,eC⟩
    ·simp -implicitDefEqProofs only[op,ef,cl,sq,reduceIte,j2,j3,j4,j5,j6,j7,j8,j9,y1,S1,h0,h1,h4,a0,aA,bN]
     rw[if_neg (dg (cf bN))]at hk
     subst hk
     exact⟨.i ⟨hd,aq⟩,rfl,eC⟩
   ·rintro R H3⟨⟨hd,aq⟩,h0,h1,h4,a0,aA,F9⟩
    have lc:=aW hd
    rw[Om oU sg]at hP
    by_cases kg:sj<si
    ·rw[if_pos kg]at hP
     simp -implicitDefEqProofs only[op,ef,cl,sq,reduceIte,j2,j3,j4,j5,j6,j7,j8,j9,y1,S1,h0,h1,h4,a0,aA,kg]
     exact⟨.i ⟨di,hd,a6,by rw[←hP],aq⟩,by rw[←hP]⟩
    ·rw[if_neg kg,if_pos (by omega)]at hP
     simp -implicitDefEqProofs (maxSteps:=1000000) (disch:=omega) only[aa,aM,aO,aP,aQ,aR,aS,wA,aZ,wS,aY,wM,S2,op,ef,cl,sq,reduceIte,j2,j3,j4,j5,j6,j7,j8,j9,y1,S1,h0,h1,h4,a0,aA,kg,hd,lc]
     exact⟨(si+1,sj-1),by simp only;omega,.i (.swp hd (by rw[swp_size];exact a6) hP aq),rfl,rfl,by simp only;omega,by simp only;omega,by simp only;omega⟩
 ·rintro R H1⟨⟨di,hd,a6,hP,aq⟩,a0⟩
  simp -implicitDefEqProofs only[op,ef,cl,sq,reduceIte,j2,j3,j4,j5,j6,j7,j8,j9,y1,S1,a0]
  exact⟨di,hd,a6,hP,aq⟩
set_option maxHeartbeats 8000000
open Go.Sort in
theorem JO {a i j si sj:Nat}{d:Array Nm}(hi:si=scanUp (fun x=>aX x d[a]!) d j i)(hj:sj=scanDown (fun x=>!aX x d[a]!) d si j):partLoop aX a i j d=if si>sj then(sj,d)else if (sj-1)+1-(si+1)<j+1-i then partLoop aX a (si+1) (sj-1) (swp d si sj)else(sj,d):=by
 subst hi;subst hj
 rw[partLoop]
 rfl
open Go.Sort in
theorem On (c n:Nat)(d:Array Nm)(a b pv:Nat)(H:af)(hn:d.size=n)(hc:H[c]?=some (.cells (aJ eN d.toList)))(hb:b≤n)(gb:a<b)(l3:pv<n)(hs:n<2305843009213693951) :
  W env (.call 139 [.ax c 0 n 2,.int .i64 a,.int .i64 b,.int .i64 pv,.fn 61 []]) H (fun o H'=>o=.val (.bF [.int .i64 (partition aX d a b pv).1,.bool (partition aX d a b pv).2.1])∧SC c n H (fun x=>x=(partition aX d a b pv).2.2) H'):=by
 refine W.bR rfl rfl rfl ?_
 have hd:=hc
 have lc:=aW hd
 simp -implicitDefEqProofs (maxSteps:=1000000) (disch:=omega) only[Fo,aa,aM,aO,aP,aQ,aR,aS,wA,aZ,wS,aY,wM,S2,op,ef,cl,sq,reduceIte,j2,j3,j4,j5,j6,j7,j8,j9,y1,S1,hd,lc]
 obtain⟨d1,o7,yC,e1,oP⟩:=SC.swp (n:=n) (P:=fun x=>x=swp d a pv) (x:=.cells (aJ eN (d.toList.set a d[pv]!))) hd (by rw[Go.Sort.swp_size];exact hn) rfl (bh.refl (fun x=>x=c) H)
 subst e1
 generalize ((H.set c (.cells (aJ eN (d.toList.set a d[pv]!)))).set c (.cells (aJ eN (swp d a pv).toList)))=H1 at *
 have hd:=o7
 have aq:=oP
 obtain⟨si,oU⟩:∃si,si=scanUp (fun x=>aX x (swp d a pv)[a]!) (swp d a pv) (b-1) (a+1):=⟨_,rfl⟩
 refine W.cN 0 (fun (k:Nat) R H'=>At H' (fun H'=>H'[c]?=some (.cells (aJ eN (swp d a pv).toList))∧bh (fun x=>x=c) H H')∧R 0=.ax c 0 n 2∧R 1=.int .i64 a∧R 4=.fn 61 []∧R 12=.int .i64 k∧R 13=.int .i64 ((b-1):Nat)∧(a+1)≤k∧k≤n∧scanUp (fun x=>aX x (swp d a pv)[a]!) (swp d a pv) ((b-1)) k=si) (fun k=>(b-1)+1-k) ((a+1))
  (fun R H'=>At H' (fun H'=>H'[c]?=some (.cells (aJ eN (swp d a pv).toList))∧bh (fun x=>x=c) H H')∧R 0=.ax c 0 n 2∧R 1=.int .i64 a∧R 4=.fn 61 []∧R 12=.int .i64 si∧R 13=.int .i64 ((b-1):Nat)∧(a+1)≤si∧si≤n) ⟨.i ⟨hd,aq⟩,rfl,rfl,rfl,rfl,rfl,Nat.le_refl _,by omega,oU.symm⟩ ?_ ?_
 ·rintro k R H2⟨⟨hd,aq⟩,h0,h1,h4,aA,bg,qX,oN,hk⟩
  have lc:=aW hd
  by_cases eC:k≤(b-1)
  ·simp -implicitDefEqProofs (maxSteps:=1000000) (disch:=omega) only[aa,aM,aO,aP,aQ,aR,aS,wA,aZ,wS,aY,wM,S2,op,ef,cl,sq,reduceIte,j2,j3,j4,j5,j6,j7,j8,j9,y1,S1,h0,h1,h4,aA,bg,eC,hd,lc]
   refine kV _ _ _ _ _ _ _ (by simp -implicitDefEqProofs (maxSteps:=1000000) (disch:=omega) only[aa,aM,aO,aP,aQ,aR,aS,wA,aZ,wS,aY,wM,S2,op,ef,cl,sq,reduceIte,j2,j3,j4,j5,j6,j7,j8,j9,y1,S1,h0,h1,h4,aA,bg,eC,hd,lc]) ?_
   simp -implicitDefEqProofs (maxSteps:=1000000) (disch:=omega) only[aa,aM,aO,aP,aQ,aR,aS,wA,aZ,wS,aY,wM,S2,op,ef,cl,sq,reduceIte,j2,j3,j4,j5,j6,j7,j8,j9,y1,S1,cy,h0,h1,h4,aA,bg,eC,hd,lc,List.append_nil]
   refine ae _ _ _ _ _ _ _ _ (cd (swp d a pv)[k]! (swp d a pv)[a]! _) ?_
   rintro u H3⟨hu,hx⟩
   cases hu
   have hx:Ext H2 H3:=hx
   have hd:=hx.get hd
   have lc:=aW hd
   have aq:=aq.trans (ay (F:=fun _=>False) hx) (fun _ h=>h.elim)
   have cY:aX (swp d a pv)[k]! (swp d a pv)[a]! = decide (dz (swp d a pv)[k]! (swp d a pv)[a]!<0):=rfl
   by_cases c1:dz (swp d a pv)[k]! (swp d a pv)[a]!<0
   ·simp -implicitDefEqProofs (maxSteps:=1000000) (disch:=omega) only[aa,aM,aO,aP,aQ,aR,aS,wA,aZ,wS,aY,wM,S2,op,ef,cl,sq,reduceIte,j2,j3,j4,j5,j6,j7,j8,j9,y1,S1,h0,h1,h4,aA,bg,eC,c1]
    rw[scanUp,if_pos (fG (cn eC) (cY.trans (cn c1)))]at hk
    exact⟨k+1,by omega,.i ⟨hd,aq⟩,rfl,by omega,by omega,hk⟩
   ·simp -implicitDefEqProofs (maxSteps:=1000000) (disch:=omega) only[aa,aM,aO,aP,aQ,aR,aS,wA,aZ,wS,aY,wM,S2,op,ef,cl,sq,reduceIte,j2,j3,j4,j5,j6,j7,j8,j9,y1,S1,h0,h1,h4,aA,bg,eC,c1]
    rw[scanUp,if_neg (dJ (cY.trans (cf c1)))]at hk
    subst hk
    exact⟨.i ⟨hd,aq⟩,rfl,qX,oN⟩
  ·simp -implicitDefEqProofs only[op,ef,cl,sq,reduceIte,j2,j3,j4,j5,j6,j7,j8,j9,y1,S1,h0,h1,h4,aA,bg,eC]
   rw[scanUp,if_neg (dg (cf eC))]at hk
   subst hk
   exact⟨.i ⟨hd,aq⟩,rfl,qX,oN⟩
 ·rintro R H2⟨⟨hd,aq⟩,h0,h1,h4,aA,bg,yJ,F7⟩
  simp -implicitDefEqProofs only[op,ef,cl,sq,reduceIte,j2,j3,j4,j5,j6,j7,j8,j9,y1,S1,h0,h1,h4,aA,bg]
  obtain⟨sj,sg⟩:∃sj,sj=scanDown (fun x=>!aX x (swp d a pv)[a]!) (swp d a pv) si (b-1):=⟨_,rfl⟩
  refine W.cN 2 (fun (k:Nat) R H'=>At H' (fun H'=>H'[c]?=some (.cells (aJ eN (swp d a pv).toList))∧bh (fun x=>x=c) H H')∧R 0=.ax c 0 n 2∧R 1=.int .i64 a∧R 4=.fn 61 []∧R 12=.int .i64 si∧R 13=.int .i64 k∧k≤(b-1)∧scanDown (fun x=>!aX x (swp d a pv)[a]!) (swp d a pv) si k=sj) (fun k=>k) ((b-1))
   (fun R H'=>At H' (fun H'=>H'[c]?=some (.cells (aJ eN (swp d a pv).toList))∧bh (fun x=>x=c) H H')∧R 0=.ax c 0 n 2∧R 1=.int .i64 a∧R 4=.fn 61 []∧R 12=.int .i64 si∧R 13=.int .i64 sj∧sj≤(b-1)) ⟨.i ⟨hd,aq⟩,h0,h1,h4,aA,bg,Nat.le_refl _,sg.symm⟩ ?_ ?_
  ·rintro k R H3⟨⟨hd,aq⟩,h0,h1,h4,aA,bg,eC,hk⟩
   have lc:=aW hd
   rw[lj (by omega)]at hk
   by_cases bN:si≤k
   ·simp -implicitDefEqProofs (maxSteps:=1000000) (disch:=omega) only[aa,aM,aO,aP,aQ,aR,aS,wA,aZ,wS,aY,wM,S2,op,ef,cl,sq,reduceIte,j2,j3,j4,j5,j6,j7,j8,j9,y1,S1,h0,h1,h4,aA,bg,bN,hd,lc]
    refine kV _ _ _ _ _ _ _ (by simp -implicitDefEqProofs (maxSteps:=1000000) (disch:=omega) only[aa,aM,aO,aP,aQ,aR,aS,wA,aZ,wS,aY,wM,S2,op,ef,cl,sq,reduceIte,j2,j3,j4,j5,j6,j7,j8,j9,y1,S1,h0,h1,h4,aA,bg,bN,hd,lc]) ?_
    simp -implicitDefEqProofs (maxSteps:=1000000) (disch:=omega) only[aa,aM,aO,aP,aQ,aR,aS,wA,aZ,wS,aY,wM,S2,op,ef,cl,sq,reduceIte,j2,j3,j4,j5,j6,j7,j8,j9,y1,S1,cy,h0,h1,h4,aA,bg,bN,hd,lc,List.append_nil]
    refine ae _ _ _ _ _ _ _ _ (cd (swp d a pv)[k]! (swp d a pv)[a]! _) ?_
    rintro u H4⟨hu,hx⟩
    cases hu
    have hx:Ext H3 H4:=hx
    have hd:=hx.get hd
    have lc:=aW hd
    have aq:=aq.trans (ay (F:=fun _=>False) hx) (fun _ h=>h.elim)
    have cY:aX (swp d a pv)[k]! (swp d a pv)[a]! = decide (dz (swp d a pv)[k]! (swp d a pv)[a]!<0):=rfl
    by_cases c1:dz (swp d a pv)[k]! (swp d a pv)[a]!<0
    ·simp -implicitDefEqProofs (maxSteps:=1000000) (disch:=omega) only[aa,aM,aO,aP,aQ,aR,aS,wA,aZ,wS,aY,wM,S2,op,ef,cl,sq,reduceIte,j2,j3,j4,j5,j6,j7,j8,j9,y1,S1,h0,h1,h4,aA,bg,bN,c1]
     rw[if_neg (dJ (by rw[cY,cn c1];rfl))]at hk
     subst hk
     exact⟨.i ⟨hd,aq⟩,rfl,eC⟩
    ·simp -implicitDefEqProofs (maxSteps:=1000000) (disch:=omega) only[aa,aM,aO,aP,aQ,aR,aS,wA,aZ,wS,aY,wM,S2,op,ef,cl,sq,reduceIte,j2,j3,j4,j5,j6,j7,j8,j9,y1,S1,h0,h1,h4,aA,bg,bN,c1]
     rw[if_pos (fG (cn bN) (fg (cY.trans (cf c1))))]at hk
     exact⟨k-1,by omega,.i ⟨hd,aq⟩,rfl,by omega,hk⟩
   ·simp -implicitDefEqProofs only[op,ef,cl,sq,reduceIte,j2,j3,j4,j5,j6,j7,j8,j9,y1,S1,h0,h1,h4,aA,bg,bN]
    rw[if_neg (dg (cf bN))]at hk
    subst hk
    exact⟨.i ⟨hd,aq⟩,rfl,eC⟩
  ·rintro R H3⟨⟨hd,aq⟩,h0,h1,h4,aA,bg,F9⟩
   have lc:=aW hd
   by_cases kg:sj<si
   ·have e:partition aX d a b pv=(sj,true,swp (swp d a pv) sj a):=by
     simp -implicitDefEqProofs only[partition,←oU,←sg,gt_iff_lt,if_pos kg]
    rw[e]
    simp -implicitDefEqProofs (maxSteps:=1000000) (disch:=omega) only[aa,aM,aO,aP,aQ,aR,aS,wA,aZ,wS,aY,wM,S2,op,ef,cl,sq,reduceIte,j2,j3,j4,j5,j6,j7,j8,j9,y1,S1,h0,h1,h4,aA,bg,kg,hd,lc]
    exact .swp hd (by rw[swp_size];exact yC) rfl aq
   ·obtain⟨r,hr⟩:∃r,r=partLoop aX a (si+1) (sj-1) (swp (swp d a pv) si sj):=⟨_,rfl⟩
    have e:partition aX d a b pv=(r.1,false,swp r.2 r.1 a):=by
     simp -implicitDefEqProofs only[partition,←oU,←sg,gt_iff_lt,if_neg kg,←hr]
    rw[e]
    simp -implicitDefEqProofs (maxSteps:=1000000) (disch:=omega) only[aa,aM,aO,aP,aQ,aR,aS,wA,aZ,wS,aY,wM,S2,op,ef,cl,sq,reduceIte,j2,j3,j4,j5,j6,j7,j8,j9,y1,S1,h0,h1,h4,aA,bg,kg,hd,lc]
    obtain⟨d2,cu,gZ,e2,dN⟩:=SC.swp (n:=n) (P:=fun x=>x=swp (swp d a pv) si sj) (x:=.cells (aJ eN ((swp d a pv).toList.set si (swp d a pv)[sj]!))) hd (by rw[swp_size];exact yC) rfl aq
    subst e2
    generalize ((H3.set c (.cells (aJ eN ((swp d a pv).toList.set si (swp d a pv)[sj]!)))).set c (.cells (aJ eN (swp (swp d a pv) si sj).toList)))=H5 at *
    refine W.cN 4 (fun (q:Nat×Nat) R H'=>At H' (fun H'=>SC c n H (fun di=>partLoop aX a q.1 q.2 di=r) H')∧R 0=.ax c 0 n 2∧R 1=.int .i64 a∧R 4=.fn 61 []∧R 12=.int .i64 q.1∧R 13=.int .i64 q.2∧a<q.1∧q.2<n∧q.1≤n) (fun q=>q.2+1-q.1) (si+1,sj-1)
     (fun R H'=>At H' (fun H'=>SC c n H (fun di=>di=r.2) H')∧R 0=.ax c 0 n 2∧R 1=.int .i64 a∧R 4=.fn 61 []∧R 13=.int .i64 r.1∧r.1<n) ⟨.i ⟨_,cu,gZ,hr.symm,dN⟩,?_,?_,?_,?_,?_,by simp only;omega,by simp only;omega,by simp only;omega⟩ ?_ ?_
    ·simp -implicitDefEqProofs only[op,ef,cl,sq,reduceIte,j2,j3,j4,j5,j6,j7,j8,j9,y1,S1,h0]
    ·simp -implicitDefEqProofs only[op,ef,cl,sq,reduceIte,j2,j3,j4,j5,j6,j7,j8,j9,y1,S1,h1]
    ·simp -implicitDefEqProofs only[op,ef,cl,sq,reduceIte,j2,j3,j4,j5,j6,j7,j8,j9,y1,S1,h4]
    ·simp -implicitDefEqProofs only[op,ef,cl,sq,reduceIte,j2,j3,j4,j5,j6,j7,j8,j9,y1,S1,aA]
    ·simp -implicitDefEqProofs only[op,ef,cl,sq,reduceIte,j2,j3,j4,j5,j6,j7,j8,j9,y1,S1,bg]
    ·rintro⟨i,j⟩ R H1 ⟨⟨di,hd,a6,hP,aq⟩,h0,h1,h4,aA,bg,FX,x8,iE⟩
     simp only at hP aA bg FX x8 iE ⊢
     simp -implicitDefEqProofs only[op,ef,cl,sq,reduceIte,j2,j3,j4,j5,j6,j7,j8,j9,y1,S1,h0,h1,h4,aA,bg]
     clear oU sg
     obtain⟨si,oU⟩:∃si,si=scanUp (fun x=>aX x di[a]!) di j i:=⟨_,rfl⟩
     refine W.cN 6 (fun (k:Nat) R H'=>At H' (fun H'=>H'[c]?=some (.cells (aJ eN di.toList))∧bh (fun x=>x=c) H H')∧R 0=.ax c 0 n 2∧R 1=.int .i64 a∧R 4=.fn 61 []∧R 12=.int .i64 k∧R 13=.int .i64 (j:Nat)∧i≤k∧k≤n∧scanUp (fun x=>aX x di[a]!) di (j) k=si) (fun k=>j+1-k) (i)
      (fun R H'=>At H' (fun H'=>H'[c]?=some (.cells (aJ eN di.toList))∧bh (fun x=>x=c) H H')∧R 0=.ax c 0 n 2∧R 1=.int .i64 a∧R 4=.fn 61 []∧R 12=.int .i64 si∧R 13=.int .i64 (j:Nat)∧i≤si∧si≤n) ⟨.i ⟨hd,aq⟩,h0,h1,h4,aA,bg,Nat.le_refl _,by omega,oU.symm⟩ ?_ ?_
     ·rintro k R H2⟨⟨hd,aq⟩,h0,h1,h4,aA,bg,qX,oN,hk⟩
      have lc:=aW hd
      by_cases eC:k≤j
      ·simp -implicitDefEqProofs (maxSteps:=1000000) (disch:=omega) only[aa,aM,aO,aP,aQ,aR,aS,wA,aZ,wS,aY,wM,S2,op,ef,cl,sq,reduceIte,j2,j3,j4,j5,j6,j7,j8,j9,y1,S1,h0,h1,h4,aA,bg,eC,hd,lc]
       refine kV _ _ _ _ _ _ _ (by simp -implicitDefEqProofs (maxSteps:=1000000) (disch:=omega) only[aa,aM,aO,aP,aQ,aR,aS,wA,aZ,wS,aY,wM,S2,op,ef,cl,sq,reduceIte,j2,j3,j4,j5,j6,j7,j8,j9,y1,S1,h0,h1,h4,aA,bg,eC,hd,lc]) ?_
       simp -implicitDefEqProofs (maxSteps:=1000000) (disch:=omega) only[aa,aM,aO,aP,aQ,aR,aS,wA,aZ,wS,aY,wM,S2,op,ef,cl,sq,reduceIte,j2,j3,j4,j5,j6,j7,j8,j9,y1,S1,cy,h0,h1,h4,aA,bg,eC,hd,lc,List.append_nil]
       refine ae _ _ _ _ _ _ _ _ (cd di[k]! di[a]! _) ?_
       rintro u H3⟨hu,hx⟩
       cases hu
       have hx:Ext H2 H3:=hx
       have hd:=hx.get hd
       have lc:=aW hd
       have aq:=aq.trans (ay (F:=fun _=>False) hx) (fun _ h=>h.elim)
       have cY:aX di[k]! di[a]! = decide (dz di[k]! di[a]!<0):=rfl
       by_cases c1:dz di[k]! di[a]!<0
       ·simp -implicitDefEqProofs (maxSteps:=1000000) (disch:=omega) only[aa,aM,aO,aP,aQ,aR,aS,wA,aZ,wS,aY,wM,S2,op,ef,cl,sq,reduceIte,j2,j3,j4,j5,j6,j7,j8,j9,y1,S1,h0,h1,h4,aA,bg,eC,c1]
        rw[scanUp,if_pos (fG (cn eC) (cY.trans (cn c1)))]at hk
        exact⟨k+1,by omega,.i ⟨hd,aq⟩,rfl,by omega,by omega,hk⟩
       ·simp -implicitDefEqProofs (maxSteps:=1000000) (disch:=omega) only[aa,aM,aO,aP,aQ,aR,aS,wA,aZ,wS,aY,wM,S2,op,ef,cl,sq,reduceIte,j2,j3,j4,j5,j6,j7,j8,j9,y1,S1,h0,h1,h4,aA,bg,eC,c1]
        rw[scanUp,if_neg (dJ (cY.trans (cf c1)))]at hk
        subst hk
        exact⟨.i ⟨hd,aq⟩,rfl,qX,oN⟩
      ·simp -implicitDefEqProofs only[op,ef,cl,sq,reduceIte,j2,j3,j4,j5,j6,j7,j8,j9,y1,S1,h0,h1,h4,aA,bg,eC]
       rw[scanUp,if_neg (dg (cf eC))]at hk
       subst hk
       exact⟨.i ⟨hd,aq⟩,rfl,qX,oN⟩
     ·rintro R H2⟨⟨hd,aq⟩,h0,h1,h4,aA,bg,yJ,F7⟩
      simp -implicitDefEqProofs only[op,ef,cl,sq,reduceIte,j2,j3,j4,j5,j6,j7,j8,j9,y1,S1,h0,h1,h4,aA,bg]
      obtain⟨sj,sg⟩:∃sj,sj=scanDown (fun x=>!aX x di[a]!) di si j:=⟨_,rfl⟩
      refine W.cN 8 (fun (k:Nat) R H'=>At H' (fun H'=>H'[c]?=some (.cells (aJ eN di.toList))∧bh (fun x=>x=c) H H')∧R 0=.ax c 0 n 2∧R 1=.int .i64 a∧R 4=.fn 61 []∧R 12=.int .i64 si∧R 13=.int .i64 k∧k≤j∧scanDown (fun x=>!aX x di[a]!) di si k=sj) (fun k=>k) (j)
       (fun R H'=>At H' (fun H'=>H'[c]?=some (.cells (aJ eN di.toList))∧bh (fun x=>x=c) H H')∧R 0=.ax c 0 n 2∧R 1=.int .i64 a∧R 4=.fn 61 []∧R 12=.int .i64 si∧R 13=.int .i64 sj∧sj≤j) ⟨.i ⟨hd,aq⟩,h0,h1,h4,aA,bg,Nat.le_refl _,sg.symm⟩ ?_ ?_
      ·rintro k R H3⟨⟨hd,aq⟩,h0,h1,h4,aA,bg,eC,hk⟩
       have lc:=aW hd
       rw[lj (by omega)]at hk
       by_cases bN:si≤k
       ·simp -implicitDefEqProofs (maxSteps:=1000000) (disch:=omega) only[aa,aM,aO,aP,aQ,aR,aS,wA,aZ,wS,aY,wM,S2,op,ef,cl,sq,reduceIte,j2,j3,j4,j5,j6,j7,j8,j9,y1,S1,h0,h1,h4,aA,bg,bN,hd,lc]
        refine kV _ _ _ _ _ _ _ (by simp -implicitDefEqProofs (maxSteps:=1000000) (disch:=omega) only[aa,aM,aO,aP,aQ,aR,aS,wA,aZ,wS,aY,wM,S2,op,ef,cl,sq,reduceIte,j2,j3,j4,j5,j6,j7,j8,j9,y1,S1,h0,h1,h4,aA,bg,bN,hd,lc]) ?_
        simp -implicitDefEqProofs (maxSteps:=1000000) (disch:=omega) only[aa,aM,aO,aP,aQ,aR,aS,wA,aZ,wS,aY,wM,S2,op,ef,cl,sq,reduceIte,j2,j3,j4,j5,j6,j7,j8,j9,y1,S1,cy,h0,h1,h4,aA,bg,bN,hd,lc,List.append_nil]
        refine ae _ _ _ _ _ _ _ _ (cd di[k]! di[a]! _) ?_
        rintro u H4⟨hu,hx⟩
        cases hu
        have hx:Ext H3 H4:=hx
        have hd:=hx.get hd
        have lc:=aW hd
        have aq:=aq.trans (ay (F:=fun _=>False) hx) (fun _ h=>h.elim)
        have cY:aX di[k]! di[a]! = decide (dz di[k]! di[a]!<0):=rfl
        by_cases c1:dz di[k]! di[a]!<0
        ·simp -implicitDefEqProofs (maxSteps:=1000000) (disch:=omega) only[aa,aM,aO,aP,aQ,aR,aS,wA,aZ,wS,aY,wM,S2,op,ef,cl,sq,reduceIte,j2,j3,j4,j5,j6,j7,j8,j9,y1,S1,h0,h1,h4,aA,bg,bN,c1]
         rw[if_neg (dJ (by rw[cY,cn c1];rfl))]at hk
         subst hk
         exact⟨.i ⟨hd,aq⟩,rfl,eC⟩
        ·simp -implicitDefEqProofs (maxSteps:=1000000) (disch:=omega) only[aa,aM,aO,aP,aQ,aR,aS,wA,aZ,wS,aY,wM,S2,op,ef,cl,sq,reduceIte,j2,j3,j4,j5,j6,j7,j8,j9,y1,S1,h0,h1,h4,aA,bg,bN,c1]
         rw[if_pos (fG (cn bN) (fg (cY.trans (cf c1))))]at hk
         exact⟨k-1,by omega,.i ⟨hd,aq⟩,rfl,by omega,hk⟩
       ·simp -implicitDefEqProofs only[op,ef,cl,sq,reduceIte,j2,j3,j4,j5,j6,j7,j8,j9,y1,S1,h0,h1,h4,aA,bg,bN]
        rw[if_neg (dg (cf bN))]at hk
        subst hk
        exact⟨.i ⟨hd,aq⟩,rfl,eC⟩
      ·rintro R H3⟨⟨hd,aq⟩,h0,h1,h4,aA,bg,F9⟩
       have lc:=aW hd
       rw[JO oU sg]at hP
       by_cases kg:sj<si
       ·rw[if_pos kg]at hP
        simp -implicitDefEqProofs only[op,ef,cl,sq,reduceIte,j2,j3,j4,j5,j6,j7,j8,j9,y1,S1,h0,h1,h4,aA,bg,kg]
        exact⟨.i ⟨di,hd,a6,by rw[←hP],aq⟩,by rw[←hP],by rw[←hP];simp only;omega⟩
       ·rw[if_neg kg,if_pos (by omega)]at hP
        simp -implicitDefEqProofs (maxSteps:=1000000) (disch:=omega) only[aa,aM,aO,aP,aQ,aR,aS,wA,aZ,wS,aY,wM,S2,op,ef,cl,sq,reduceIte,j2,j3,j4,j5,j6,j7,j8,j9,y1,S1,h0,h1,h4,aA,bg,kg,hd,lc]
        exact⟨(si+1,sj-1),by simp only;omega,.i (.swp hd (by rw[swp_size];exact a6) hP aq),rfl,rfl,by simp only;omega,by simp only;omega,by simp only;omega⟩
    ·rintro R H1⟨⟨di,hd,a6,rfl,aq⟩,h0,h1,h4,bg,Cr⟩
     have lc:=aW hd
     simp -implicitDefEqProofs (maxSteps:=1000000) (disch:=omega) only[aa,aM,aO,aP,aQ,aR,aS,wA,aZ,wS,aY,wM,S2,op,ef,cl,sq,reduceIte,j2,j3,j4,j5,j6,j7,j8,j9,y1,S1,h0,h1,h4,bg,hd,lc]
     exact .swp hd (by rw[swp_size];exact a6) rfl aq
set_option maxHeartbeats 8000000
open Go.Sort in
theorem shiftDown_eq {d:Array Nm}{k:Nat}(h:1≤k):shiftDown aX k d=if (!aX d[k]! d[k-1]!)=true then d else shiftDown aX (k-1) (swp d k (k-1)):=by
 cases k with
 | zero=>omega
 | succ k=>rw[shiftDown];rfl
open Go.Sort in
theorem Oo (c n:Nat)(d:Array Nm)(a b:Nat)(H:af)(hn:d.size=n)(hc:H[c]?=some (.cells (aJ eN d.toList)))(hb:b≤n)(gb:a<b)(hs:n<2305843009213693951) :
  W env (.call 137 [.ax c 0 n 2,.int .i64 a,.int .i64 b,.fn 61 []]) H (fun o H'=>o=.val (.bool (partialInsertionSort aX d a b).2)∧SC c n H (fun x=>x=(partialInsertionSort aX d a b).1) H'):=by
 refine W.bR rfl rfl rfl ?_
 obtain⟨r,hr⟩:∃r,r=partialInsertionSort aX d a b:=⟨_,rfl⟩
 rw[←hr]
 simp -implicitDefEqProofs (maxSteps:=1000000) (disch:=omega) only[Fl,aa,aM,aO,aP,aQ,aR,aS,wA,aZ,wS,aY,wM,S2,op,ef,cl,sq,reduceIte,j2,j3,j4,j5,j6,j7,j8,j9,y1,S1]
 refine W.cN 0 (fun (j:Nat) R H'=>At H' (fun H'=>∃i,R 9=.int .i64 (i:Nat)∧a<i∧i≤b∧SC c n H (fun di=>partialIns aX a b (5-j) i di=r) H')∧R 0=.ax c 0 n 2∧R 1=.int .i64 a∧R 2=.int .i64 b∧R 3=.fn 61 []∧R 10=.int .i64 j∧j≤5) (fun j=>5-j) 0
  (fun R H'=>At H' (fun H'=>SC c n H (fun di=>(di,false)=r) H')) ⟨.i ⟨a+1,rfl,by omega,by omega,d,hc,hn,hr.symm,bh.refl _ _⟩,rfl,rfl,rfl,rfl,rfl,by omega⟩ ?_ ?_
 ·rintro j R H1⟨⟨i,h9,FX,Zn,di,hd,a6,hP,aq⟩,h0,h1,h2,h3,aB,hj⟩
  by_cases Zo:j<5
  rotate_left
  ·have:j=5:=by omega
   subst this
   simp -implicitDefEqProofs only[op,ef,cl,sq,reduceIte,j2,j3,j4,j5,j6,j7,j8,j9,y1,S1,h0,h1,h2,h3,aB]
   exact .i ⟨di,hd,a6,hP,aq⟩
  obtain⟨s,Oq⟩:∃s,5-j=s+1:=⟨4-j,by omega⟩
  have uL:5-(j+1)=s:=by omega
  rw[Oq,partialIns]at hP
  simp -implicitDefEqProofs only[op,ef,cl,sq,reduceIte,j2,j3,j4,j5,j6,j7,j8,j9,y1,S1,h0,h1,h2,h3,aB,Zo]
  obtain⟨si,oU⟩:∃si,si=scanSorted aX di b i:=⟨_,rfl⟩
  rw[←oU]at hP
  refine W.cN 2 (fun (k:Nat) R H'=>At H' (fun H'=>H'[c]?=some (.cells (aJ eN di.toList))∧bh (fun x=>x=c) H H')∧R 0=.ax c 0 n 2∧R 1=.int .i64 a∧R 2=.int .i64 b∧R 3=.fn 61 []∧R 9=.int .i64 k∧R 10=.int .i64 j∧i≤k∧k≤b∧scanSorted aX di b k=si) (fun k=>b-k) i
   (fun R H'=>At H' (fun H'=>H'[c]?=some (.cells (aJ eN di.toList))∧bh (fun x=>x=c) H H')∧R 0=.ax c 0 n 2∧R 1=.int .i64 a∧R 2=.int .i64 b∧R 3=.fn 61 []∧R 9=.int .i64 si∧R 10=.int .i64 j∧i≤si∧si≤b) ⟨.i ⟨hd,aq⟩,?_,?_,?_,?_,?_,?_,Nat.le_refl _,Zn,oU.symm⟩ ?_ ?_
  ·simp -implicitDefEqProofs only[op,ef,cl,sq,reduceIte,j2,j3,j4,j5,j6,j7,j8,j9,y1,S1,h0]
  ·simp -implicitDefEqProofs only[op,ef,cl,sq,reduceIte,j2,j3,j4,j5,j6,j7,j8,j9,y1,S1,h1]
  ·simp -implicitDefEqProofs only[op,ef,cl,sq,reduceIte,j2,j3,j4,j5,j6,j7,j8,j9,y1,S1,h2]
  ·simp -implicitDefEqProofs only[op,ef,cl,sq,reduceIte,j2,j3,j4,j5,j6,j7,j8,j9,y1,S1,h3]
  ·simp -implicitDefEqProofs only[op,ef,cl,sq,reduceIte,j2,j3,j4,j5,j6,j7,j8,j9,y1,S1,h9]
  ·simp -implicitDefEqProofs only[op,ef,cl,sq,reduceIte,j2,j3,j4,j5,j6,j7,j8,j9,y1,S1,aB]
  ·rintro k R H2⟨⟨hd,aq⟩,h0,h1,h2,h3,h9,aB,qX,Be,hk⟩
   have lc:=aW hd
   by_cases bN:k<b
   ·simp -implicitDefEqProofs (maxSteps:=1000000) (disch:=omega) only[aa,aM,aO,aP,aQ,aR,aS,wA,aZ,wS,aY,wM,S2,op,ef,cl,sq,reduceIte,j2,j3,j4,j5,j6,j7,j8,j9,y1,S1,h0,h1,h2,h3,h9,aB,bN,hd,lc]
    refine kV _ _ _ _ _ _ _ (by simp -implicitDefEqProofs (maxSteps:=1000000) (disch:=omega) only[aa,aM,aO,aP,aQ,aR,aS,wA,aZ,wS,aY,wM,S2,op,ef,cl,sq,reduceIte,j2,j3,j4,j5,j6,j7,j8,j9,y1,S1,h0,h1,h2,h3,h9,aB,bN,hd,lc]) ?_
    simp -implicitDefEqProofs (maxSteps:=1000000) (disch:=omega) only[aa,aM,aO,aP,aQ,aR,aS,wA,aZ,wS,aY,wM,S2,op,ef,cl,sq,reduceIte,j2,j3,j4,j5,j6,j7,j8,j9,y1,S1,cy,h0,h1,h2,h3,h9,aB,bN,hd,lc,List.append_nil]
    refine ae _ _ _ _ _ _ _ _ (cd di[k]! di[k-1]! _) ?_
    rintro u H3⟨hu,hx⟩
    cases hu
    have hx:Ext H2 H3:=hx
    have hd:=hx.get hd
    have lc:=aW hd
    have aq:=aq.trans (ay (F:=fun _=>False) hx) (fun _ h=>h.elim)
    have cY:aX di[k]! di[k-1]! = decide (dz di[k]! di[k-1]!<0):=rfl
    by_cases c1:dz di[k]! di[k-1]!<0
    ·simp -implicitDefEqProofs (maxSteps:=1000000) (disch:=omega) only[aa,aM,aO,aP,aQ,aR,aS,wA,aZ,wS,aY,wM,S2,op,ef,cl,sq,reduceIte,j2,j3,j4,j5,j6,j7,j8,j9,y1,S1,h0,h1,h2,h3,h9,aB,bN,c1]
     rw[scanSorted,if_neg (dJ (by rw[cY,cn c1];rfl))]at hk
     subst hk
     exact⟨.i ⟨hd,aq⟩,rfl,qX,Be⟩
    ·simp -implicitDefEqProofs (maxSteps:=1000000) (disch:=omega) only[aa,aM,aO,aP,aQ,aR,aS,wA,aZ,wS,aY,wM,S2,op,ef,cl,sq,reduceIte,j2,j3,j4,j5,j6,j7,j8,j9,y1,S1,h0,h1,h2,h3,h9,aB,bN,c1]
     rw[scanSorted,if_pos (fG (cn bN) (fg (cY.trans (cf c1))))]at hk
     exact⟨k+1,by omega,.i ⟨hd,aq⟩,rfl,by omega,by omega,hk⟩
   ·simp -implicitDefEqProofs only[op,ef,cl,sq,reduceIte,j2,j3,j4,j5,j6,j7,j8,j9,y1,S1,h0,h1,h2,h3,h9,aB,bN]
    rw[scanSorted,if_neg (dg (cf bN))]at hk
    subst hk
    exact⟨.i ⟨hd,aq⟩,rfl,qX,Be⟩
  ·rintro R H2⟨⟨hd,aq⟩,h0,h1,h2,h3,h9,aB,yJ,Zp⟩
   have lc:=aW hd
   by_cases ko:si=b
   ·rw[if_pos ko]at hP
    have e1:((si:Int)==(b:Int))=true:=by rw[ko];simp
    simp -implicitDefEqProofs (maxSteps:=1000000) (disch:=omega) only[aa,aM,aO,aP,aQ,aR,aS,wA,aZ,wS,aY,wM,S2,op,ef,cl,sq,reduceIte,j2,j3,j4,j5,j6,j7,j8,j9,y1,S1,h0,h1,h2,h3,h9,aB,e1]
    rw[←hP]
    exact⟨rfl,di,hd,a6,rfl,aq⟩
   rw[if_neg ko]at hP
   have e1:((si:Int)==(b:Int))=false:=by simp;omega
   by_cases uK:b-a<50
   ·rw[if_pos uK]at hP
    simp -implicitDefEqProofs (maxSteps:=1000000) (disch:=omega) only[aa,aM,aO,aP,aQ,aR,aS,wA,aZ,wS,aY,wM,S2,op,ef,cl,sq,reduceIte,j2,j3,j4,j5,j6,j7,j8,j9,y1,S1,h0,h1,h2,h3,h9,aB,e1,uK]
    rw[←hP]
    exact⟨rfl,di,hd,a6,rfl,aq⟩
   rw[if_neg uK]at hP
   simp -implicitDefEqProofs (maxSteps:=1000000) (disch:=omega) only[aa,aM,aO,aP,aQ,aR,aS,wA,aZ,wS,aY,wM,S2,op,ef,cl,sq,reduceIte,j2,j3,j4,j5,j6,j7,j8,j9,y1,S1,h0,h1,h2,h3,h9,aB,e1,uK,hd,lc]
   obtain⟨d3,nL⟩:∃d3,d3=if si-a≥2 then shiftDown aX (si-1) (swp di si (si-1))else swp di si (si-1):=⟨_,rfl⟩
   obtain⟨d4,qY⟩:∃d4,d4=if b-si≥2 then shiftUp aX b (si+1) d3 else d3:=⟨_,rfl⟩
   have hP:partialIns aX a b s si d4=r:=by rw[qY,nL];exact hP
   obtain⟨d2,cu,gZ,e2,dN⟩:=SC.swp (n:=n) (P:=fun x=>x=swp di si (si-1)) (x:=.cells (aJ eN (di.toList.set si di[si-1]!))) hd (by rw[swp_size];exact a6) rfl aq
   subst e2
   generalize ((H2.set c (.cells (aJ eN (di.toList.set si di[si-1]!)))).set c (.cells (aJ eN (swp di si (si-1)).toList)))=H5 at *
   by_cases hA:2≤si-a
   ·rw[if_pos hA]at nL
    simp -implicitDefEqProofs (maxSteps:=1000000) (disch:=omega) only[aa,aM,aO,aP,aQ,aR,aS,wA,aZ,wS,aY,wM,S2,op,ef,cl,sq,reduceIte,j2,j3,j4,j5,j6,j7,j8,j9,y1,S1,h0,h1,h2,h3,h9,aB,hA]
    refine W.cN 4 (fun (k:Nat) R H'=>At H' (fun H'=>SC c n H (fun dx=>shiftDown aX k dx=d3) H')∧R 0=.ax c 0 n 2∧R 1=.int .i64 a∧R 2=.int .i64 b∧R 3=.fn 61 []∧R 9=.int .i64 si∧R 10=.int .i64 j∧R 11=.int .i64 k∧k<b) (fun k=>k) (si-1)
     (fun R H'=>At H' (fun H'=>SC c n H (fun dx=>dx=d3) H')∧R 0=.ax c 0 n 2∧R 1=.int .i64 a∧R 2=.int .i64 b∧R 3=.fn 61 []∧R 9=.int .i64 si∧R 10=.int .i64 j) ⟨.i ⟨_,cu,gZ,nL.symm,dN⟩,?_,?_,?_,?_,?_,?_,?_,by omega⟩ ?_ ?_
    ·simp -implicitDefEqProofs only[op,ef,cl,sq,reduceIte,j2,j3,j4,j5,j6,j7,j8,j9,y1,S1,h0]
    ·simp -implicitDefEqProofs only[op,ef,cl,sq,reduceIte,j2,j3,j4,j5,j6,j7,j8,j9,y1,S1,h1]
    ·simp -implicitDefEqProofs only[op,ef,cl,sq,reduceIte,j2,j3,j4,j5,j6,j7,j8,j9,y1,S1,h2]
    ·simp -implicitDefEqProofs only[op,ef,cl,sq,reduceIte,j2,j3,j4,j5,j6,j7,j8,j9,y1,S1,h3]
    ·simp -implicitDefEqProofs only[op,ef,cl,sq,reduceIte,j2,j3,j4,j5,j6,j7,j8,j9,y1,S1,h9]
    ·simp -implicitDefEqProofs only[op,ef,cl,sq,reduceIte,j2,j3,j4,j5,j6,j7,j8,j9,y1,S1,aB]
    ·simp -implicitDefEqProofs only[op,ef,cl,sq,reduceIte,j2,j3,j4,j5,j6,j7,j8,j9,y1,S1]
    ·rintro k R H2⟨⟨dx,hd,a6,hk,aq⟩,h0,h1,h2,h3,h9,aB,a0,Be⟩
     have lc:=aW hd
     by_cases om:1≤k
     ·simp -implicitDefEqProofs (maxSteps:=1000000) (disch:=omega) only[aa,aM,aO,aP,aQ,aR,aS,wA,aZ,wS,aY,wM,S2,op,ef,cl,sq,reduceIte,j2,j3,j4,j5,j6,j7,j8,j9,y1,S1,h0,h1,h2,h3,h9,aB,a0,om,hd,lc]
      refine kV _ _ _ _ _ _ _ (by simp -implicitDefEqProofs (maxSteps:=1000000) (disch:=omega) only[aa,aM,aO,aP,aQ,aR,aS,wA,aZ,wS,aY,wM,S2,op,ef,cl,sq,reduceIte,j2,j3,j4,j5,j6,j7,j8,j9,y1,S1,h0,h1,h2,h3,h9,aB,a0,om,hd,lc]) ?_
      simp -implicitDefEqProofs (maxSteps:=1000000) (disch:=omega) only[aa,aM,aO,aP,aQ,aR,aS,wA,aZ,wS,aY,wM,S2,op,ef,cl,sq,reduceIte,j2,j3,j4,j5,j6,j7,j8,j9,y1,S1,cy,h0,h1,h2,h3,h9,aB,a0,om,hd,lc,List.append_nil]
      refine ae _ _ _ _ _ _ _ _ (cd dx[k]! dx[k-1]! _) ?_
      rintro u H3⟨hu,hx⟩
      cases hu
      have hx:Ext H2 H3:=hx
      have hd:=hx.get hd
      have lc:=aW hd
      have aq:=aq.trans (ay (F:=fun _=>False) hx) (fun _ h=>h.elim)
      have cY:aX dx[k]! dx[k-1]! = decide (dz dx[k]! dx[k-1]!<0):=rfl
      rw[shiftDown_eq om]at hk
      by_cases c1:dz dx[k]! dx[k-1]!<0
      ·simp -implicitDefEqProofs (maxSteps:=1000000) (disch:=omega) only[aa,aM,aO,aP,aQ,aR,aS,wA,aZ,wS,aY,wM,S2,op,ef,cl,sq,reduceIte,j2,j3,j4,j5,j6,j7,j8,j9,y1,S1,h0,h1,h2,h3,h9,aB,a0,om,hd,lc,c1]
       rw[if_neg (jX (cY.trans (cn c1)))]at hk
       exact⟨k-1,by omega,.i (.swp hd (by rw[swp_size];exact a6) hk aq),rfl,by omega⟩
      ·simp -implicitDefEqProofs (maxSteps:=1000000) (disch:=omega) only[aa,aM,aO,aP,aQ,aR,aS,wA,aZ,wS,aY,wM,S2,op,ef,cl,sq,reduceIte,j2,j3,j4,j5,j6,j7,j8,j9,y1,S1,h0,h1,h2,h3,h9,aB,a0,om,hd,lc,c1]
       rw[if_pos (fg (cY.trans (cf c1)))]at hk
       exact .i ⟨dx,hd,a6,hk,aq⟩
     ·have Qs:k=0:=by omega
      subst Qs
      simp -implicitDefEqProofs only[op,ef,cl,sq,reduceIte,j2,j3,j4,j5,j6,j7,j8,j9,y1,S1,h0,h1,h2,h3,h9,aB,a0,om]
      rw[shiftDown]at hk
      exact .i ⟨dx,hd,a6,hk,aq⟩
    ·rintro R H2⟨⟨dx,hd,oV,rfl,aq⟩,h0,h1,h2,h3,h9,aB⟩
     have lc:=aW hd
     by_cases hB:2≤b-si
     ·simp -implicitDefEqProofs (maxSteps:=1000000) (disch:=omega) only[aa,aM,aO,aP,aQ,aR,aS,wA,aZ,wS,aY,wM,S2,op,ef,cl,sq,reduceIte,j2,j3,j4,j5,j6,j7,j8,j9,y1,S1,h0,h1,h2,h3,h9,aB,hB]
      rw[if_pos hB]at qY
      refine W.cN 6 (fun (k:Nat) R H'=>At H' (fun H'=>SC c n H (fun dx=>shiftUp aX b k dx=d4) H')∧R 0=.ax c 0 n 2∧R 1=.int .i64 a∧R 2=.int .i64 b∧R 3=.fn 61 []∧R 9=.int .i64 si∧R 10=.int .i64 j∧R 12=.int .i64 k∧1≤k∧k≤b) (fun k=>b-k) (si+1)
       (fun R H'=>At H' (fun H'=>SC c n H (fun dx=>dx=d4) H')∧R 0=.ax c 0 n 2∧R 1=.int .i64 a∧R 2=.int .i64 b∧R 3=.fn 61 []∧R 9=.int .i64 si∧R 10=.int .i64 j) ⟨.i ⟨dx,hd,oV,qY.symm,aq⟩,?_,?_,?_,?_,?_,?_,?_,by omega,by omega⟩ ?_ ?_
      ·simp -implicitDefEqProofs only[op,ef,cl,sq,reduceIte,j2,j3,j4,j5,j6,j7,j8,j9,y1,S1,h0]
      ·simp -implicitDefEqProofs only[op,ef,cl,sq,reduceIte,j2,j3,j4,j5,j6,j7,j8,j9,y1,S1,h1]
      ·simp -implicitDefEqProofs only[op,ef,cl,sq,reduceIte,j2,j3,j4,j5,j6,j7,j8,j9,y1,S1,h2]
      ·simp -implicitDefEqProofs only[op,ef,cl,sq,reduceIte,j2,j3,j4,j5,j6,j7,j8,j9,y1,S1,h3]
      ·simp -implicitDefEqProofs only[op,ef,cl,sq,reduceIte,j2,j3,j4,j5,j6,j7,j8,j9,y1,S1,h9]
      ·simp -implicitDefEqProofs only[op,ef,cl,sq,reduceIte,j2,j3,j4,j5,j6,j7,j8,j9,y1,S1,aB]
      ·simp -implicitDefEqProofs only[op,ef,cl,sq,reduceIte,j2,j3,j4,j5,j6,j7,j8,j9,y1,S1]
      ·rintro k R H2⟨⟨dx,hd,a6,hk,aq⟩,h0,h1,h2,h3,h9,aB,aA,om,Be⟩
       have lc:=aW hd
       by_cases bN:k<b
       ·simp -implicitDefEqProofs (maxSteps:=1000000) (disch:=omega) only[aa,aM,aO,aP,aQ,aR,aS,wA,aZ,wS,aY,wM,S2,op,ef,cl,sq,reduceIte,j2,j3,j4,j5,j6,j7,j8,j9,y1,S1,h0,h1,h2,h3,h9,aB,aA,bN,hd,lc]
        refine kV _ _ _ _ _ _ _ (by simp -implicitDefEqProofs (maxSteps:=1000000) (disch:=omega) only[aa,aM,aO,aP,aQ,aR,aS,wA,aZ,wS,aY,wM,S2,op,ef,cl,sq,reduceIte,j2,j3,j4,j5,j6,j7,j8,j9,y1,S1,h0,h1,h2,h3,h9,aB,aA,bN,hd,lc]) ?_
        simp -implicitDefEqProofs (maxSteps:=1000000) (disch:=omega) only[aa,aM,aO,aP,aQ,aR,aS,wA,aZ,wS,aY,wM,S2,op,ef,cl,sq,reduceIte,j2,j3,j4,j5,j6,j7,j8,j9,y1,S1,cy,h0,h1,h2,h3,h9,aB,aA,bN,hd,lc,List.append_nil]
        refine ae _ _ _ _ _ _ _ _ (cd dx[k]! dx[k-1]! _) ?_
        rintro u H3⟨hu,hx⟩
        cases hu
        have hx:Ext H2 H3:=hx
        have hd:=hx.get hd
        have lc:=aW hd
        have aq:=aq.trans (ay (F:=fun _=>False) hx) (fun _ h=>h.elim)
        have cY:aX dx[k]! dx[k-1]! = decide (dz dx[k]! dx[k-1]!<0):=rfl
        rw[shiftUp,if_pos bN]at hk
        by_cases c1:dz dx[k]! dx[k-1]!<0
        ·simp -implicitDefEqProofs (maxSteps:=1000000) (disch:=omega) only[aa,aM,aO,aP,aQ,aR,aS,wA,aZ,wS,aY,wM,S2,op,ef,cl,sq,reduceIte,j2,j3,j4,j5,j6,j7,j8,j9,y1,S1,h0,h1,h2,h3,h9,aB,aA,bN,hd,lc,c1]
         rw[if_neg (jX (cY.trans (cn c1)))]at hk
         exact⟨k+1,by omega,.i (.swp hd (by rw[swp_size];exact a6) hk aq),rfl,by omega,by omega⟩
        ·simp -implicitDefEqProofs (maxSteps:=1000000) (disch:=omega) only[aa,aM,aO,aP,aQ,aR,aS,wA,aZ,wS,aY,wM,S2,op,ef,cl,sq,reduceIte,j2,j3,j4,j5,j6,j7,j8,j9,y1,S1,h0,h1,h2,h3,h9,aB,aA,bN,hd,lc,c1]
         rw[if_pos (fg (cY.trans (cf c1)))]at hk
         exact .i ⟨dx,hd,a6,hk,aq⟩
       ·simp -implicitDefEqProofs only[op,ef,cl,sq,reduceIte,j2,j3,j4,j5,j6,j7,j8,j9,y1,S1,h0,h1,h2,h3,h9,aB,aA,bN]
        rw[shiftUp,if_neg bN]at hk
        exact .i ⟨dx,hd,a6,hk,aq⟩
      ·rintro R H2⟨⟨dx,hd,a6,rfl,aq⟩,h0,h1,h2,h3,h9,aB⟩
       simp -implicitDefEqProofs (maxSteps:=1000000) (disch:=omega) only[aa,aM,aO,aP,aQ,aR,aS,wA,aZ,wS,aY,wM,S2,op,ef,cl,sq,reduceIte,j2,j3,j4,j5,j6,j7,j8,j9,y1,S1,h0,h1,h2,h3,h9,aB]
       exact⟨j+1,by omega,.i ⟨si,rfl,by omega,by omega,dx,hd,a6,by rw[uL];exact hP,aq⟩,rfl,by omega⟩
     ·rw[if_neg hB]at qY
      subst qY
      simp -implicitDefEqProofs (maxSteps:=1000000) (disch:=omega) only[aa,aM,aO,aP,aQ,aR,aS,wA,aZ,wS,aY,wM,S2,op,ef,cl,sq,reduceIte,j2,j3,j4,j5,j6,j7,j8,j9,y1,S1,h0,h1,h2,h3,h9,aB,hB]
      exact⟨j+1,by omega,.i ⟨si,rfl,by omega,by omega,d4,hd,oV,by rw[uL];exact hP,aq⟩,rfl,by omega⟩
   ·rw[if_neg hA]at nL
    simp -implicitDefEqProofs (maxSteps:=1000000) (disch:=omega) only[aa,aM,aO,aP,aQ,aR,aS,wA,aZ,wS,aY,wM,S2,op,ef,cl,sq,reduceIte,j2,j3,j4,j5,j6,j7,j8,j9,y1,S1,h0,h1,h2,h3,h9,aB,hA]
    have hd:=cu
    have oV:=gZ
    have aq:=dN
    rw[←nL]at hd oV
    by_cases hB:2≤b-si
    ·simp -implicitDefEqProofs (maxSteps:=1000000) (disch:=omega) only[aa,aM,aO,aP,aQ,aR,aS,wA,aZ,wS,aY,wM,S2,op,ef,cl,sq,reduceIte,j2,j3,j4,j5,j6,j7,j8,j9,y1,S1,h0,h1,h2,h3,h9,aB,hB]
     rw[if_pos hB]at qY
     refine W.cN 6 (fun (k:Nat) R H'=>At H' (fun H'=>SC c n H (fun dx=>shiftUp aX b k dx=d4) H')∧R 0=.ax c 0 n 2∧R 1=.int .i64 a∧R 2=.int .i64 b∧R 3=.fn 61 []∧R 9=.int .i64 si∧R 10=.int .i64 j∧R 12=.int .i64 k∧1≤k∧k≤b) (fun k=>b-k) (si+1)
      (fun R H'=>At H' (fun H'=>SC c n H (fun dx=>dx=d4) H')∧R 0=.ax c 0 n 2∧R 1=.int .i64 a∧R 2=.int .i64 b∧R 3=.fn 61 []∧R 9=.int .i64 si∧R 10=.int .i64 j) ⟨.i ⟨d3,hd,oV,qY.symm,aq⟩,?_,?_,?_,?_,?_,?_,?_,by omega,by omega⟩ ?_ ?_
     ·simp -implicitDefEqProofs only[op,ef,cl,sq,reduceIte,j2,j3,j4,j5,j6,j7,j8,j9,y1,S1,h0]
     ·simp -implicitDefEqProofs only[op,ef,cl,sq,reduceIte,j2,j3,j4,j5,j6,j7,j8,j9,y1,S1,h1]
     ·simp -implicitDefEqProofs only[op,ef,cl,sq,reduceIte,j2,j3,j4,j5,j6,j7,j8,j9,y1,S1,h2]
     ·simp -implicitDefEqProofs only[op,ef,cl,sq,reduceIte,j2,j3,j4,j5,j6,j7,j8,j9,y1,S1,h3]
     ·simp -implicitDefEqProofs only[op,ef,cl,sq,reduceIte,j2,j3,j4,j5,j6,j7,j8,j9,y1,S1,h9]
     ·simp -implicitDefEqProofs only[op,ef,cl,sq,reduceIte,j2,j3,j4,j5,j6,j7,j8,j9,y1,S1,aB]
     ·simp -implicitDefEqProofs only[op,ef,cl,sq,reduceIte,j2,j3,j4,j5,j6,j7,j8,j9,y1,S1]
     ·rintro k R H2⟨⟨dx,hd,a6,hk,aq⟩,h0,h1,h2,h3,h9,aB,aA,om,Be⟩
      have lc:=aW hd
      by_cases bN:k<b
      ·simp -implicitDefEqProofs (maxSteps:=1000000) (disch:=omega) only[aa,aM,aO,aP,aQ,aR,aS,wA,aZ,wS,aY,wM,S2,op,ef,cl,sq,reduceIte,j2,j3,j4,j5,j6,j7,j8,j9,y1,S1,h0,h1,h2,h3,h9,aB,aA,bN,hd,lc]
       refine kV _ _ _ _ _ _ _ (by simp -implicitDefEqProofs (maxSteps:=1000000) (disch:=omega) only[aa,aM,aO,aP,aQ,aR,aS,wA,aZ,wS,aY,wM,S2,op,ef,cl,sq,reduceIte,j2,j3,j4,j5,j6,j7,j8,j9,y1,S1,h0,h1,h2,h3,h9,aB,aA,bN,hd,lc]) ?_
       simp -implicitDefEqProofs (maxSteps:=1000000) (disch:=omega) only[aa,aM,aO,aP,aQ,aR,aS,wA,aZ,wS,aY,wM,S2,op,ef,cl,sq,reduceIte,j2,j3,j4,j5,j6,j7,j8,j9,y1,S1,cy,h0,h1,h2,h3,h9,aB,aA,bN,hd,lc,List.append_nil]
       refine ae _ _ _ _ _ _ _ _ (cd dx[k]! dx[k-1]! _) ?_
       rintro u H3⟨hu,hx⟩
       cases hu
       have hx:Ext H2 H3:=hx
       have hd:=hx.get hd
       have lc:=aW hd
       have aq:=aq.trans (ay (F:=fun _=>False) hx) (fun _ h=>h.elim)
       have cY:aX dx[k]! dx[k-1]! = decide (dz dx[k]! dx[k-1]!<0):=rfl
       rw[shiftUp,if_pos bN]at hk
       by_cases c1:dz dx[k]! dx[k-1]!<0
       ·simp -implicitDefEqProofs (maxSteps:=1000000) (disch:=omega) only[aa,aM,aO,aP,aQ,aR,aS,wA,aZ,wS,aY,wM,S2,op,ef,cl,sq,reduceIte,j2,j3,j4,j5,j6,j7,j8,j9,y1,S1,h0,h1,h2,h3,h9,aB,aA,bN,hd,lc,c1]
        rw[if_neg (jX (cY.trans (cn c1)))]at hk
        exact⟨k+1,by omega,.i (.swp hd (by rw[swp_size];exact a6) hk aq),rfl,by omega,by omega⟩
       ·simp -implicitDefEqProofs (maxSteps:=1000000) (disch:=omega) only[aa,aM,aO,aP,aQ,aR,aS,wA,aZ,wS,aY,wM,S2,op,ef,cl,sq,reduceIte,j2,j3,j4,j5,j6,j7,j8,j9,y1,S1,h0,h1,h2,h3,h9,aB,aA,bN,hd,lc,c1]
        rw[if_pos (fg (cY.trans (cf c1)))]at hk
        exact .i ⟨dx,hd,a6,hk,aq⟩
      ·simp -implicitDefEqProofs only[op,ef,cl,sq,reduceIte,j2,j3,j4,j5,j6,j7,j8,j9,y1,S1,h0,h1,h2,h3,h9,aB,aA,bN]
       rw[shiftUp,if_neg bN]at hk
       exact .i ⟨dx,hd,a6,hk,aq⟩
     ·rintro R H2⟨⟨dx,hd,a6,rfl,aq⟩,h0,h1,h2,h3,h9,aB⟩
      simp -implicitDefEqProofs (maxSteps:=1000000) (disch:=omega) only[aa,aM,aO,aP,aQ,aR,aS,wA,aZ,wS,aY,wM,S2,op,ef,cl,sq,reduceIte,j2,j3,j4,j5,j6,j7,j8,j9,y1,S1,h0,h1,h2,h3,h9,aB]
      exact⟨j+1,by omega,.i ⟨si,rfl,by omega,by omega,dx,hd,a6,by rw[uL];exact hP,aq⟩,rfl,by omega⟩
    ·rw[if_neg hB]at qY
     subst qY
     simp -implicitDefEqProofs (maxSteps:=1000000) (disch:=omega) only[aa,aM,aO,aP,aQ,aR,aS,wA,aZ,wS,aY,wM,S2,op,ef,cl,sq,reduceIte,j2,j3,j4,j5,j6,j7,j8,j9,y1,S1,h0,h1,h2,h3,h9,aB,hB]
     exact⟨j+1,by omega,.i ⟨si,rfl,by omega,by omega,d4,hd,oV,by rw[uL];exact hP,aq⟩,rfl,by omega⟩
 ·rintro R H1⟨di,hd,a6,hP,aq⟩
  simp -implicitDefEqProofs only[op,ef,cl,sq,reduceIte,j2,j3,j4,j5,j6,j7,j8,j9,y1,S1]
  rw[←hP]
  exact⟨rfl,di,hd,a6,rfl,aq⟩
theorem nN (a b:Nm):aX a b=true↔strLt a.1 b.1=true∨(a.1=b.1∧a.2<b.2):=by
 unfold aX dz PN BH BI
 rw[decide_eq_true_eq]
 cases h1:strLt a.1 b.1
 ·cases h2:strLt b.1 a.1
  ·have e:=qJ h1 h2
   simp -implicitDefEqProofs only[Bool.false_eq_true,if_false,if_true,false_or,e,true_and]
   split
   ·simp[*]
   ·split<;>simp[*]
  ·have bG:a.1≠b.1:=by intro e;rw[e,fc]at h2;cases h2
   simp[bG]
 ·simp
theorem lK (a:Nm):aX a a=false:=by
 cases h:aX a a with
 | false=>rfl
 | true=>rcases(nN a a).1 h with h|h;rw[fc]at h;cases h;omega
theorem lL {a b c:Nm}(h1:aX a b=true)(h2:aX b c=true):aX a c=true:=by
 rw[nN]at h1 h2 ⊢
 rcases h1 with h1|⟨e1,h1⟩<;>rcases h2 with h2|⟨e2,h2⟩
 ·exact .inl (et h1 h2)
 ·exact .inl (e2▸h1)
 ·exact .inl (e1▸h2)
 ·exact .inr ⟨e1.trans e2,by omega⟩
theorem Al {a b:Nm}(h1:aX a b=false)(h2:aX b a=false):a=b:=by
 have n1:¬(strLt a.1 b.1=true∨(a.1=b.1∧a.2<b.2)):=fun h=>by rw[(nN a b).2 h]at h1;cases h1
 have n2:¬(strLt b.1 a.1=true∨(b.1=a.1∧b.2<a.2)):=fun h=>by rw[(nN b a).2 h]at h2;cases h2
 have e1:a.1=b.1:=qJ (by cases h:strLt a.1 b.1 with|false=>rfl|true=>exact absurd (.inl h) n1) (by cases h:strLt b.1 a.1 with|false=>rfl|true=>exact absurd (.inl h) n2)
 have q1:¬a.2<b.2:=fun h=>n1 (.inr ⟨e1,h⟩)
 have q2:¬b.2<a.2:=fun h=>n2 (.inr ⟨e1.symm,h⟩)
 exact Prod.ext e1 (by omega)
theorem pX:Go.Sort.SWO aX where
 irrefl:=lK
 trans _ _ _ h1 h2:=lL h1 h2
 ntrans x y z h1 h2:=by
  cases h:aX x z with
  | false=>rfl
  | true =>
   cases h3:aX y x with
   | true=>rw[lL h3 h]at h2;cases h2
   | false=>have:=Al h1 h3;subst this;rw[h]at h2;cases h2
theorem Ot (H:af):W env (.call 132 [.sl .nil [],.int .i64 0,.int .i64 0,.fn 61 []]) H (mY (.bF []) H):=by
 refine W.bR rfl rfl rfl ?_
 have wa:IntKind.i64.wrap ((0:Int)+1)=1:=by decide
 simp -implicitDefEqProofs only[Aa,op,ef,cl,sq,reduceIte,j2,j3,j4,j5,j6,j7,j8,j9,y1,S1,wa]
 refine W.cG (fun (_:Nat) R H'=>H'=H∧R 2=.int .i64 0∧R 8=.int .i64 1) (fun _=>0) 0 ⟨rfl,rfl,rfl⟩ ?_
 rintro _ R _⟨rfl,h2,h8⟩
 have l0:¬((1:Int)<0):=by decide
 simp -implicitDefEqProofs only[op,ef,cl,sq,reduceIte,j2,j3,j4,j5,j6,j7,j8,j9,y1,S1,h2,h8,l0]
 trivial
theorem Zq (m:Nat)(H:af):W env (.call 117 [.sl .nil [],.int .i64 0,.int .i64 0,.int .i64 m,.fn 61 []]) H (mY (.bF []) H):=by
 refine W.bR rfl rfl rfl ?_
 have w1:IntKind.i64.wrap ((0:Int)-0)=0:=by decide
 simp -implicitDefEqProofs only[ew,op,ef,cl,sq,reduceIte,j2,j3,j4,j5,j6,j7,j8,j9,y1,S1]
 refine W.cG (fun (_:Nat) R H'=>H'=H∧R 0=.sl .nil []∧R 1=.int .i64 0∧R 2=.int .i64 0∧R 4=.fn 61 []) (fun _=>0) 0 ⟨rfl,rfl,rfl,rfl,rfl⟩ ?_
 rintro _ R _⟨rfl,h0,h1,h2,h4⟩
 have l0:(0:Int)≤12:=by decide
 simp -implicitDefEqProofs only[op,ef,cl,sq,reduceIte,j2,j3,j4,j5,j6,j7,j8,j9,y1,S1,h0,h1,h2,h4,w1,l0]
 refine ae _ _ _ _ _ _ _ _ (Ot _) ?_
 rintro u H2⟨hu,rfl⟩
 cases hu
 simp -implicitDefEqProofs only[op,ef,cl,sq,reduceIte,j2,j3,j4,j5,j6,j7,j8,j9,y1,S1]
 trivial
theorem Tf (H:af):W env (.call 93 [.sl .nil [],.fn 61 []]) H (mY (.bF []) H):=by
 refine W.bR rfl rfl rfl ?_
 have w1:IntKind.u64.wrap ((0:Nat):Int)=((0:Nat):Int):=by decide
 have e0:((0:Nat):Int)=0:=rfl
 simp -implicitDefEqProofs only[Jt,op,ef,cl,sq,reduceIte,j2,j3,j4,j5,j6,j7,j8,j9,y1,S1,w1]
 refine ae _ _ _ _ _ _ _ _ (S0 0 (by omega) _) ?_
 rintro u H1⟨rfl,m,hu⟩
 cases hu
 simp -implicitDefEqProofs only[op,ef,cl,sq,reduceIte,j2,j3,j4,j5,j6,j7,j8,j9,y1,S1,e0]
 refine ae _ _ _ _ _ _ _ _ (Zq m _) ?_
 rintro u H2⟨hu,rfl⟩
 cases hu
 simp -implicitDefEqProofs only[op,ef,cl,sq,reduceIte,j2,j3,j4,j5,j6,j7,j8,j9,y1,S1]
 trivial
def Tg (es:List (Nm×T))(H:af):Out→af→Prop:=fun o H'=>Ext H H'∧∃t l,o=.val t∧pc eN 2 H.length H' t l∧l.Perm (es.map (·.1))∧l.Pairwise (fun a b=>aX a b=true)
set_option maxHeartbeats 8000000
def cZ:C→Nat→Option C
 | .block id a,n=>if id=n then some a else cZ a n
 | .seq a b,n=>match cZ a n with|some c=>some c | .none=>cZ b n
 | .cond _ a b,n=>match cZ a n with|some c=>some c | .none=>cZ b n
 | .loop a,n=>cZ a n
 | _,_=>.none
def eD:C→Nat→C
 | .seq a _,0=>a
 | .seq _ b,k+1=>eD b k
 | c,_=>c
structure PR (R:ar)(c n a b b8:Nat)(wb wp:Bool):Prop where
 r0:R 0=.ax c 0 n 2
 r1:R 1=.int .i64 a
 r2:R 2=.int .i64 b
 r3:R 3=.int .i64 b8
 r4:R 4=.fn 61 []
 Zr:R 10=.bool wb
 Zs:R 11=.bool wp
 Th:R 12=.int .i64 (b-a:Nat)
open Go.Sort in
theorem Zt (A:C)(hA:(cZ ew.body 1).map (eD · 3)=some A)(c n a b b8:Nat)(wb wp:Bool)(d:Array Nm)(R:ar)(H0 H:af)(K:Out→af→Prop)(hp:PR R c n a b b8 wb wp)(hd:SC c n H0 (fun x=>x=d) H)(hb:b≤n)(gb:a+12<b)(hs:n<16777216)(hl:1≤b8∧b8<1000)
  (rest:∀R' H',PR R' c n a b (if (!wb)=true then b8-1 else b8) wb wp→SC c n H0 (fun x=>x=if (!wb)=true then breakPatterns d a b else d) H'→K (.ex .normal R') H'):eF env A R H K:=by
 simp[ew,cZ,eD,sq]at hA
 subst hA
 obtain⟨h0,h1,h2,h3,h4,aB,a0,aA⟩:=hp
 obtain⟨di,hc,hn,rfl,aq⟩:=hd
 cases wb with
 | true =>
  simp -implicitDefEqProofs (maxSteps:=1000000) (disch:=omega) only[op,ef,cl,sq,reduceIte,j2,j3,j4,j5,j6,j7,j8,j9,y1,S1,h0,h1,h2,h3,h4,aB,a0,aA]
  exact rest _ _ ⟨by simp -implicitDefEqProofs only[op,ef,cl,sq,reduceIte,j2,j3,j4,j5,j6,j7,j8,j9,y1,S1,h0],by simp -implicitDefEqProofs only[op,ef,cl,sq,reduceIte,j2,j3,j4,j5,j6,j7,j8,j9,y1,S1,h1],by simp -implicitDefEqProofs only[op,ef,cl,sq,reduceIte,j2,j3,j4,j5,j6,j7,j8,j9,y1,S1,h2],by simp -implicitDefEqProofs only[op,ef,cl,sq,reduceIte,j2,j3,j4,j5,j6,j7,j8,j9,y1,S1,h3],by simp -implicitDefEqProofs only[op,ef,cl,sq,reduceIte,j2,j3,j4,j5,j6,j7,j8,j9,y1,S1,h4],by simp -implicitDefEqProofs only[op,ef,cl,sq,reduceIte,j2,j3,j4,j5,j6,j7,j8,j9,y1,S1,aB],by simp -implicitDefEqProofs only[op,ef,cl,sq,reduceIte,j2,j3,j4,j5,j6,j7,j8,j9,y1,S1,a0],by simp -implicitDefEqProofs only[op,ef,cl,sq,reduceIte,j2,j3,j4,j5,j6,j7,j8,j9,y1,S1,aA]⟩ ⟨di,hc,hn,rfl,aq⟩
 | false =>
  simp -implicitDefEqProofs (maxSteps:=1000000) (disch:=omega) only[op,ef,cl,sq,reduceIte,j2,j3,j4,j5,j6,j7,j8,j9,y1,S1,h0,h1,h2,h3,h4,aB,a0,aA]
  refine ae _ _ _ _ _ _ _ _ (JL c n di a b _ hn hc hb gb hs) ?_
  rintro u H2⟨hu,d2,cu,gZ,e2,dN⟩
  cases hu
  simp -implicitDefEqProofs (maxSteps:=1000000) (disch:=omega) only[aa,aM,aO,aP,aQ,aR,aS,wA,aZ,wS,aY,wM,S2,op,ef,cl,sq,reduceIte,j2,j3,j4,j5,j6,j7,j8,j9,y1,S1,h0,h1,h2,h3,h4,aB,a0,aA]
  exact rest _ _ ⟨by simp -implicitDefEqProofs only[op,ef,cl,sq,reduceIte,j2,j3,j4,j5,j6,j7,j8,j9,y1,S1,h0],by simp -implicitDefEqProofs only[op,ef,cl,sq,reduceIte,j2,j3,j4,j5,j6,j7,j8,j9,y1,S1,h1],by simp -implicitDefEqProofs only[op,ef,cl,sq,reduceIte,j2,j3,j4,j5,j6,j7,j8,j9,y1,S1,h2],by simp -implicitDefEqProofs only[op,ef,cl,sq,reduceIte,j2,j3,j4,j5,j6,j7,j8,j9,y1,S1],by simp -implicitDefEqProofs only[op,ef,cl,sq,reduceIte,j2,j3,j4,j5,j6,j7,j8,j9,y1,S1,h4],by simp -implicitDefEqProofs only[op,ef,cl,sq,reduceIte,j2,j3,j4,j5,j6,j7,j8,j9,y1,S1,aB],by simp -implicitDefEqProofs only[op,ef,cl,sq,reduceIte,j2,j3,j4,j5,j6,j7,j8,j9,y1,S1,a0],by simp -implicitDefEqProofs only[op,ef,cl,sq,reduceIte,j2,j3,j4,j5,j6,j7,j8,j9,y1,S1,aA]⟩ ⟨d2,cu,gZ,e2,aq.trans dN fun _ h=>.inl h⟩
open Go.Sort in
theorem Zu (A:C)(hA:(cZ ew.body 1).map (eD · 5)=some A)(c n a b b8:Nat)(wb wp:Bool)(d:Array Nm)(pv:Nat)(hi:Hint)(R:ar)(H0 H:af)(K:Out→af→Prop)(hp:PR R c n a b b8 wb wp)(bg:R 13=.int .i64 pv)(mN:R 14=.int .i64 (gy hi))(hd:SC c n H0 (fun x=>x=d) H)(hb:b≤n)(gb:a+12<b)(hs:n<16777216)(l3:a≤pv∧pv<b)
  (rest:∀R' H',PR R' c n a b b8 wb wp→R' 13=.int .i64 (if hi=.decreasing then(b-1)-(pv-a)else pv:Nat)→R' 14=.int .i64 (gy (if hi=.decreasing then Hint.increasing else hi))→SC c n H0 (fun x=>x=if hi=.decreasing then reverseRange d a b else d) H'→K (.ex .normal R') H'):eF env A R H K:=by
 simp[ew,cZ,eD,sq]at hA
 subst hA
 obtain⟨h0,h1,h2,h3,h4,aB,a0,aA⟩:=hp
 obtain⟨di,hc,hn,rfl,aq⟩:=hd
 have e:((gy hi)==2)=decide (hi=.decreasing):=by cases hi<;>decide
 by_cases hh:hi=.decreasing
 ·rw[decide_eq_true hh]at e
  simp -implicitDefEqProofs (maxSteps:=1000000) (disch:=omega) only[op,ef,cl,sq,reduceIte,j2,j3,j4,j5,j6,j7,j8,j9,y1,S1,h0,h1,h2,h3,h4,aB,a0,aA,bg,mN,e]
  refine ae _ _ _ _ _ _ _ _ (S4 c n di a b _ hn hc hb (by omega) (by omega)) ?_
  rintro u H2⟨hu,d2,cu,gZ,e2,dN⟩
  cases hu
  simp -implicitDefEqProofs (maxSteps:=1000000) (disch:=omega) only[aa,aM,aO,aP,aQ,aR,aS,wA,aZ,wS,aY,wM,S2,op,ef,cl,sq,reduceIte,j2,j3,j4,j5,j6,j7,j8,j9,y1,S1,h0,h1,h2,h3,h4,aB,a0,aA,bg,mN]
  refine rest _ _ ⟨?_,?_,?_,?_,?_,?_,?_,?_⟩ ?_ ?_ ⟨d2,cu,gZ,?_,aq.trans dN fun _ h=>.inl h⟩
  all_goals simp -implicitDefEqProofs only[op,ef,cl,sq,reduceIte,j2,j3,j4,j5,j6,j7,j8,j9,y1,S1,h0,h1,h2,h3,h4,aB,a0,aA,if_pos hh,gy]
  exact e2
 ·rw[decide_eq_false hh]at e
  simp -implicitDefEqProofs (maxSteps:=1000000) (disch:=omega) only[op,ef,cl,sq,reduceIte,j2,j3,j4,j5,j6,j7,j8,j9,y1,S1,h0,h1,h2,h3,h4,aB,a0,aA,bg,mN,e]
  refine rest _ _ ⟨?_,?_,?_,?_,?_,?_,?_,?_⟩ ?_ ?_ ⟨di,hc,hn,?_,aq⟩
  all_goals simp -implicitDefEqProofs only[op,ef,cl,sq,reduceIte,j2,j3,j4,j5,j6,j7,j8,j9,y1,S1,h0,h1,h2,h3,h4,aB,a0,aA,bg,mN,if_neg hh]
open Go.Sort in
theorem Zv (A:C)(hA:(cZ ew.body 1).map (eD · 6)=some A)(c n a b b8:Nat)(wb wp:Bool)(d:Array Nm)(pv:Nat)(hi:Hint)(R:ar)(H0 H:af)(K:Out→af→Prop)(hp:PR R c n a b b8 wb wp)(bg:R 13=.int .i64 pv)(mN:R 14=.int .i64 (gy hi))(hd:SC c n H0 (fun x=>x=d) H)(hb:b≤n)(gb:a+12<b)(hs:n<16777216)
  (pi:Array Nm×Bool) (Ga:pi=if (wb&&wp&&hi=.increasing)=true then partialInsertionSort aX d a b else(d,false))
  (hG:∀R' H',pi.2=true→SC c n H0 (fun x=>x=pi.1) H'→K (.ex .ret R') H')
  (fh:∀R' H',pi.2=false→PR R' c n a b b8 wb wp→R' 13=.int .i64 pv→SC c n H0 (fun x=>x=pi.1) H'→K (.ex .normal R') H'):eF env A R H K:=by
 simp[ew,cZ,eD,sq]at hA
 subst hA
 obtain⟨h0,h1,h2,h3,h4,aB,a0,aA⟩:=hp
 obtain⟨di,hc,hn,rfl,aq⟩:=hd
 have e:((gy hi)==1)=decide (hi=.increasing):=by cases hi<;>decide
 have no:(wb&&wp&&decide (hi=.increasing))=false→∀R',PR R' c n a b b8 wb wp→R' 13=.int .i64 pv→K (.ex .normal R') H:=fun h R' q q'=>fh R' H (by rw[Ga,h];rfl) q q' ⟨di,hc,hn,by rw[Ga,h];rfl,aq⟩
 cases wb with
 | false =>
  simp -implicitDefEqProofs only[op,ef,cl,sq,reduceIte,j2,j3,j4,j5,j6,j7,j8,j9,y1,S1,h0,h1,h2,h3,h4,aB,a0,aA,bg,mN]
  refine no rfl _ ⟨?_,?_,?_,?_,?_,?_,?_,?_⟩ ?_
  all_goals simp -implicitDefEqProofs only[op,ef,cl,sq,reduceIte,j2,j3,j4,j5,j6,j7,j8,j9,y1,S1,h0,h1,h2,h3,h4,aB,a0,aA,bg]
 | true =>
  cases wp with
  | false =>
   simp -implicitDefEqProofs only[op,ef,cl,sq,reduceIte,j2,j3,j4,j5,j6,j7,j8,j9,y1,S1,h0,h1,h2,h3,h4,aB,a0,aA,bg,mN]
   refine no rfl _ ⟨?_,?_,?_,?_,?_,?_,?_,?_⟩ ?_
   all_goals simp -implicitDefEqProofs only[op,ef,cl,sq,reduceIte,j2,j3,j4,j5,j6,j7,j8,j9,y1,S1,h0,h1,h2,h3,h4,aB,a0,aA,bg]
  | true =>
   by_cases hh:hi=.increasing
   ·rw[decide_eq_true hh]at e
    rw[decide_eq_true hh]at Ga
    simp -implicitDefEqProofs only[op,ef,cl,sq,reduceIte,j2,j3,j4,j5,j6,j7,j8,j9,y1,S1,h0,h1,h2,h3,h4,aB,a0,aA,bg,mN,e]
    refine ae _ _ _ _ _ _ _ _ (Oo c n di a b _ hn hc hb (by omega) (by omega)) ?_
    rintro u H2⟨hu,d2,cu,gZ,e2,dN⟩
    cases hu
    rw[if_pos (show(true&&true&&true)=true from rfl)]at Ga
    rw[←Ga]at e2 ⊢
    cases kb:pi.2 with
    | true =>
     simp -implicitDefEqProofs only[op,ef,cl,sq,reduceIte,j2,j3,j4,j5,j6,j7,j8,j9,y1,S1]
     exact hG _ _ kb ⟨d2,cu,gZ,e2,aq.trans dN fun _ h=>.inl h⟩
    | false =>
     simp -implicitDefEqProofs only[op,ef,cl,sq,reduceIte,j2,j3,j4,j5,j6,j7,j8,j9,y1,S1]
     refine fh _ _ kb ⟨?_,?_,?_,?_,?_,?_,?_,?_⟩ ?_ ⟨d2,cu,gZ,e2,aq.trans dN fun _ h=>.inl h⟩
     all_goals simp -implicitDefEqProofs only[op,ef,cl,sq,reduceIte,j2,j3,j4,j5,j6,j7,j8,j9,y1,S1,h0,h1,h2,h3,h4,aB,a0,aA,bg]
   ·rw[decide_eq_false hh]at e
    simp -implicitDefEqProofs only[op,ef,cl,sq,reduceIte,j2,j3,j4,j5,j6,j7,j8,j9,y1,S1,h0,h1,h2,h3,h4,aB,a0,aA,bg,mN,e]
    refine no (by rw[decide_eq_false hh];rfl) _ ⟨?_,?_,?_,?_,?_,?_,?_,?_⟩ ?_
    all_goals simp -implicitDefEqProofs only[op,ef,cl,sq,reduceIte,j2,j3,j4,j5,j6,j7,j8,j9,y1,S1,h0,h1,h2,h3,h4,aB,a0,aA,bg]
open Go.Sort in
theorem Zw (A:C)(hA:(cZ ew.body 1).map (eD · 7)=some A)(c n a b b8:Nat)(wb wp:Bool)(d:Array Nm)(pv:Nat)(R:ar)(H0 H:af)(K:Out→af→Prop)(hp:PR R c n a b b8 wb wp)(bg:R 13=.int .i64 pv)(hd:SC c n H0 (fun x=>x=d) H)(hb:b≤n)(gb:a+12<b)(hs:n<16777216)(l3:a≤pv∧pv<b)
  (hG:∀R' H',(a>0&&!aX d[a-1]! d[pv]!)=true→R' 0=.ax c 0 n 2→R' 1=.int .i64 (partitionEqual aX d a b pv).1→R' 2=.int .i64 b→R' 3=.int .i64 b8→R' 4=.fn 61 []→R' 10=.bool wb→R' 11=.bool wp→SC c n H0 (fun x=>x=(partitionEqual aX d a b pv).2) H'→K (.ex (.exit 1) R') H')
  (fh:∀R' H',(a>0&&!aX d[a-1]! d[pv]!)=false→PR R' c n a b b8 wb wp→R' 13=.int .i64 pv→SC c n H0 (fun x=>x=d) H'→K (.ex .normal R') H'):eF env A R H K:=by
 simp[ew,cZ,eD,sq]at hA
 subst hA
 obtain⟨h0,h1,h2,h3,h4,aB,a0,aA⟩:=hp
 obtain⟨di,hd,hn,rfl,aq⟩:=hd
 have lc:=aW hd
 by_cases ha:0<a
 ·simp -implicitDefEqProofs (maxSteps:=1000000) (disch:=omega) only[aa,aM,aO,aP,aQ,aR,aS,wA,aZ,wS,aY,wM,S2,op,ef,cl,sq,reduceIte,j2,j3,j4,j5,j6,j7,j8,j9,y1,S1,h0,h1,h2,h3,h4,aB,a0,aA,bg,ha,hd,lc]
  refine kV _ _ _ _ _ _ _ (by simp -implicitDefEqProofs (maxSteps:=1000000) (disch:=omega) only[aa,aM,aO,aP,aQ,aR,aS,wA,aZ,wS,aY,wM,S2,op,ef,cl,sq,reduceIte,j2,j3,j4,j5,j6,j7,j8,j9,y1,S1,h0,h1,h2,h3,h4,aB,a0,aA,bg,ha,hd,lc]) ?_
  simp -implicitDefEqProofs (maxSteps:=1000000) (disch:=omega) only[aa,aM,aO,aP,aQ,aR,aS,wA,aZ,wS,aY,wM,S2,op,ef,cl,sq,reduceIte,j2,j3,j4,j5,j6,j7,j8,j9,y1,S1,cy,h0,h1,h2,h3,h4,aB,a0,aA,bg,ha,hd,lc,List.append_nil]
  refine ae _ _ _ _ _ _ _ _ (cd di[a-1]! di[pv]! _) ?_
  rintro u H3⟨hu,hx⟩
  cases hu
  have hx:Ext H H3:=hx
  have hd:=hx.get hd
  have lc:=aW hd
  have aq:=aq.trans (ay (F:=fun _=>False) hx) (fun _ h=>h.elim)
  have cY:aX di[a-1]! di[pv]! = decide (dz di[a-1]! di[pv]!<0):=rfl
  by_cases c1:dz di[a-1]! di[pv]!<0
  ·simp -implicitDefEqProofs (maxSteps:=1000000) (disch:=omega) only[aa,aM,aO,aP,aQ,aR,aS,wA,aZ,wS,aY,wM,S2,op,ef,cl,sq,reduceIte,j2,j3,j4,j5,j6,j7,j8,j9,y1,S1,h0,h1,h2,h3,h4,aB,a0,aA,bg,ha,hd,lc,c1]
   refine fh _ _ (by rw[cY,cn c1];simp) ⟨?_,?_,?_,?_,?_,?_,?_,?_⟩ ?_ ⟨di,hd,hn,rfl,aq⟩
   all_goals simp -implicitDefEqProofs only[op,ef,cl,sq,reduceIte,j2,j3,j4,j5,j6,j7,j8,j9,y1,S1,h0,h1,h2,h3,h4,aB,a0,aA,bg]
  ·simp -implicitDefEqProofs (maxSteps:=1000000) (disch:=omega) only[aa,aM,aO,aP,aQ,aR,aS,wA,aZ,wS,aY,wM,S2,op,ef,cl,sq,reduceIte,j2,j3,j4,j5,j6,j7,j8,j9,y1,S1,h0,h1,h2,h3,h4,aB,a0,aA,bg,ha,hd,lc,c1]
   refine ae _ _ _ _ _ _ _ _ (Te c n di a b pv _ hn hd hb (by omega) (by omega) (by omega)) ?_
   rintro u H4⟨hu,d2,cu,gZ,e2,dN⟩
   cases hu
   simp -implicitDefEqProofs only[op,ef,cl,sq,reduceIte,j2,j3,j4,j5,j6,j7,j8,j9,y1,S1]
   refine hG _ _ (by rw[cY,cf c1];simp;exact ha) ?_ ?_ ?_ ?_ ?_ ?_ ?_ ⟨d2,cu,gZ,e2,aq.trans dN fun _ h=>.inl h⟩
   all_goals simp -implicitDefEqProofs only[op,ef,cl,sq,reduceIte,j2,j3,j4,j5,j6,j7,j8,j9,y1,S1,h0,h1,h2,h3,h4,aB,a0,aA,bg]
 ·simp -implicitDefEqProofs only[op,ef,cl,sq,reduceIte,j2,j3,j4,j5,j6,j7,j8,j9,y1,S1,h0,h1,h2,h3,h4,aB,a0,aA,bg,ha]
  refine fh _ _ (by rw[decide_eq_false ha];rfl) ⟨?_,?_,?_,?_,?_,?_,?_,?_⟩ ?_ ⟨di,hd,hn,rfl,aq⟩
  all_goals simp -implicitDefEqProofs only[op,ef,cl,sq,reduceIte,j2,j3,j4,j5,j6,j7,j8,j9,y1,S1,h0,h1,h2,h3,h4,aB,a0,aA,bg]
set_option maxHeartbeats 8000000
def Gb:C→Nat→C
 | c,0=>c
 | .seq _ b,k+1=>Gb b k
 | c,_=>c
open Go.Sort in
theorem Gc {d d1 d2:Array Nm}{a b b8 eE pv:Nat}{wb wp:Bool}{cp:Nat×Hint}{hi:Hint}{pi:Array Nm×Bool}(aA:¬b-a≤12)(hl:¬b8=0)
  (e1:d1=if (!wb)=true then breakPatterns d a b else d) (el:eE=if (!wb)=true then b8-1 else b8) (ec:cp=choosePivot aX d1 a b) (e2:d2=if cp.2=.decreasing then reverseRange d1 a b else d1)
  (ep:pv=if cp.2=.decreasing then(b-1)-(cp.1-a)else cp.1) (eh:hi=if cp.2=.decreasing then .increasing else cp.2) (JP:pi=if (wb&&wp&&hi=.increasing)=true then partialInsertionSort aX d2 a b else(d2,false)) :
  pdq aX d a b b8 wb wp=if pi.2=true then pi.1 else if (a>0&&!aX pi.1[a-1]! pi.1[pv]!)=true then(if a<(partitionEqual aX pi.1 a b pv).1∧(partitionEqual aX pi.1 a b pv).1≤b then pdq aX (partitionEqual aX pi.1 a b pv).2 (partitionEqual aX pi.1 a b pv).1 b eE wb wp else(partitionEqual aX pi.1 a b pv).2)
   else(if a≤(partition aX pi.1 a b pv).1∧(partition aX pi.1 a b pv).1<b then if (partition aX pi.1 a b pv).1-a<b-(partition aX pi.1 a b pv).1 then pdq aX (pdq aX (partition aX pi.1 a b pv).2.2 a (partition aX pi.1 a b pv).1 eE true true) ((partition aX pi.1 a b pv).1+1) b eE (decide ((partition aX pi.1 a b pv).1-a≥(b-a)/8)) (partition aX pi.1 a b pv).2.1
    else pdq aX (pdq aX (partition aX pi.1 a b pv).2.2 ((partition aX pi.1 a b pv).1+1) b eE true true) a (partition aX pi.1 a b pv).1 eE (decide (b-(partition aX pi.1 a b pv).1≥(b-a)/8)) (partition aX pi.1 a b pv).2.1 else(partition aX pi.1 a b pv).2.2):=by
 subst JP eh ep e2 ec el e1
 rw[pdq,if_neg aA,if_neg hl]
 rfl
open Go.Sort in
theorem BS (d:Array Nm){a b pv:Nat}(h1:a≤pv)(h2:pv<b)(hb:b≤d.size):a<(partitionEqual aX d a b pv).1∧(partitionEqual aX d a b pv).1≤b:=by
 have:=partEqLoop_spec (lt:=aX) a b b (a+1) (b-1) (swp d a pv) (by omega) (by omega) (by omega) (by omega) (by rw[swp_size];exact hb) (fun t h h'=>by omega) (fun t h h'=>by omega)
 exact⟨this.1,this.2.1⟩
theorem Zx (A:C)(hA:(cZ ew.body 1).map (eD · 0)=some A)(c n a b b8:Nat)(wb wp:Bool)(R:ar)(H:af)(K:Out→af→Prop)(h0:R 0=.ax c 0 n 2)(h1:R 1=.int .i64 a)(h2:R 2=.int .i64 b)(h3:R 3=.int .i64 b8)(h4:R 4=.fn 61 [])(aB:R 10=.bool wb)(a0:R 11=.bool wp)(gb:a≤b)(hb:b<16777216)
  (rest:∀R',PR R' c n a b b8 wb wp→K (.ex .normal R') H):eF env A R H K:=by
 simp[ew,cZ,eD,sq]at hA
 subst hA
 simp -implicitDefEqProofs (maxSteps:=1000000) (disch:=omega) only[aa,aM,aO,aP,aQ,aR,aS,wA,aZ,wS,aY,wM,S2,op,ef,cl,sq,reduceIte,j2,j3,j4,j5,j6,j7,j8,j9,y1,S1,h0,h1,h2,h3,h4,aB,a0]
 refine rest _ ⟨?_,?_,?_,?_,?_,?_,?_,?_⟩
 all_goals simp -implicitDefEqProofs only[op,ef,cl,sq,reduceIte,j2,j3,j4,j5,j6,j7,j8,j9,y1,S1,h0,h1,h2,h3,h4,aB,a0]
open Go.Sort in
theorem Zy (A:C)(hA:(cZ ew.body 1).map (eD · 1)=some A)(c n a b b8:Nat)(wb wp:Bool)(d:Array Nm)(R:ar)(H0 H:af)(K:Out→af→Prop)(hp:PR R c n a b b8 wb wp)(hd:SC c n H0 (fun x=>x=d) H)(hb:b≤n)(gb:a≤b)(hs:n<16777216)
  (hG:∀R' H',b-a≤12→SC c n H0 (fun x=>x=insertionSort aX d a b) H'→K (.ex .ret R') H')
  (fh:∀R',¬b-a≤12→PR R' c n a b b8 wb wp→K (.ex .normal R') H):eF env A R H K:=by
 simp[ew,cZ,eD,sq]at hA
 subst hA
 obtain⟨h0,h1,h2,h3,h4,aB,a0,aA⟩:=hp
 obtain⟨di,hc,hn,rfl,aq⟩:=hd
 by_cases hle:b-a≤12
 ·simp -implicitDefEqProofs only[op,ef,cl,sq,reduceIte,j2,j3,j4,j5,j6,j7,j8,j9,y1,S1,h0,h1,h2,h3,h4,aB,a0,aA,hle]
  have hi:=SY c di a b H hc (by omega) gb (by omega)
  rw[hn]at hi
  refine ae _ _ _ _ _ _ _ _ hi ?_
  rintro u H2⟨hu,cu,dN⟩
  cases hu
  simp -implicitDefEqProofs only[op,ef,cl,sq,reduceIte,j2,j3,j4,j5,j6,j7,j8,j9,y1,S1]
  exact hG _ _ hle ⟨_,cu,by rw[(insertionSort_holds pX di a b gb (by omega)).1.1];exact hn,rfl,aq.trans dN fun _ h=>.inl h⟩
 ·simp -implicitDefEqProofs only[op,ef,cl,sq,reduceIte,j2,j3,j4,j5,j6,j7,j8,j9,y1,S1,h0,h1,h2,h3,h4,aB,a0,aA,hle]
  refine fh _ hle ⟨?_,?_,?_,?_,?_,?_,?_,?_⟩
  all_goals simp -implicitDefEqProofs only[op,ef,cl,sq,reduceIte,j2,j3,j4,j5,j6,j7,j8,j9,y1,S1,h0,h1,h2,h3,h4,aB,a0,aA]
open Go.Sort in
theorem Zz (A:C)(hA:(cZ ew.body 1).map (eD · 2)=some A)(c n a b b8:Nat)(wb wp:Bool)(d:Array Nm)(R:ar)(H0 H:af)(K:Out→af→Prop)(hp:PR R c n a b b8 wb wp)(hd:SC c n H0 (fun x=>x=d) H)(hb:b≤n)(gb:a+12<b)(hs:n<16777216)
  (hG:∀R' H',b8=0→SC c n H0 (fun x=>x=heapSort aX d a b) H'→K (.ex .ret R') H')
  (fh:∀R',¬b8=0→PR R' c n a b b8 wb wp→K (.ex .normal R') H):eF env A R H K:=by
 simp[ew,cZ,eD,sq]at hA
 subst hA
 obtain⟨h0,h1,h2,h3,h4,aB,a0,aA⟩:=hp
 obtain⟨di,hc,hn,rfl,aq⟩:=hd
 by_cases hl:b8=0
 ·subst hl
  have e:(((0:Nat):Int)==0)=true:=rfl
  simp -implicitDefEqProofs only[op,ef,cl,sq,reduceIte,j2,j3,j4,j5,j6,j7,j8,j9,y1,S1,h0,h1,h2,h3,h4,aB,a0,aA,e]
  refine ae _ _ _ _ _ _ _ _ (Oh c n di a b _ hn hc hb (by omega) (by omega)) ?_
  rintro u H2⟨hu,d2,cu,gZ,e2,dN⟩
  cases hu
  simp -implicitDefEqProofs only[op,ef,cl,sq,reduceIte,j2,j3,j4,j5,j6,j7,j8,j9,y1,S1]
  exact hG _ _ rfl ⟨_,cu,gZ,e2,aq.trans dN fun _ h=>.inl h⟩
 ·have e:((b8:Int)==0)=false:=by simp;omega
  simp -implicitDefEqProofs only[op,ef,cl,sq,reduceIte,j2,j3,j4,j5,j6,j7,j8,j9,y1,S1,h0,h1,h2,h3,h4,aB,a0,aA,e]
  refine fh _ hl ⟨?_,?_,?_,?_,?_,?_,?_,?_⟩
  all_goals simp -implicitDefEqProofs only[op,ef,cl,sq,reduceIte,j2,j3,j4,j5,j6,j7,j8,j9,y1,S1,h0,h1,h2,h3,h4,aB,a0,aA]
open Go.Sort in
theorem ZA (A:C)(hA:(cZ ew.body 1).map (eD · 4)=some A)(c n a b b8:Nat)(wb wp:Bool)(d:Array Nm)(R:ar)(H0 H:af)(K:Out→af→Prop)(hp:PR R c n a b b8 wb wp)(hd:SC c n H0 (fun x=>x=d) H)(hb:b≤n)(gb:a+12<b)(hs:n<16777216)
  (rest:∀R' H',PR R' c n a b b8 wb wp→R' 13=.int .i64 (choosePivot aX d a b).1→R' 14=.int .i64 (gy (choosePivot aX d a b).2)→SC c n H0 (fun x=>x=d) H'→K (.ex .normal R') H'):eF env A R H K:=by
 simp[ew,cZ,eD,sq]at hA
 subst hA
 obtain⟨h0,h1,h2,h3,h4,aB,a0,aA⟩:=hp
 obtain⟨di,hc,hn,rfl,aq⟩:=hd
 simp -implicitDefEqProofs only[op,ef,cl,sq,reduceIte,j2,j3,j4,j5,j6,j7,j8,j9,y1,S1,h0,h1,h2,h3,h4,aB,a0,aA]
 refine ae _ _ _ _ _ _ _ _ (FZ c n di a b _ hn hc hb gb (by omega)) ?_
 rintro u H2⟨hu,hx⟩
 cases hu
 simp -implicitDefEqProofs only[op,ef,cl,sq,reduceIte,j2,j3,j4,j5,j6,j7,j8,j9,y1,S1]
 refine rest _ _ ⟨?_,?_,?_,?_,?_,?_,?_,?_⟩ ?_ ?_ ⟨di,hx.get hc,hn,rfl,aq.trans (ay (F:=fun _=>False) hx) (fun _ h=>h.elim)⟩
 all_goals simp -implicitDefEqProofs only[op,ef,cl,sq,reduceIte,j2,j3,j4,j5,j6,j7,j8,j9,y1,S1,h0,h1,h2,h3,h4,aB,a0,aA]
theorem Vs {a:Nat}(h:a<9223372036854775808):IntKind.i64.wrap ((a:Int).tdiv 8)=((a/8:Nat):Int):=by rw[Int.tdiv_eq_ediv_of_nonneg (by omega),wrap64 (by omega)];omega
open Go.Sort in
theorem ZB (A:C)(hA:(cZ ew.body 1).map (Gb · 8)=some A)(c n a b b8:Nat)(wb wp:Bool)(d:Array Nm)(pv:Nat)(R:ar)(H0 H:af)(K:Out→af→Prop)(hp:PR R c n a b b8 wb wp)(bg:R 13=.int .i64 pv)(hd:SC c n H0 (fun x=>x=d) H)(hb:b≤n)(gb:a+12<b)(hs:n<16777216)(l3:a≤pv∧pv<b)
  (ih:∀a' b' (d':Array Nm) H',b'-a'<b-a→a'≤b'→b'≤n→d'.size=n→H'[c]?=some (.cells (aJ eN d'.toList))→W env (.call 117 [.ax c 0 n 2,.int .i64 a',.int .i64 b',.int .i64 b8,.fn 61 []]) H' (yA c n (pdq aX d' a' b' b8 true true) H'))
  (rest:∀R' H' a' b' (d':Array Nm) (JQ:Bool),a≤a'→a'≤b'→b'≤b→b'-a'<b-a→R' 0=.ax c 0 n 2→R' 1=.int .i64 (a':Nat)→R' 2=.int .i64 (b':Nat)→R' 3=.int .i64 b8→R' 4=.fn 61 []→R' 10=.bool JQ→R' 11=.bool (partition aX d a b pv).2.1 →
   pdq aX d' a' b' b8 JQ (partition aX d a b pv).2.1=(if (partition aX d a b pv).1-a<b-(partition aX d a b pv).1 then pdq aX (pdq aX (partition aX d a b pv).2.2 a (partition aX d a b pv).1 b8 true true) ((partition aX d a b pv).1+1) b b8 (decide ((partition aX d a b pv).1-a≥(b-a)/8)) (partition aX d a b pv).2.1
    else pdq aX (pdq aX (partition aX d a b pv).2.2 ((partition aX d a b pv).1+1) b b8 true true) a (partition aX d a b pv).1 b8 (decide (b-(partition aX d a b pv).1≥(b-a)/8)) (partition aX d a b pv).2.1) →
   SC c n H0 (fun x=>x=d') H'→K (.ex .normal R') H'):eF env A R H K:=by
 simp[ew,cZ,Gb,sq]at hA
 subst hA
 obtain⟨h0,h1,h2,h3,h4,aB,a0,aA⟩:=hp
 obtain⟨di,hc,hn,rfl,aq⟩:=hd
 have pb:=partition_holds aX pX di a b pv l3.1 l3.2 (by omega)
 simp -implicitDefEqProofs only[op,ef,cl,sq,reduceIte,j2,j3,j4,j5,j6,j7,j8,j9,y1,S1,h0,h1,h2,h3,h4,aB,a0,aA,bg]
 refine ae _ _ _ _ _ _ _ _ (On c n di a b pv _ hn hc hb (by omega) (by omega) (by omega)) ?_
 rintro u H2⟨hu,d2,cu,gZ,e2,dN⟩
 cases hu
 generalize partition aX di a b pv=r at *
 obtain⟨mid,ap,d4⟩:=r
 simp only at pb e2 rest ⊢
 subst e2
 obtain⟨m1,m2,_⟩:=pb
 have jO:=aq.trans dN fun _ h=>.inl h
 by_cases au:mid-a<b-mid
 ·rw[if_pos au]at rest
  simp -implicitDefEqProofs (maxSteps:=1000000) (disch:=omega) only[aa,aM,aO,aP,aQ,aR,aS,wA,aZ,wS,aY,wM,S2,op,ef,cl,sq,reduceIte,j2,j3,j4,j5,j6,j7,j8,j9,y1,S1,Vs,h0,h1,h2,h3,h4,aB,a0,aA,bg,au]
  refine ae _ _ _ _ _ _ _ _ (ih a mid d2 _ (by omega) m1 (by omega) gZ cu) ?_
  rintro u H3⟨hu,d3,nL,zi,e3,oS⟩
  cases hu
  simp -implicitDefEqProofs (maxSteps:=1000000) (disch:=omega) only[aa,aM,aO,aP,aQ,aR,aS,wA,aZ,wS,aY,wM,S2,op,ef,cl,sq,reduceIte,j2,j3,j4,j5,j6,j7,j8,j9,y1,S1,h0,h1,h2,h3,h4,aB,a0,aA,bg]
  refine rest _ _ (mid+1) b d3 (decide ((b-a)/8≤mid-a)) (by omega) (by omega) (Nat.le_refl _) (by omega) ?_ ?_ ?_ ?_ ?_ ?_ ?_ (by rw[e3]) ⟨d3,nL,zi,rfl,jO.trans oS fun _ h=>.inl h⟩
  all_goals simp -implicitDefEqProofs only[op,ef,cl,sq,reduceIte,j2,j3,j4,j5,j6,j7,j8,j9,y1,S1,h0,h1,h2,h3,h4,aB,a0,aA]
 ·rw[if_neg au]at rest
  simp -implicitDefEqProofs (maxSteps:=1000000) (disch:=omega) only[aa,aM,aO,aP,aQ,aR,aS,wA,aZ,wS,aY,wM,S2,op,ef,cl,sq,reduceIte,j2,j3,j4,j5,j6,j7,j8,j9,y1,S1,Vs,h0,h1,h2,h3,h4,aB,a0,aA,bg,au]
  refine ae _ _ _ _ _ _ _ _ (ih (mid+1) b d2 _ (by omega) m2 (by omega) gZ cu) ?_
  rintro u H3⟨hu,d3,nL,zi,e3,oS⟩
  cases hu
  simp -implicitDefEqProofs (maxSteps:=1000000) (disch:=omega) only[aa,aM,aO,aP,aQ,aR,aS,wA,aZ,wS,aY,wM,S2,op,ef,cl,sq,reduceIte,j2,j3,j4,j5,j6,j7,j8,j9,y1,S1,h0,h1,h2,h3,h4,aB,a0,aA,bg]
  refine rest _ _ a mid d3 (decide ((b-a)/8≤b-mid)) (by omega) (by omega) (by omega) (by omega) ?_ ?_ ?_ ?_ ?_ ?_ ?_ (by rw[e3]) ⟨d3,nL,zi,rfl,jO.trans oS fun _ h=>.inl h⟩
  all_goals simp -implicitDefEqProofs only[op,ef,cl,sq,reduceIte,j2,j3,j4,j5,j6,j7,j8,j9,y1,S1,h0,h1,h2,h3,h4,aB,a0,aA]
set_option maxHeartbeats 8000000
open Go.Sort in
theorem Ti (c n:Nat)(hs:n<16777216):∀m a b b8 (d:Array Nm) H,b-a=m→a≤b→b≤n→b8<1000→d.size=n→H[c]?=some (.cells (aJ eN d.toList)) →
  W env (.call 117 [.ax c 0 n 2,.int .i64 (a:Nat),.int .i64 (b:Nat),.int .i64 (b8:Nat),.fn 61 []]) H (yA c n (pdq aX d a b b8 true true) H):=by
 intro m
 induction m using Nat.strongRecOn with
 | _ m ih =>
 intro a b b8 d H hm gb hb ZC hn hc
 subst hm
 refine W.bR rfl rfl rfl ?_
 simp -implicitDefEqProofs only[ew,op,ef,cl,sq,reduceIte,j2,j3,j4,j5,j6,j7,j8,j9,y1,S1]
 refine W.cG (fun (q:Nat×Nat×Nat×Bool×Bool) R H'=>At H' (fun H'=>SC c n H (fun di=>pdq aX di q.1 q.2.1 q.2.2.1 q.2.2.2.1 q.2.2.2.2=pdq aX d a b b8 true true) H')∧R 0=.ax c 0 n 2∧R 1=.int .i64 q.1∧R 2=.int .i64 q.2.1∧R 3=.int .i64 q.2.2.1∧R 4=.fn 61 []∧R 10=.bool q.2.2.2.1∧R 11=.bool q.2.2.2.2∧a≤q.1∧q.1≤q.2.1∧q.2.1≤b∧q.2.2.1≤b8) (fun q=>q.2.1-q.1) (a,b,b8,true,true) ⟨.i ⟨d,hc,hn,rfl,bh.refl _ _⟩,rfl,rfl,rfl,rfl,rfl,rfl,rfl,Nat.le_refl _,gb,Nat.le_refl _,Nat.le_refl _⟩ ?_
 rintro⟨a1,b1,l1,wb,wp⟩ R H1 ⟨⟨di,hd,a6,hP,aq⟩,h0,h1,h2,h3,h4,aB,a0,q1,q2,q3,q4⟩
 simp only at hP h1 h2 h3 aB a0 q1 q2 q3 q4 ⊢
 rw[pO,fE]
 refine Zx _ rfl c n a1 b1 l1 wb wp R H1 _ h0 h1 h2 h3 h4 aB a0 q2 (by omega) ?_
 intro R1 p1
 rw[dH,cO,fE]
 refine Zy _ rfl c n a1 b1 l1 wb wp di R1 H H1 _ p1 ⟨di,hd,a6,rfl,aq⟩ (by omega) q2 hs ?_ ?_
 ·rintro R' H' hle⟨d',gB,eI,rfl,pI⟩
  rw[pdq,if_pos hle]at hP
  simp -implicitDefEqProofs only[op,ef,cl,sq,reduceIte,j2,j3,j4,j5,j6,j7,j8,j9,y1,S1]
  exact⟨rfl,_,gB,eI,hP,pI⟩
 intro R2 aA p2
 rw[dH,cO,fE]
 refine Zz _ rfl c n a1 b1 l1 wb wp di R2 H H1 _ p2 ⟨di,hd,a6,rfl,aq⟩ (by omega) (by omega) hs ?_ ?_
 ·rintro R' H' xF⟨d',gB,eI,rfl,pI⟩
  rw[pdq,if_neg aA,if_pos xF]at hP
  simp -implicitDefEqProofs only[op,ef,cl,sq,reduceIte,j2,j3,j4,j5,j6,j7,j8,j9,y1,S1]
  exact⟨rfl,_,gB,eI,hP,pI⟩
 intro R3 xF p3
 rw[dH,cO,fE]
 refine Zt _ rfl c n a1 b1 l1 wb wp di R3 H H1 _ p3 ⟨di,hd,a6,rfl,aq⟩ (by omega) (by omega) hs (by omega) ?_
 rintro R4 H4 p4⟨d1,qY,Ck,e1,xK⟩
 obtain⟨eE,el⟩:∃l,l=if (!wb)=true then l1-1 else l1:=⟨_,rfl⟩
 have rR:eE≤l1:=by rw[el];split<;>omega
 rw[←el]at p4
 rw[dH,cO,fE]
 refine ZA _ rfl c n a1 b1 eE wb wp d1 R4 H H4 _ p4 ⟨d1,qY,Ck,rfl,xK⟩ (by omega) (by omega) hs ?_
 rintro R5 H5 p5 bg mN⟨JR,ZD,Oq,L8,Tj⟩
 subst L8
 have Tk:=choosePivot_holds aX JR a1 b1 (by omega)
 obtain⟨cp,ec⟩:∃x,x=choosePivot aX JR a1 b1:=⟨_,rfl⟩
 rw[←ec]at bg mN Tk
 rw[dH,cO,fE]
 refine Zu _ rfl c n a1 b1 eE wb wp JR cp.1 cp.2 R5 H H5 _ p5 bg mN ⟨JR,ZD,Oq,rfl,Tj⟩ (by omega) (by omega) hs Tk ?_
 rintro R6 H6 p6 bg mN⟨d2,ZE,ZF,e2,ZG⟩
 obtain⟨pv,ep⟩:∃x,x=if cp.2=.decreasing then(b1-1)-(cp.1-a1)else cp.1:=⟨_,rfl⟩
 obtain⟨hi,eh⟩:∃x,x=if cp.2=.decreasing then Hint.increasing else cp.2:=⟨_,rfl⟩
 rw[←ep]at bg
 rw[←eh]at mN
 have l3:a1≤pv∧pv<b1:=by rw[ep];split<;>omega
 rw[dH,cO,fE]
 obtain⟨pi,JP⟩:∃x,x=if (wb&&wp&&hi=.increasing)=true then partialInsertionSort aX d2 a1 b1 else(d2,false):=⟨_,rfl⟩
 rw[Gc aA xF e1 el ec e2 ep eh JP]at hP
 refine Zv _ rfl c n a1 b1 eE wb wp d2 pv hi R6 H H6 _ p6 bg mN ⟨d2,ZE,ZF,rfl,ZG⟩ (by omega) (by omega) hs pi JP ?_ ?_
 ·rintro R' H' FV⟨d',gB,eI,rfl,pI⟩
  rw[if_pos FV]at hP
  simp -implicitDefEqProofs only[op,ef,cl,sq,reduceIte,j2,j3,j4,j5,j6,j7,j8,j9,y1,S1]
  exact⟨rfl,_,gB,eI,hP,pI⟩
 rintro R7 H7 FU p7 bg⟨d3,ZH,JS,e3,ZI⟩
 rw[if_neg (by rw[FU];simp),←e3]at hP
 rw[dH,cO,fE]
 refine Zw _ rfl c n a1 b1 eE wb wp d3 pv R7 H H7 _ p7 bg ⟨d3,ZH,JS,rfl,ZI⟩ (by omega) (by omega) hs l3 ?_ ?_
 ·rintro R' H' kg g0 g1 g2 g3 g4 Ou Ht⟨d',gB,eI,e',pI⟩
  have hr:=BS d3 l3.1 l3.2 (by omega)
  rw[if_pos kg,if_pos hr,←e']at hP
  simp -implicitDefEqProofs only[op,ef,cl,sq,reduceIte,j2,j3,j4,j5,j6,j7,j8,j9,y1,S1]
  exact⟨((partitionEqual aX d3 a1 b1 pv).1,b1,eE,wb,wp),by simp only;omega,.i ⟨_,gB,eI,hP,pI⟩,g0,g1,g2,g3,g4,Ou,Ht,by simp only;omega,by simp only;omega,by simp only;omega,by simp only;omega⟩
 rintro R8 H8 kg p8 bg⟨Am,QA,ZJ,ZK,Hu⟩
 subst ZK
 have hr:=partition_holds aX pX Am a1 b1 pv l3.1 l3.2 (by omega)
 rw[if_neg (by rw[kg];simp),if_pos ⟨hr.1,hr.2.1⟩]at hP
 rw[dH,cO]
 refine ZB _ rfl c n a1 b1 eE wb wp Am pv R8 H H8 _ p8 bg ⟨Am,QA,ZJ,rfl,Hu⟩ (by omega) (by omega) hs l3 (fun a' b' d' H' au Ov iY eI iA=>ih _ (by omega) a' b' eE d' H' rfl Ov iY (by omega) eI iA) ?_
 rintro R' H' a' b' d' JQ Ov Ox iY au g0 g1 g2 g3 g4 Ou Ht e'⟨d'',gB,eI,rfl,pI⟩
 simp -implicitDefEqProofs only[op,ef,cl,sq,reduceIte,j2,j3,j4,j5,j6,j7,j8,j9,y1,S1]
 exact⟨(a',b',eE,JQ,(partition aX Am a1 b1 pv).2.1),by simp only;omega,.i ⟨_,gB,eI,by simp only;rw[e'];exact hP,pI⟩,g0,g1,g2,g3,g4,Ou,Ht,by simp only;omega,Ox,by simp only;omega,by simp only;omega⟩
open Go.Sort in
theorem JT (c:Nat)(d:Array Nm)(H:af)(hc:H[c]?=some (.cells (aJ eN d.toList)))(hs:d.size<16777216) :
  W env (.call 93 [.ax c 0 d.size 2,.fn 61 []]) H (yA c d.size (sort aX d) H):=by
 refine W.bR rfl rfl rfl ?_
 have w1:IntKind.u64.wrap (d.size:Int)=(d.size:Int):=pf (by omega)
 simp -implicitDefEqProofs only[Jt,op,ef,cl,sq,reduceIte,j2,j3,j4,j5,j6,j7,j8,j9,y1,S1,w1]
 refine ae _ _ _ _ _ _ _ _ (F5 d.size hs _) ?_
 rintro u H1⟨hu,rfl⟩
 cases hu
 have hb:=pW (n:=d.size) (k:=24) hs
 simp -implicitDefEqProofs only[op,ef,cl,sq,reduceIte,j2,j3,j4,j5,j6,j7,j8,j9,y1,S1]
 refine ae _ _ _ _ _ _ _ _ (Ti c d.size hs _ 0 d.size (bitsLen d.size) d _ rfl (Nat.zero_le _) (Nat.le_refl _) (by omega) rfl hc) ?_
 rintro u H2⟨hu,h2⟩
 cases hu
 simp -implicitDefEqProofs only[op,ef,cl,sq,reduceIte,j2,j3,j4,j5,j6,j7,j8,j9,y1,S1]
 exact⟨rfl,h2⟩
theorem nO {d:Array Nm}(hn:d.toList.Nodup):(Go.Sort.sort aX d).toList.Perm d.toList∧(Go.Sort.sort aX d).toList.Pairwise (fun a b=>aX a b=true):=by
 obtain⟨⟨hs,_,hp⟩,Ge⟩:=Go.Sort.sort_sorts aX pX d
 have e1:(Go.Sort.sort aX d).extract 0 d.size=Go.Sort.sort aX d:=by
  conv=>lhs;arg 3;rw[←hs]
  simp
 have fy:(Go.Sort.sort aX d).toList.Perm d.toList:=by
  rw[e1]at hp
  simpa using hp
 refine⟨fy,?_⟩
 have Iy:(Go.Sort.sort aX d).toList.Nodup:=fy.nodup_iff.2 hn
 rw[List.pairwise_iff_getElem]
 intro i j hi hj qQ
 have h1:=Ge i j (Nat.zero_le _) qQ (by rw[←hs];simpa using hj)
 have gi:=iK (d:=Go.Sort.sort aX d) (i:=i) (by simpa using hi)
 have gj:=iK (d:=Go.Sort.sort aX d) (i:=j) (by simpa using hj)
 rw[List.getElem?_eq_getElem hi]at gi
 rw[List.getElem?_eq_getElem hj]at gj
 rw[Option.some.inj gi,Option.some.inj gj]
 cases h:aX (Go.Sort.sort aX d)[i]! (Go.Sort.sort aX d)[j]! with
 | true=>rfl
 | false =>
  have e:=Al h h1
  rw[←Option.some.inj gi,←Option.some.inj gj]at e
  have:=(List.getElem_inj Iy).1 e
  omega
theorem BT (es:List (Nm×T))(c mb:Nat)(H:af)(fB:(es.map (·.1)).Nodup)(ib:es.length≤8000000)(hc:H[c]?=some (.cells [.map mb]))(hm:H[mb]?=some (.map (ba kN es))) :
  W env (.call 59 [.fn 94 [.ptr c 0],.fn 61 []]) H (Tg es H):=by
 refine W.bR rfl rfl rfl ?_
 simp -implicitDefEqProofs only[ND,op,ef,cl,sq,reduceIte,j2,j3,j4,j5,j6,j7,j8,j9,y1,S1]
 refine ae _ _ _ _ _ _ _ _ (Od es c mb H fB (by omega) hc hm) ?_
 rintro u H1⟨hx,t,b6,hu,Ah,lJ⟩
 cases hu
 have fy:b6.Perm (es.map (·.1)):=(List.perm_ext_iff_of_nodup lJ.FT fB).2 fun k=>lJ.BJ k
 have mV:b6.length=es.length:=by have:=lJ.len;simpa using this
 rcases Ah with⟨rfl,rfl⟩|⟨d,rfl,hd,Hf⟩
 ·simp -implicitDefEqProofs only[op,ef,cl,sq,reduceIte,j2,j3,j4,j5,j6,j7,j8,j9,y1,S1]
  refine ae _ _ _ _ _ _ _ _ (Tf _) ?_
  rintro u H2⟨hu,rfl⟩
  cases hu
  simp -implicitDefEqProofs only[op,ef,cl,sq,reduceIte,j2,j3,j4,j5,j6,j7,j8,j9,y1,S1]
  exact⟨hx,_,[],rfl,nA _ _ _ _,fy,List.Pairwise.nil⟩
 ·simp -implicitDefEqProofs only[op,ef,cl,sq,reduceIte,j2,j3,j4,j5,j6,j7,j8,j9,y1,S1]
  have:=JT d b6.toArray H1 (by simpa using hd) (by simpa using (by omega:b6.length<16777216))
  simp -implicitDefEqProofs only[List.size_toArray]at this
  refine ae _ _ _ _ _ _ _ _ this ?_
  rintro u H2⟨hu,d2,h2,px,rfl,aq⟩
  cases hu
  simp -implicitDefEqProofs only[op,ef,cl,sq,reduceIte,j2,j3,j4,j5,j6,j7,j8,j9,y1,S1]
  have hs:=nO (d:=b6.toArray) (by simpa using lJ.FT)
  simp -implicitDefEqProofs only[List.size_toArray]at hs
  refine⟨mM fun a x Tm=>aq.get (hx.get Tm) (by have:=aW Tm;omega),_,_,rfl,.inr ⟨d,?_,h2,Hf⟩,hs.1.trans fy,hs.2⟩
  rw[hs.1.length_eq]
theorem LC {α:Type}{enc:α→List T}{n:Nat}(hn:∀x,(enc x).length=n)(h0:n≠0){n0:Nat}{H:af}{t:T}{l:List α}(hm:pc enc n n0 H t l){i:Nat}{x:α}(hx:l[i]?=some x):∃b,H[b]?=some (.cells (aJ enc l))∧dE n i t=some (.ptr b (i*n))∧sd n (i*n) (some (.cells (aJ enc l)))=some (enc x):=by
 have hi:=(List.getElem?_eq_some_iff.1 hx).1
 rcases hm with⟨rfl,_⟩|⟨b,rfl,hb,_⟩
 ·simp at hi
 ·refine⟨b,hb,by rw[jV];simp[hi,h0],?_⟩
  have:=jM hn hx 0 n (by omega)
  simp -implicitDefEqProofs only[Nat.add_zero,List.drop_zero]at this
  rw[this,List.take_of_length_le (by rw[hn];omega)]
def eK (x:Nm×Hd):List T:=[.str x.1.1,.int .u64 x.1.2,.str x.2.value,.sl .arg (x.2.keys.map eS),.int .i64 x.2.a9]
def pg (s:dk)(l:List Nm):List (Nm×Hd):=l.map fun n=>(n,pw (ah s.vs n))
def Tn (s:dk)(H:af):Out→af→Prop:=fun o H'=>Ext H H'∧∃k l,gz k l∧o=.val (.sl k ((pg s l).map eK))∧l.Perm (s.vs.map (·.1))∧l.Pairwise (fun a b=>aX a b=true)
theorem Oy (b:Bk)(s:dk)(F:Nat→Prop)(H:af)(hs:SH H b s F)(hi:fY s)(hn:s.vs.length≤8000000):W env (.call 18 [.ptr b.s 0]) H (Tn s H):=by
 obtain⟨im,pm,sa⟩:=hs
 refine W.bR rfl rfl rfl ?_
 simp -implicitDefEqProofs only[Nb,op,ef,cl,sq,reduceIte,j2,j3,j4,j5,j6,j7,j8,j9,y1,S1,sa.hs]
 refine ae _ _ _ _ _ _ _ (fun o H'=>o=.val (.fn 94 [.ptr H.length 0])∧H'=H++[.cells [.map b.v]]) ?_ ?_
 ·refine W.bR rfl rfl rfl ?_
  simp -implicitDefEqProofs only[NF,op,ef,cl,sq,reduceIte,j2,j3,j4,j5,j6,j7,j8,j9,y1,S1]
  exact rfl
 rintro u H1⟨hu,rfl⟩
 cases hu
 have lv:=aW sa.hv
 have xf:(dM s.vs).map (·.1)=s.vs.map (·.1):=by simp[dM]
 simp -implicitDefEqProofs only[op,ef,cl,sq,reduceIte,j2,j3,j4,j5,j6,j7,j8,j9,y1,S1]
 refine ae _ _ _ _ _ _ _ _ (BT (dM s.vs) H.length b.v _ (by rw[xf];exact hi.nd) (by simpa[dM]using hn) (aU rfl) (by rw[aV lv];exact sa.hv)) ?_
 rintro t H2⟨xJ,_,l,hu,Ah,fy,JU⟩
 cases hu
 rw[xf]at fy
 have rR:l.length≤8000000:=by rw[fy.length_eq];simpa using hn
 have hlen:=Ah.len
 have jv:Ext H H2:=(Ext.rfl'.app _).trans xJ
 simp -implicitDefEqProofs only[op,ef,cl,sq,reduceIte,j2,j3,j4,j5,j6,j7,j8,j9,y1,S1,hlen]
 have abz:∀Hx,jf Hx .sl t=some l.length:=fun Hx=>by
  rcases Ah with⟨e,rfl⟩|⟨c,rfl,_,_⟩
  ·rw[e];rfl
  ·rfl
 refine W.cG (fun (i:Nat) R H'=>At H' (fun H'=>∃kw,R 3=.sl kw ((pg s (l.take i)).map eK)∧Ext H H'∧Ext H2 H'∧lF H2.length H' kw∧gz kw (l.take i))∧R 0=.ptr b.s 0∧R 11=t∧R 12=.int .i64 l.length∧R 13=.int .i64 i∧i≤l.length) (fun i=>l.length-i) 0 ⟨.i ⟨.nil,rfl,jv,Ext.rfl',iH _ _,fun _=>rfl⟩,rfl,rfl,rfl,rfl,Nat.zero_le _⟩ ?_
 rintro i R H3⟨⟨kw,h3,pd,xg,mJ,mL⟩,h0,a0,aA,bg,kM⟩
 by_cases au:i<l.length
 ·obtain⟨m,hm⟩:=cj au
  have ws:=aC (show i<9223372036854775807 by omega)
  obtain⟨c,g1,g2,g3⟩:=LC (enc:=eN) (n:=2) (fun _=>rfl) (by decide) (Ah.ext xg) hm
  have Aj:=sa.lg (ay (F:=fun _=>False) pd) (fun _ _ _ h=>h)
  have l0:=aW Aj.hs
  have lv3:=aW Aj.hv
  have lZ:=fun Hx z ok=>kW uH z ok Hx (dM s.vs) m
  simp -implicitDefEqProofs only[kN,eN]at lZ
  have hh:=yu s.vs m
  simp -implicitDefEqProofs only[op,ef,cl,sq,reduceIte,j2,j3,j4,j5,j6,j7,j8,j9,y1,S1,S2,S3,List.length_set,h0,a0,aA,bg,au,aa,g1,g2,g3,eN,Aj.hs,Aj.hv,l0,lv3,lZ,hh,ff]
  refine ae _ _ _ _ _ _ _ _ (BO b s F m.1 m.2 _ ⟨im,pm,Aj.lg (ay (F:=fun _=>False) (Ext.rfl'.app _)) (fun _ _ _ h=>h)⟩ hi) ?_
  rintro u H4⟨uM,kk,bN,hu⟩
  cases hu
  have c0:H4[H3.length]?=some (.cells [.str m.1,.int .u64 m.2]):=uM.get (by rw[aU rfl])
  have BU:Ext H3 H4:=(Ext.rfl'.app _).trans uM
  have s4:=BU.get Aj.hs
  have v4:=BU.get Aj.hv
  obtain⟨hd,oM⟩:∃hd,hd=pw (ah s.vs m):=⟨_,rfl⟩
  rw[←oM]at hh bN
  have cr:=all_map (enc:=eK) (n:=5) (fun _=>rfl) (pg s (l.take i))
  have U1:((pg s (l.take i)).map eK).length≤8000000:=by simp -implicitDefEqProofs only[pg,List.length_map,List.length_take];omega
  obtain⟨k',H5,ha,Oz,dG⟩:=kZ (bytes:=72) ((pg s (l.take i)).map eK) [[T.str m.1,.int .u64 m.2,.str hd.value,.sl .arg (hd.keys.map eS),.int .i64 hd.a9]] (mJ.ext BU) (Nat.le_trans xg.len BU.len) (by simp) (jn (by simp -implicitDefEqProofs only[List.length_cons,List.length_nil];omega))
  have tV:=uG ha (by simp)
  simp -implicitDefEqProofs only[op,ef,cl,sq,reduceIte,j2,j3,j4,j5,j6,j7,j8,j9,y1,S1]at ha
  simp -implicitDefEqProofs only[op,ef,cl,sq,reduceIte,j2,j3,j4,j5,j6,j7,j8,j9,y1,S1,SI,h3,c0,s4,v4,lZ,hh,ff,←oM,cr,ha,h0,a0,aA,bg,ws]
  refine⟨i+1,by omega,.i ⟨k',?_,dG.ext H (by have:=jv.len;omega) (pd.trans BU),dG.ext H2 (Nat.le_refl _) (xg.trans BU),Oz,fun h=>absurd h tV⟩,rfl,by omega⟩
  rw[cD hm]
  simp -implicitDefEqProofs only[pg,List.map_append,List.map_cons,List.map_nil,eK,←oM]
 ·have mK:i=l.length:=by omega
  subst mK
  rw[List.take_length]at h3 mL
  simp -implicitDefEqProofs only[op,ef,cl,sq,reduceIte,j2,j3,j4,j5,j6,j7,j8,j9,y1,S1,h3,aA,bg,au]
  exact⟨pd,kw,l,mL,rfl,fy,JU⟩
theorem tD:∀(l l':List Nm),l.Pairwise (fun a b=>aX a b=true)→l'.Pairwise (fun a b=>aX a b=true)→(∀x,x∈l↔x∈l')→l=l'
 | [],[],_,_,_=>rfl
 | [],b :: l',_,_,h=>by have:=(h b).2 (by simp);simp at this
 | a :: l,[],_,_,h=>by have:=(h a).1 (by simp);simp at this
 | a :: l,b :: l',h1,h2,h=>by
  rw[List.pairwise_cons]at h1 h2
  have e:a=b:=by
   rcases List.mem_cons.1 ((h a).1 (by simp))with e|e
   ·exact e
   ·rcases List.mem_cons.1 ((h b).2 (by simp))with e2|e2
    ·exact e2.symm
    ·have q1:=h2.1 a e
     have q2:=h1.1 b e2
     have:=lL q1 q2
     rw[lK]at this;cases this
  subst e
  rw[tD l l' h1.2 h2.2 fun x=>?_]
  have hx:=h x
  simp -implicitDefEqProofs only[List.mem_cons]at hx
  constructor
  ·intro hm
   rcases hx.1 (.inr hm)with e|e
   ·subst e;have:=h1.1 x hm;rw[lK]at this;cases this
   ·exact e
  ·intro hm
   rcases hx.2 (.inr hm)with e|e
   ·subst e;have:=h2.1 x hm;rw[lK]at this;cases this
   ·exact e
theorem mem_keys {α β:Type}[DecidableEq α]{es:List (α×β)}{k:α}:k∈es.map (·.1)↔(ah es k).isSome=true:=by
 cases h:ah es k with
 | none=>simp[cz.1 h]
 | some v =>
  simp -implicitDefEqProofs only[Option.isSome_some,iff_true]
  exact List.mem_map.2 ⟨_,BL h,rfl⟩
theorem OA {α:Type}{l l':List α}(h1:l.Nodup)(h2:l'.Nodup)(h:∀x,x∈l↔x∈l'):l.length=l'.length:=((List.perm_ext_iff_of_nodup h1 h2).2 h).length_eq
def tA:ByteArray:=⟨#[97]⟩
def tB:ByteArray:=⟨#[98]⟩
def tX:ByteArray:=⟨#[120]⟩
def tY:ByteArray:=⟨#[121]⟩
def tZ:ByteArray:=⟨#[122]⟩
abbrev l1:List (ByteArray×ByteArray):=[(tA,tX),(tB,tY)]
abbrev l2:List (ByteArray×ByteArray):=[(tA,tZ)]
theorem SH.ext {H H':af}{b:Bk}{s:dk}{F:Nat→Prop}(h:SH H b s F)(hx:Ext H H'):SH H' b s F:=by
 obtain⟨im,pm,sa⟩:=h
 exact⟨im,pm,sa.lg (ay (F:=fun _=>False) hx) (fun _ _ _ h=>h)⟩
theorem bh.more {H H' vE:af}{G:Nat→Prop}(h:bh (fun _=>False) H H')(h':bh G H' vE)(hg:∀c,G c→H.length≤c):bh (fun _=>False) H vE:=h.trans h' fun c hc=>.inr (hg c hc)
theorem bh.ext {H H' vE:af}{F:Nat→Prop}(h:bh F H H')(h':Ext H' vE):bh F H vE:=h.trans (ay (F:=fun _=>False) h') fun c hc=>hc.elim
theorem eM {H H':af}(h:bh (fun _=>False) H H'):Ext H H':=mM fun c x hx=>h.get hx id
theorem li0 {k:SK}{a b c:List T}(h:a.length=5):dE 5 0 (.sl k [a,b,c])=some (.cP a):=by simp[dE,h]
theorem Za {k:SK}{a b c:List T}(h:b.length=5):dE 5 1 (.sl k [a,b,c])=some (.cP b):=by simp[dE,h]
end Go.Proofs.YtdcpehdijdllpaaGreat.St
end

section
namespace Go.Proofs.YtdcpehdijdllpaaGreat.St
open Go.Rmp Go.Proofs.YtdcpehdijdllpaaGreat.Ir
set_option maxRecDepth 10000
def ZL (c:Nat)(d':Array ByteArray)(H:af):Out→af→Prop:=fun o H'=>o=.val (.bF [])∧H'[c]?=some (.cells (aJ eS d'.toList))∧bh (fun x=>x=c) H H'
theorem qZ {Hx:af}{c:Nat}(d:Array ByteArray){i j:Nat}(hi:i<d.size)(hj:j<d.size) :
  pr Hx c [.str d[j]!] (i*1) (some (.cells (aJ eS d.toList)))=some (Hx.set c (.cells (aJ eS (d.toList.set i d[j]!)))) ∧
  ∀Hy,pr Hy c [.str d[i]!] (j*1) (some (.cells (aJ eS (d.toList.set i d[j]!))))=some (Hy.set c (.cells (aJ eS (Go.Sort.swp d i j).toList))):=by
 have g1:=lE (enc:=eS) (n:=1) (y:=d[j]!) (fun _=>rfl) (iK hi) Hx c (eS d[j]!) 0 (by simp[eS]) (by simp[eS])
 obtain⟨z,hz⟩:=cj (l:=d.toList.set i d[j]!) (i:=j) (by simpa using hj)
 have g2:=fun Hy=>lE (enc:=eS) (n:=1) (y:=d[i]!) (fun _=>rfl) hz Hy c (eS d[i]!) 0 (by simp[eS]) (by simp[eS])
 refine⟨by simpa[eS]using g1,fun Hy=>?_⟩
 rw[xb]
 simpa[eS]using g2 Hy
theorem yK {d:Array ByteArray}{i:Nat}(h:i<d.size):sd 1 (i*1) (some (.cells (aJ eS d.toList)))=some [.str d[i]!]:=by
 have:=jM (enc:=eS) (n:=1) (fun _=>rfl) (iK h) 0 1 (by decide)
 simpa[eS]using this
open Go.Sort in
theorem To (c:Nat)(d:Array ByteArray)(a b:Nat)(H:af)(hc:H[c]?=some (.cells (aJ eS d.toList)))(hb:b≤d.size)(gb:a≤b)(hs:d.size<4611686018427387903) :
  W env (.call 142 [.ax c 0 d.size 1,.int .i64 a,.int .i64 b]) H (ZL c (insertionSort strLt d a b) H):=by
 refine W.bR rfl rfl rfl ?_
 have wa:=aC (show a<9223372036854775807 by omega)
 simp -implicitDefEqProofs only[Ad,op,ef,cl,sq,reduceIte,j2,j3,j4,j5,j6,j7,j8,j9,y1,S1,wa]
 refine W.cG (fun (i:Nat) R H'=>At H' (fun H'=>∃di:Array ByteArray,H'[c]?=some (.cells (aJ eS di.toList))∧di.size=d.size∧insOuter strLt a b i di=insertionSort strLt d a b∧bh (fun x=>x=c) H H')∧R 0=.ax c 0 d.size 1∧R 1=.int .i64 a∧R 2=.int .i64 b∧R 6=.int .i64 i∧a+1≤i) (fun i=>b-i) (a+1) ⟨.i ⟨d,hc,rfl,rfl,bh.refl _ _⟩,rfl,rfl,rfl,rfl,Nat.le_refl _⟩ ?_
 rintro i R H1⟨⟨di,hd,a6,yz,aq⟩,h0,h1,h2,h6,vu⟩
 by_cases au:i<b
 ·have wi:=aC (show i<9223372036854775807 by omega)
  simp -implicitDefEqProofs only[op,ef,cl,sq,reduceIte,j2,j3,j4,j5,j6,j7,j8,j9,y1,S1,h0,h1,h2,h6,au]
  refine W.cN 2 (fun (j:Nat) R H'=>At H' (fun H'=>∃dj:Array ByteArray,H'[c]?=some (.cells (aJ eS dj.toList))∧dj.size=d.size∧insInner strLt a j dj=insInner strLt a i di∧bh (fun x=>x=c) H H')∧R 0=.ax c 0 d.size 1∧R 1=.int .i64 a∧R 2=.int .i64 b∧R 6=.int .i64 i∧R 7=.int .i64 j∧j≤i) (fun j=>j) i
   (fun R H'=>At H' (fun H'=>∃dj:Array ByteArray,H'[c]?=some (.cells (aJ eS dj.toList))∧dj.size=d.size∧dj=insInner strLt a i di∧bh (fun x=>x=c) H H')∧R 0=.ax c 0 d.size 1∧R 1=.int .i64 a∧R 2=.int .i64 b∧R 6=.int .i64 i) ?_ ?_ ?_
  ·refine⟨.i ⟨di,hd,a6,rfl,aq⟩,?_,?_,?_,?_,?_,Nat.le_refl _⟩
   all_goals (simp -implicitDefEqProofs only[op,ef,cl,sq,reduceIte,j2,j3,j4,j5,j6,j7,j8,j9,y1,S1,h0,h1,h2,h6])
  ·rintro j R H2⟨⟨dj,cu,px,qV,jO⟩,q0,q1,q2,q6,q7,Qy⟩
   by_cases Of:a<j
   ·obtain⟨j',rfl⟩:∃j',j=j'+1:=⟨j-1,by omega⟩
    have wp:IntKind.i64.wrap (((j'+1:Nat):Int)-1)=(j':Int):=by rw[wrap64 (by omega)];omega
    have j1:j'+1<d.size:=by omega
    have j0:j'<d.size:=by omega
    have i1:dE 1 (j'+1) (.ax c 0 d.size 1)=some (.ptr c ((j'+1)*1)):=by rw[jV];simp[j1]
    have i0:dE 1 j' (.ax c 0 d.size 1)=some (.ptr c (j'*1)):=by rw[jV];simp[j0]
    have v1:=yK (d:=dj) (i:=j'+1) (by omega)
    have v0:=yK (d:=dj) (i:=j') (by omega)
    simp -implicitDefEqProofs only[op,ef,cl,sq,reduceIte,j2,j3,j4,j5,j6,j7,j8,j9,y1,S1,q0,q1,q2,q6,q7,Of,aa,i1,i0,wp,cu,v1,v0]
    refine ae _ _ _ _ _ _ _ _ (dI dj[j'+1]! dj[j']! _) ?_
    rintro u H3⟨hu,rfl⟩
    cases hu
    have nL:=cu
    obtain⟨s1,s2⟩:=qZ (Hx:=H3) (c:=c) dj (i:=j'+1) (j:=j') (by omega) (by omega)
    cases mr:strLt dj[j'+1]! dj[j']! with
    | true =>
     simp -implicitDefEqProofs only[op,ef,cl,sq,reduceIte,j2,j3,j4,j5,j6,j7,j8,j9,y1,S1,q0,q1,q2,q6,q7,aa,i1,i0,wp,nL,v1,v0,s1,S2,s2,aW nL]
     exact⟨j',by omega,.i ⟨swp dj (j'+1) j',bU (by rw[List.length_set];exact aW nL),by rw[swp_size];exact px,by rw[←qV];conv=>{ rhs;rw[insInner,if_pos (by simp -implicitDefEqProofs only[Bool.and_eq_true,decide_eq_true_eq];exact⟨Of,mr⟩)] },(jO.set (.inl rfl) _).set (.inl rfl) _⟩,rfl,by omega⟩
    | false =>
     simp -implicitDefEqProofs only[op,ef,cl,sq,reduceIte,j2,j3,j4,j5,j6,j7,j8,j9,y1,S1,q0,q1,q2,q6,q7]
     exact .i ⟨dj,nL,px,by rw[←qV,insInner];simp[mr],jO⟩
   ·simp -implicitDefEqProofs only[op,ef,cl,sq,reduceIte,j2,j3,j4,j5,j6,j7,j8,j9,y1,S1,q0,q1,q2,q6,q7,Of]
    refine .i ⟨dj,cu,px,?_,jO⟩
    rw[←qV]
    cases j with
    | zero=>rfl
    | succ j=>rw[insInner,if_neg (by simp -implicitDefEqProofs only[Bool.and_eq_true,decide_eq_true_eq];omega)]
  ·rintro R H2⟨⟨dj,cu,px,qV,jO⟩,q0,q1,q2,q6⟩
   simp -implicitDefEqProofs only[op,ef,cl,sq,reduceIte,j2,j3,j4,j5,j6,j7,j8,j9,y1,S1,q0,q1,q2,q6,wi]
   refine⟨i+1,by omega,.i ⟨dj,cu,px,?_,jO⟩,rfl,by omega⟩
   rw[←yz,qV]
   conv=>rhs;rw[insOuter,if_pos au]
 ·simp -implicitDefEqProofs only[op,ef,cl,sq,reduceIte,j2,j3,j4,j5,j6,j7,j8,j9,y1,S1,h0,h1,h2,h6,au]
  rw[insOuter,if_neg au]at yz
  subst yz
  exact⟨rfl,hd,aq⟩
theorem lM:Go.Sort.SWO strLt where
 irrefl:=fc
 trans _ _ _ h1 h2:=et h1 h2
 ntrans x y z h1 h2:=by
  cases h:strLt x z with
  | false=>rfl
  | true =>
   cases h3:strLt y x with
   | true=>rw[et h3 h]at h2;cases h2
   | false=>have:=qJ h1 h3;subst this;rw[h]at h2;cases h2
theorem OB (H:af):W env (.call 142 [.sl .nil [],.int .i64 0,.int .i64 0]) H (mY (.bF []) H):=by
 refine W.bR rfl rfl rfl ?_
 have wa:IntKind.i64.wrap ((0:Int)+1)=1:=by decide
 simp -implicitDefEqProofs only[Ad,op,ef,cl,sq,reduceIte,j2,j3,j4,j5,j6,j7,j8,j9,y1,S1,wa]
 refine W.cG (fun (_:Nat) R H'=>H'=H∧R 2=.int .i64 0∧R 6=.int .i64 1) (fun _=>0) 0 ⟨rfl,rfl,rfl⟩ ?_
 rintro _ R _⟨rfl,h2,h6⟩
 have l0:¬((1:Int)<0):=by decide
 simp -implicitDefEqProofs only[op,ef,cl,sq,reduceIte,j2,j3,j4,j5,j6,j7,j8,j9,y1,S1,h2,h6,l0]
 trivial
theorem OC (m:Nat)(H:af):W env (.call 122 [.sl .nil [],.int .i64 0,.int .i64 0,.int .i64 m]) H (mY (.bF []) H):=by
 refine W.bR rfl rfl rfl ?_
 have w1:IntKind.i64.wrap ((0:Int)-0)=0:=by decide
 simp -implicitDefEqProofs only[ey,op,ef,cl,sq,reduceIte,j2,j3,j4,j5,j6,j7,j8,j9,y1,S1]
 refine W.cG (fun (_:Nat) R H'=>H'=H∧R 0=.sl .nil []∧R 1=.int .i64 0∧R 2=.int .i64 0) (fun _=>0) 0 ⟨rfl,rfl,rfl,rfl⟩ ?_
 rintro _ R _⟨rfl,h0,h1,h2⟩
 have l0:(0:Int)≤12:=by decide
 simp -implicitDefEqProofs only[op,ef,cl,sq,reduceIte,j2,j3,j4,j5,j6,j7,j8,j9,y1,S1,h0,h1,h2,w1,l0]
 refine ae _ _ _ _ _ _ _ _ (OB _) ?_
 rintro u H2⟨hu,rfl⟩
 cases hu
 simp -implicitDefEqProofs only[op,ef,cl,sq,reduceIte,j2,j3,j4,j5,j6,j7,j8,j9,y1,S1]
 trivial
theorem JV (H:af):W env (.call 99 [.sl .nil []]) H (mY (.bF []) H):=by
 refine W.bR rfl rfl rfl ?_
 have w1:IntKind.u64.wrap ((0:Nat):Int)=((0:Nat):Int):=by decide
 have e0:((0:Nat):Int)=0:=rfl
 simp -implicitDefEqProofs only[Ju,op,ef,cl,sq,reduceIte,j2,j3,j4,j5,j6,j7,j8,j9,y1,S1,w1]
 refine ae _ _ _ _ _ _ _ _ (S0 0 (by omega) _) ?_
 rintro u H1⟨rfl,m,hu⟩
 cases hu
 simp -implicitDefEqProofs only[op,ef,cl,sq,reduceIte,j2,j3,j4,j5,j6,j7,j8,j9,y1,S1,e0]
 refine ae _ _ _ _ _ _ _ _ (OC m _) ?_
 rintro u H2⟨hu,rfl⟩
 cases hu
 simp -implicitDefEqProofs only[op,ef,cl,sq,reduceIte,j2,j3,j4,j5,j6,j7,j8,j9,y1,S1]
 trivial
def OD (es:List (ByteArray×T))(H:af):Out→af→Prop:=fun o H'=>Ext H H'∧∃t l,o=.val t∧pc eS 1 H.length H' t l∧l.Perm (es.map (·.1))∧l.Pairwise (fun a b=>strLt a b=true)
def eL (x:ByteArray×Nat):List T:=[.str x.1,.int .u64 x.2]
def ph (s:dk)(l:List ByteArray):List (ByteArray×Nat):=l.map fun k=>(k,bE s k)
def OE (s:dk)(H:af):Out→af→Prop:=fun o H'=>Ext H H'∧∃k l,gz k l∧o=.val (.sl k ((ph s l).map eL))∧l.Perm (s.ls.map (·.1))∧l.Pairwise (fun a b=>strLt a b=true)
end Go.Proofs.YtdcpehdijdllpaaGreat.St
end
