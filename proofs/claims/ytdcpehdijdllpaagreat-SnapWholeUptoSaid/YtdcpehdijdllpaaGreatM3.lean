/- Part of a proof of a law of this seat: the machine of plain values, its simulation, and the contracts of the functions that the law reaches. Conditions: none beyond the given row. -/
import Derived.Test.YtdcpehdijdllpaaGreatM2
import Derived.Sort.AssemblyPlain
open Int renaming reduceLT → j2, reduceLE → j3, reduceBEq → j4, reduceBNe → j5, reduceEq → j6
open Nat renaming reduceAdd → j7, reduceLeDiff → j8, reduceLT → j9, reduceEqDiff → y1
set_option linter.unusedSimpArgs false
set_option linter.unusedVariables false
set_option linter.unnecessarySimpa false
set_option maxHeartbeats 4000000
section
namespace Go.Proofs.YtdcpehdijdllpaaGreat.St
open Go.Rmp Go.Proofs.YtdcpehdijdllpaaGreat.Ir
set_option maxRecDepth 10000
theorem ui.ZY {H:af}{b:Bk}{im:List (ByteArray×T)}{pm:List (Nat×T)}{s:dy}{F:Nat→Prop}(h:ui H b im pm s F)(vs:List (Nm×Hd)):ui (H.set b.v (.map (bh kN (dZ vs)))) b im pm { s with vs:=vs } F:=by
 obtain⟨n1,n2,n3,n4⟩:=h.ne
 have k:∀{c x},c≠b.v→H[c]?=some x→(H.set b.v (.map (bh kN (dZ vs))))[c]?=some x:=fun hc hx=>by rw[bj (Ne.symm hc)];exact hx
 exact⟨k (Ne.symm n1) h.hs,bX (aY h.hv),k (Ne.symm h.vi) h.hi,k (Ne.symm h.vp) h.hp,k (Ne.symm h.vl) h.hl,h.vi,h.vp,h.vl,h.ip,h.il,h.pl,h.F0,
  fun q=>(h.oi q).dQ (fun c x hc hx=>k (h.jq hc).2.1 hx) (fun _ _ h=>h),fun q=>(h.op q).dQ (fun c x hc hx=>k (h.kG hc).2.1 hx) (fun _ _ h=>h),h.si,h.sp,h.sx,h.np⟩
theorem ui.TK {H:af}{b:Bk}{im:List (ByteArray×T)}{pm:List (Nat×T)}{s:dy}{F:Nat→Prop}(h:ui H b im pm s F)(ls:List (ByteArray×Nat)):ui (H.set b.l (.map (bh T.str (kF ls)))) b im pm { s with ls:=ls } F:=by
 obtain⟨n1,n2,n3,n4⟩:=h.ne
 have k:∀{c x},c≠b.l→H[c]?=some x→(H.set b.l (.map (bh T.str (kF ls))))[c]?=some x:=fun hc hx=>by rw[bj (Ne.symm hc)];exact hx
 exact⟨k (Ne.symm n4) h.hs,k h.vl h.hv,k h.il h.hi,k h.pl h.hp,bX (aY h.hl),h.vi,h.vp,h.vl,h.ip,h.il,h.pl,h.F0,
  fun q=>(h.oi q).dQ (fun c x hc hx=>k (h.jq hc).2.2.2.2.1 hx) (fun _ _ h=>h),fun q=>(h.op q).dQ (fun c x hc hx=>k (h.kG hc).2.2.2.2.1 hx) (fun _ _ h=>h),h.si,h.sp,h.sx,h.np⟩
def stamped (h:Hd)(now:Int):Hd:={ h with bg:=now }
def VS (v v':List (Nm×Hd))(now:Int)(S:Nm→Prop):Prop:=(v'.map (·.1)).Nodup∧∀m,(ai v m=none→ai v' m=none)∧∀h,ai v m=some h→(S m∧h.bg=-1→ai v' m=some (stamped h now))∧(¬(S m∧h.bg=-1)→ai v' m=some h)
theorem VS.some {v v':List (Nm×Hd)}{now:Int}{S:Nm→Prop}(h:VS v v' now S)(m:Nm):(ai v' m).isSome=(ai v m).isSome:=by
 obtain⟨h1,h2⟩:=h.2 m
 cases e:ai v m with
 | none=>rw[h1 e]
 | some x =>
  by_cases hc:S m∧x.bg=-1
  ·rw[(h2 x e).1 hc];rfl
  ·rw[(h2 x e).2 hc]
theorem VS.inv {s:dy}(hi:gv s){v':List (Nm×Hd)}{now:Int}{S:Nm→Prop}(h:VS s.vs v' now S)(ls:List (ByteArray×Nat))(Ib:(ls.map (·.1)).Nodup):gv { s with vs:=v',ls:=ls }:=by
 refine⟨hi.xF,fun k n=>?_,hi.ON,fun n k=>?_,h.1,fun m x hm=>?_,hi.bi,hi.bp,Ib⟩
 ·show n∈s.ids k↔(ai v' (k,n)).isSome=true
  rw[h.some];exact hi.HZ k n
 ·show k∈s.dh n↔(ai v' (k,n)).isSome=true
  rw[h.some];exact hi.J8 n k
 ·have hm:ai v' m=.some x:=hm
  obtain⟨h1,h2⟩:=h.2 m
  cases e:ai s.vs m with
  | none=>rw[h1 e]at hm;cases hm
  | some y =>
   have hy:=hi.TE m y e
   by_cases hc:S m∧y.bg=-1
   ·rw[(h2 y e).1 hc]at hm;cases hm;exact hy
   ·rw[(h2 y e).2 hc]at hm;cases hm;exact hy
theorem VS.nil {v:List (Nm×Hd)}(hn:(v.map (·.1)).Nodup){now:Int}:VS v v now (fun _=>False):=⟨hn,fun m=>⟨id,fun h e=>⟨fun hh=>hh.1.elim,fun _=>e⟩⟩⟩
theorem VS.mono {v v':List (Nm×Hd)}{now:Int}{S S':Nm→Prop}(h:VS v v' now S)(hs:∀m,(ai v m).isSome=true→(S m↔S' m)):VS v v' now S':=⟨h.1,fun m=>⟨(h.2 m).1,fun x e=>by
 have:=hs m (by rw[e];rfl)
 rw[←this];exact(h.2 m).2 x e⟩⟩
theorem VS.add {v v':List (Nm×Hd)}{now:Int}{S:Nm→Prop}(h:VS v v' now S){m:Nm}{x:Hd}(hx:ai v' m=.some x)(hc:x.bg=-1)(hS:¬S m):VS v (cu v' m (stamped x now)) now (fun m'=>S m'∨m'=m):=by
 refine⟨db h.1 _ _,fun m'=>?_⟩
 rw[br]
 by_cases e:m'=m
 ·subst e
  simp -implicitDefEqProofs only[if_true]
  have e2:=h.some m'
  rw[hx]at e2
  refine⟨fun hn=>(by rw[hn]at e2;cases e2),fun y hy=>?_⟩
  have:y=x:=by
   have:=((h.2 m').2 y hy).2 fun hh=>hS hh.1
   rw[hx]at this;exact(Option.some.inj this).symm
  subst this
  exact⟨fun _=>rfl,fun hh=>absurd ⟨.inr trivial,hc⟩ hh⟩
 ·simp -implicitDefEqProofs only[e,if_false,or_false]
  exact h.2 m'
theorem VS.skip {v v':List (Nm×Hd)}{now:Int}{S:Nm→Prop}(h:VS v v' now S){m:Nm}{x:Hd}(hx:ai v' m=.some x)(hc:x.bg≠-1)(hS:¬S m):VS v v' now (fun m'=>S m'∨m'=m):=by
 refine⟨h.1,fun m'=>⟨(h.2 m').1,fun y hy=>?_⟩⟩
 by_cases e:m'=m
 ·subst e
  have:=((h.2 m').2 y hy).2 fun hh=>hS hh.1
  have e2:y=x:=by rw[hx]at this;exact(Option.some.inj this).symm
  subst e2
  exact⟨fun hh=>absurd hh.2 hc,fun _=>hx⟩
 ·simp -implicitDefEqProofs only[e,or_false]
  exact(h.2 m').2 y hy
structure sU (s s':dy)(n:Nat)(now:Int)(D:List ByteArray):Prop where
 vs:VS s.vs s'.vs now (fun m=>m.1∈D∧bN s m.1<n∧m.2<n)
 on:∀k,k∈D→bN s k<n→ai s'.ls k=.some n
 off:∀k,¬(k∈D∧bN s k<n)→ai s'.ls k=ai s.ls k
 yX:(s.ls.map (·.1)).Nodup→(s'.ls.map (·.1)).Nodup
def ZZ (b:Bk)(s:dy)(F:Nat→Prop)(n:Nat)(now:Int)(H:af):Out→af→Prop:=fun o H'=>∃s',o=.val (.bJ [.int .i64 (s.dh n).length,.int .i64 0])∧SH H' b s' F∧gv s'∧sU s s' n now (s.dh n)∧s'.n=s.n∧s'.dh=s.dh∧s'.ids=s.ids∧bm F H H'
theorem sU.skip {s s':dy}{n:Nat}{now:Int}{D:List ByteArray}(h:sU s s' n now D){k:ByteArray}(hk:n≤bN s k):sU s s' n now (D++[k]):=by
 have key:∀k',k'∈D++[k]∧bN s k'<n→k'∈D:=fun k' hh=>by
  rcases List.mem_append.1 hh.1 with h|h
  ·exact h
  ·simp at h;subst h;omega
 exact⟨h.vs.mono fun m _=>⟨fun hh=>⟨List.mem_append_left _ hh.1,hh.2⟩,fun hh=>⟨key _ ⟨hh.1,hh.2.1⟩,hh.2⟩⟩,fun k' h1 h2=>h.on k' (key _ ⟨h1,h2⟩) h2,fun k' hh=>h.off k' fun h'=>hh ⟨List.mem_append_left _ h'.1,h'.2⟩,h.yX⟩
theorem sU.add {s s' s2:dy}{n:Nat}{now:Int}{D:List ByteArray}(h:sU s s' n now D){k:ByteArray}(hk:bN s k<n)(hl:s2.ls=cu s'.ls k n)
  (hv:VS s.vs s2.vs now (fun m=>(m.1∈D∧bN s m.1<n∧m.2<n)∨(m.1=k∧m.2<n))):sU s s2 n now (D++[k]):=by
 refine⟨hv.mono fun m _=>?_,fun k' h1 h2=>?_,fun k' hh=>?_,fun hh=>by rw[hl];exact db (h.yX hh) _ _⟩
 ·simp -implicitDefEqProofs only[List.mem_append,List.mem_singleton]
  constructor
  ·rintro (⟨a,b,c⟩|⟨a,c⟩)
   ·exact⟨.inl a,b,c⟩
   ·exact⟨.inr a,by rw[a];exact hk,c⟩
  ·rintro⟨a|a,b,c⟩
   ·exact .inl ⟨a,b,c⟩
   ·exact .inr ⟨a,c⟩
 ·rw[hl,br]
  by_cases e:k'=k
  ·rw[if_pos e]
  ·rw[if_neg e];exact h.on k' (by simpa[e]using h1) h2
 ·rw[hl,br,if_neg]
  ·exact h.off k' fun h'=>hh ⟨List.mem_append_left _ h'.1,h'.2⟩
  ·rintro rfl;exact hh ⟨by simp,hk⟩
theorem Gq (b:Bk)(s:dy)(F:Nat→Prop)(n:Nat)(now:Int)(H:af)(hs:SH H b s F)(hi:gv s)(hn:s.n≤8000000)(TL:65536≤n)(ht:bq now) :
  W env (.call 24 [.ptr b.s 0,.int .u64 n,.int .i64 now]) H (ZZ b s F n now H):=by
 obtain⟨im,pm,sa⟩:=hs
 have Z0:¬(n<65536):=by omega
 obtain⟨t,y0⟩:∃t,jo (ai pm n) (.sl .nil []) false=t:=⟨_,rfl⟩
 have aw:=((sa.op n).mut).len
 rw[y0]at aw
 have hbp:=hi.bp n
 refine W.bU rfl rfl rfl ?_
 simp -implicitDefEqProofs only[Ft,op,ef,cl,sq,reduceIte,j2,j3,j4,j5,j6,j7,j8,j9,y1,S1,Z0]
 refine ae _ _ _ _ _ _ _ _ (rB now _) ?_
 rintro u H⟨hu,rfl⟩
 have Gn:(decide (0≤now)&&decide (now≤1099511627776))=true:=by simp[ht.1,ht.2]
 rw[Gn]at hu
 cases hu
 simp -implicitDefEqProofs only[op,ef,cl,sq,reduceIte,j2,j3,j4,j5,j6,j7,j8,j9,y1,S1,sa.hs,sa.hp,lH,y0]
 have hl:=fun Hx (h:pS eS 1 0 Hx t (s.dh n))=>h.len
 have hlH:∀Hx,iH Hx .sl t=some (s.dh n).length:=fun Hx=>by
  have:=(sa.op n).mut
  rw[y0]at this
  rcases this with⟨e,rfl⟩|⟨c,rfl,_,_⟩
  ·rw[e];rfl
  ·rfl
 simp -implicitDefEqProofs only[op,ef,cl,sq,reduceIte,j2,j3,j4,j5,j6,j7,j8,j9,y1,S1,hlH]
 refine W.cH (fun (i:Nat) R H'=>At H' (fun H'=>∃s',ui H' b im pm s' F∧s'.n=s.n∧s'.dh=s.dh∧s'.ids=s.ids∧sU s s' n now ((s.dh n).take i)∧bm F H H')∧R 0=.ptr b.s 0∧R 1=.int .u64 n∧R 2=.int .i64 now∧R 25=t∧R 26=.int .i64 (s.dh n).length∧R 27=.int .i64 i∧i≤(s.dh n).length) (fun i=>(s.dh n).length-i) 0 ?_ ?_
 ·refine⟨.i ⟨s,sa,rfl,rfl,rfl,⟨(VS.nil hi.nd).mono fun m _=>⟨fun h=>h.elim,fun h=>by simp at h⟩,by simp,fun _ _=>rfl,id⟩,bm.refl _ _⟩,?_,?_,?_,?_,?_,?_,Nat.zero_le _⟩
  all_goals (simp -implicitDefEqProofs only[op,ef,cl,sq,reduceIte,j2,j3,j4,j5,j6,j7,j8,j9,y1,S1];try rfl)
 rintro i R H2⟨⟨s',Ie,BC,yc,Kb,sL,au⟩,h0,h1,h2,Wn,Wo,Wp,lx⟩
 by_cases aw:i<(s.dh n).length
 ·obtain⟨k,hk⟩:=cw aw
  have ws:=aC (show i<9223372036854775807 by omega)
  have AH:pS eS 1 0 H2 t (s.dh n):=by
   have:=(Ie.op n).mut
   rwa[y0,yc]at this
  obtain⟨c,g1,g2,g3⟩:=po (enc:=eS) (fun _=>rfl) AH hk
  have mQ:k∉(s.dh n).take i:=fun hh=>by
   obtain⟨j,hj,e2⟩:=List.getElem_of_mem hh
   have y6:j<i∧j<(s.dh n).length:=by simp -implicitDefEqProofs only[List.length_take]at hj;omega
   have Sf:(s.dh n)[j]?=some k:=by rw[←e2];simp[List.getElem?_eq_getElem y6.2]
   have:=(List.getElem?_inj y6.2 (hi.ON n)).1 (Sf.trans hk.symm)
   omega
  have iG:=oe s' k
  have Ib:bN s' k=bN s k:=by unfold bN;rw[sL.off k fun h=>mQ h.1]
  rw[Ib]at iG
  by_cases eu:n≤bN s k
  ·simp -implicitDefEqProofs only[op,ef,cl,sq,reduceIte,j2,j3,j4,j5,j6,j7,j8,j9,y1,S1,h0,h1,h2,Wn,Wo,Wp,aw,aa,g1,g2,g3,eS,Ie.hs,Ie.hl,fC,iG,eu,ws]
   exact⟨i+1,by omega,.i ⟨s',Ie,BC,yc,Kb,by rw[cE hk];exact sL.skip eu,au⟩,rfl,by omega⟩
  ·have Z1:bN s k<n:=by omega
   have Z2:∀Hx,xm (.sc .str) Hx b.l (some (.map (bh T.str (kF s'.ls)))) (.str k) (.int .u64 n)=some (b0,Hx.set b.l (.map (bh T.str (kF (cu s'.ls k n))))):=fun Hx=>by
    rw[ng];congr 4;exact congrArg (bh T.str) (oc (fun n:Nat=>T.int .u64 n) s'.ls k n)
   have AJ:=Ie.TK (cu s'.ls k n)
   obtain⟨t2,OO⟩:∃t2,jo (ai im k) (.sl .nil []) false=t2:=⟨_,rfl⟩
   have TM:∀Hx,iH Hx .sl t2=some (s.ids k).length:=fun Hx=>by
    have:=(sa.oi k).mut
    rw[OO]at this
    rcases this with⟨e,rfl⟩|⟨c,rfl,_,_⟩
    ·rw[e];rfl
    ·rfl
   simp -implicitDefEqProofs only[op,ef,cl,sq,reduceIte,j2,j3,j4,j5,j6,j7,j8,j9,y1,S1,h0,h1,h2,Wn,Wo,Wp,aw,aa,g1,g2,g3,eS,Ie.hs,Ie.hl,fC,iG,eu,Z2,AJ.hs,AJ.hi,OO,TM]
   refine W.cP 2 (fun (j:Nat) R H'=>At H' (fun H'=>∃v',ui H' b im pm { s' with vs:=v',ls:=cu s'.ls k n } F∧VS s.vs v' now (fun m=>(m.1∈(s.dh n).take i∧bN s m.1<n∧m.2<n)∨(m.1=k∧m.2∈(s.ids k).take j))∧bm F H H')∧R 0=.ptr b.s 0∧R 1=.int .u64 n∧R 2=.int .i64 now∧R 9=.str k∧R 25=t∧R 26=.int .i64 (s.dh n).length∧R 27=.int .i64 i∧R 50=t2∧R 51=.int .i64 (s.ids k).length∧R 52=.int .i64 j∧j≤(s.ids k).length∧∀p a,p<j→(s.ids k)[p]?=some a→a<n) (fun j=>(s.ids k).length-j) 0
    (fun R H'=>At H' (fun H'=>∃v',ui H' b im pm { s' with vs:=v',ls:=cu s'.ls k n } F∧VS s.vs v' now (fun m=>(m.1∈(s.dh n).take i∧bN s m.1<n∧m.2<n)∨(m.1=k∧m.2<n))∧bm F H H')∧R 0=.ptr b.s 0∧R 1=.int .u64 n∧R 2=.int .i64 now∧R 25=t∧R 26=.int .i64 (s.dh n).length∧R 27=.int .i64 i) ?_ ?_ ?_
   ·refine⟨.i ⟨s'.vs,AJ,sL.vs.mono fun m _=>⟨.inl,fun h=>h.elim id fun h=>by simp at h⟩,au.set (.inl sa.F0.2.2.2.2) _⟩,?_,?_,?_,?_,?_,?_,?_,?_,?_,?_,Nat.zero_le _,fun p a h=>by omega⟩
    all_goals (simp -implicitDefEqProofs only[op,ef,cl,sq,reduceIte,j2,j3,j4,j5,j6,j7,j8,j9,y1,S1,h0,h1,h2,Wn,Wo,Wp,TM];try rfl)
   ·rintro j R H3⟨⟨v',Cl,iI,Cm⟩,q0,q1,q2,q9,QI,QJ,QK,Wq,Wr,Ws,Qq,cJ⟩
    by_cases hj:j<(s.ids k).length
    ·obtain⟨o,ho⟩:=cw hj
     have wj:=aC (show j<9223372036854775807 by have:=hi.bi k;omega)
     have Ka:pS eU 1 0 H3 t2 (s.ids k):=by
      have:=(Cl.oi k).mut
      simp -implicitDefEqProofs only[Kb]at this
      rwa[OO]at this
     obtain⟨c2,e1,e2,e3⟩:=po (enc:=eU) (fun _=>rfl) Ka ho
     by_cases Qr:n≤o
     ·simp -implicitDefEqProofs only[op,ef,cl,sq,reduceIte,j2,j3,j4,j5,j6,j7,j8,j9,y1,S1,q0,q1,q2,q9,QI,QJ,QK,Wq,Wr,Ws,hj,aa,e1,e2,e3,eU,Qr]
      refine⟨v',Cl,iI.mono fun m hm=>?_,Cm⟩
      refine or_congr Iff.rfl ⟨fun ⟨a1,a2⟩=>⟨a1,?_⟩,fun ⟨a1,a2⟩=>⟨a1,?_⟩⟩
      ·obtain⟨p,hp,e⟩:=List.getElem_of_mem a2
       have vX:p<j∧p<(s.ids k).length:=by simp -implicitDefEqProofs only[List.length_take]at hp;omega
       exact cJ p m.2 vX.1 (by rw[←e];simp[List.getElem?_eq_getElem vX.2])
      ·have iW:=(hi.HZ k m.2).2 (by rw[←a1];exact hm)
       obtain⟨p,hp,e⟩:=List.getElem_of_mem iW
       have QL:(s.ids k)[p]?=some m.2:=by rw[List.getElem?_eq_getElem hp,e]
       rcases Nat.lt_trichotomy p j with h|h|h
       ·exact List.mem_of_getElem? (i:=p) (by rw[List.getElem?_take,if_pos h];exact QL)
       ·subst h;rw[ho]at QL;cases QL;omega
       ·have:=hi.xF k j p o m.2 h ho QL;omega
     ·have yM:=(hi.HZ k o).1 (List.mem_of_getElem? ho)
      rw[←iI.some]at yM
      obtain⟨x,hx⟩:=Option.isSome_iff_exists.1 yM
      have pr:=yY v' (k,o)
      rw[hx]at pr
      have OP:=fun Hx z ok=>lG vu z ok Hx (dZ v') (k,o)
      simp -implicitDefEqProofs only[kN,eN]at OP
      have hnS:¬(((k,o):Nm).1∈(s.dh n).take i∧bN s ((k,o):Nm).1<n∧((k,o):Nm).2<n∨((k,o):Nm).1=k∧((k,o):Nm).2∈(s.ids k).take j):=by
       rintro (hh|⟨_,hh⟩)
       ·exact mQ hh.1
       ·obtain⟨p,hp,e⟩:=List.getElem_of_mem hh
        have vX:p<j∧p<(s.ids k).length:=by simp -implicitDefEqProofs only[List.length_take]at hp;omega
        have e:((s.ids k).take j)[p]=o:=e
        have QL:(s.ids k)[p]?=some o:=by rw[←e];simp[List.getElem?_eq_getElem vX.2]
        have:=hi.xF k p j o o vX.1 QL ho;omega
      have hSS:∀m:Nm,(((m.1∈(s.dh n).take i∧bN s m.1<n∧m.2<n)∨(m.1=k∧m.2∈(s.ids k).take j))∨m=(k,o))↔((m.1∈(s.dh n).take i∧bN s m.1<n∧m.2<n)∨(m.1=k∧m.2∈(s.ids k).take (j+1))):=fun m=>by
       rw[cE ho,List.mem_append,List.mem_singleton,or_assoc]
       refine or_congr Iff.rfl ?_
       constructor
       ·rintro (⟨a1,a2⟩|rfl)
        ·exact⟨a1,.inl a2⟩
        ·exact⟨rfl,.inr rfl⟩
       ·rintro⟨a1,a2|a2⟩
        ·exact .inl ⟨a1,a2⟩
        ·exact .inr (Prod.ext a1 a2)
      have mH:∀p a,p<j+1→(s.ids k)[p]?=some a→a<n:=fun p a hp ha=>by
       by_cases e:p=j
       ·subst e;rw[ho]at ha;cases ha;omega
       ·exact cJ p a (by omega) ha
      have l0:=aY Cl.hs
      have lv:=aY Cl.hv
      have AI:=fun Hx v=>u7 vu Hx b.v (dZ v') (k,o) v
      simp -implicitDefEqProofs only[kN,eN]at AI
      by_cases dD:x.bg=-1
      ·simp -implicitDefEqProofs only[op,ef,cl,sq,reduceIte,j2,j3,j4,j5,j6,j7,j8,j9,y1,S1,S2,S3,List.length_set,q0,q1,q2,q9,QI,QJ,QK,Wq,Wr,Ws,hj,aa,e1,e2,e3,eU,Qr,Cl.hs,Cl.hv,OP,pr,qd,Option.getD_some,fo,dD,l0,lv,AI,wj]
       have e:cu (dZ v') (k,o) (T.agg [T.str x.value,T.sl x.kk (x.keys.map eS),T.int IntKind.i64 now])=dZ (cu v' (k,o) (stamped x now)):=oc fo v' (k,o) (stamped x now)
       rw[e]
       exact⟨j+1,by omega,.i ⟨_,(Cl.ZY (cu v' (k,o) (stamped x now))).jv (aB (F:=fun _=>False) (Ext.rfl'.app _)) (fun _ _ _ h=>h),(iI.add hx dD hnS).mono fun m _=>hSS m,(Cm.set (.inl sa.F0.2.1) _).app _⟩,rfl,by omega,mH⟩
      ·have OQ:(x.bg==-1)=false:=by simpa using dD
       simp -implicitDefEqProofs only[op,ef,cl,sq,reduceIte,j2,j3,j4,j5,j6,j7,j8,j9,y1,S1,S2,S3,List.length_set,q0,q1,q2,q9,QI,QJ,QK,Wq,Wr,Ws,hj,aa,e1,e2,e3,eU,Qr,Cl.hs,Cl.hv,OP,pr,qd,Option.getD_some,fo,OQ,l0,lv,wj]
       exact⟨j+1,by omega,.i ⟨v',Cl.jv (aB (F:=fun _=>False) (Ext.rfl'.app _)) (fun _ _ _ h=>h),(iI.skip hx dD hnS).mono fun m _=>hSS m,Cm.app _⟩,rfl,by omega,mH⟩
    ·have Z3:j=(s.ids k).length:=by omega
     subst Z3
     simp -implicitDefEqProofs only[op,ef,cl,sq,reduceIte,j2,j3,j4,j5,j6,j7,j8,j9,y1,S1,q0,q1,q2,q9,QI,QJ,QK,Wq,Wr,Ws,hj]
     refine⟨v',Cl,iI.mono fun m hm=>?_,Cm⟩
     rw[List.take_length]
     refine or_congr Iff.rfl ⟨fun ⟨a1,a2⟩=>⟨a1,?_⟩,fun ⟨a1,a2⟩=>⟨a1,(hi.HZ k m.2).2 (by rw[←a1];exact hm)⟩⟩
     obtain⟨p,hp,e⟩:=List.getElem_of_mem a2
     exact cJ p m.2 hp (by rw[List.getElem?_eq_getElem hp,e])
   ·rintro R H3⟨⟨v',Cl,iI,Cm⟩,q0,q1,q2,QI,QJ,QK⟩
    simp -implicitDefEqProofs only[op,ef,cl,sq,reduceIte,j2,j3,j4,j5,j6,j7,j8,j9,y1,S1,q0,q1,q2,QI,QJ,QK,ws]
    exact⟨i+1,by omega,.i ⟨_,Cl,BC,yc,Kb,by rw[cE hk];exact sL.add Z1 rfl iI,Cm⟩,rfl,by omega⟩
 ·have ni:i=(s.dh n).length:=by omega
  subst ni
  rw[List.take_length]at sL
  simp -implicitDefEqProofs only[op,ef,cl,sq,reduceIte,j2,j3,j4,j5,j6,j7,j8,j9,y1,S1,h0,h1,Wo,Wp,aw,Ie.hs,Ie.hp,lH,y0,hlH]
  exact⟨s',rfl,⟨im,pm,Ie⟩,(sL.vs.inv hi s'.ls (sL.yX hi.yX)) |> fun h=>(by have e:s'={ s with vs:=s'.vs,ls:=s'.ls }:=(by cases s';cases s;simp_all);rw[e];exact h),sL,BC,yc,Kb,au⟩
section
variable {α β γ:Type} [DecidableEq α]
theorem pt (e:α×β)(es:List (α×β))(k:α):mB (e :: es) k=if k=e.1 then es else e :: mB es k:=by
 unfold mB
 rw[List.findIdx?_cons]
 by_cases hk:k=e.1
 ·simp[hk]
 ·simp -implicitDefEqProofs only[hk,decide_false,if_false,Bool.false_eq_true]
  cases List.findIdx? (fun e=>decide (k=e.1)) es<;>simp
theorem Gr (f:β→γ)(es:List (α×β))(k:α):mB (es.map fun e=>(e.1,f e.2)) k=(mB es k).map fun e=>(e.1,f e.2):=by
 induction es with
 | nil=>rfl
 | cons e es ih=>simp -implicitDefEqProofs only[List.map_cons,pt,ih];split<;>simp
theorem jI {es:List (α×β)}(h:(es.map (·.1)).Nodup)(k k':α):ai (mB es k) k'=if k'=k then none else ai es k':=by
 induction es with
 | nil=>simp[mB,dN]
 | cons e es ih =>
  rw[List.map_cons,List.nodup_cons]at h
  rw[pt]
  by_cases hk:k=e.1
  ·subst hk
   by_cases kW:k'=e.1
   ·subst kW;simp -implicitDefEqProofs only[if_true];exact cA.2 h.1
   ·simp[bM,kW]
  ·simp -implicitDefEqProofs only[hk,if_false,bM,ih h.2]
   by_cases kW:k'=e.1
   ·subst kW;simp[Ne.symm hk]
   ·simp[kW]
theorem y7 {es:List (α×β)}(h:(es.map (·.1)).Nodup)(k:α):((mB es k).map (·.1)).Nodup:=by
 induction es with
 | nil=>simp[mB]
 | cons e es ih =>
  rw[List.map_cons,List.nodup_cons]at h
  rw[pt];split
  ·exact h.2
  ·rw[List.map_cons,List.nodup_cons]
   refine⟨fun hm=>h.1 ?_,ih h.2⟩
   have:ai (mB es k) e.1≠none:=fun hn=>cA.1 hn hm
   rw[jI h.2]at this
   split at this
   ·exact absurd rfl this
   ·exact Classical.byContradiction fun hh=>this (cA.2 hh)
end
theorem xG {α:Type}[DecidableEq α]{l:List α}{x a:α}:a∈ey l x↔a∈l∧a≠x:=by simp[ey]
theorem xH {α:Type}[DecidableEq α](l:List α)(x:α):(ey l x).length≤l.length:=List.length_filter_le ..
def dy.drop (s:dy)(k:ByteArray)(n:Nat):dy:=⟨mB s.vs (k,n),s.ls,fun k'=>if k'=k then ey (s.ids k) n else s.ids k',fun n'=>if n'=n then ey (s.dh n) k else s.dh n',s.n⟩
theorem gv.drop {s:dy}(hi:gv s)(k:ByteArray)(n:Nat):gv (s.drop k n):=by
 refine⟨fun k'=>?_,fun k' n'=>?_,fun n'=>?_,fun n' k'=>?_,y7 hi.nd _,fun m h hm=>?_,fun k'=>?_,fun n'=>?_,hi.yX⟩
 ·simp -implicitDefEqProofs only[dy.drop];split
  ·exact vw.2 ((vw.1 (hi.xF k)).sublist List.filter_sublist)
  ·exact hi.xF k'
 ·simp -implicitDefEqProofs only[dy.drop,jI hi.nd]
  by_cases e:k'=k
  ·subst e
   simp -implicitDefEqProofs only[if_true,xG,hi.HZ,Prod.mk.injEq,true_and]
   by_cases e2:n'=n<;>simp[e2]
  ·simp[e,hi.HZ]
 ·simp -implicitDefEqProofs only[dy.drop];split
  ·exact(hi.ON n).sublist List.filter_sublist
  ·exact hi.ON n'
 ·simp -implicitDefEqProofs only[dy.drop,jI hi.nd]
  by_cases e:n'=n
  ·subst e
   simp -implicitDefEqProofs only[if_true,xG,hi.J8,Prod.mk.injEq,and_true]
   by_cases e2:k'=k<;>simp[e2]
  ·simp[e,hi.J8]
 ·simp -implicitDefEqProofs only[dy.drop,jI hi.nd]at hm
  split at hm
  ·cases hm
  ·exact hi.TE m h hm
 ·have:=hi.bi k'
  simp -implicitDefEqProofs only[dy.drop];split
  ·rename_i e;subst e;exact Nat.le_trans (xH _ _) this
  ·exact this
 ·have:=hi.bp n'
  simp -implicitDefEqProofs only[dy.drop];split
  ·rename_i e;subst e;exact Nat.le_trans (xH _ _) this
  ·exact this
def TN (b:Bk)(s:dy)(F:Nat→Prop)(k:ByteArray)(n:Nat)(H:af):Out→af→Prop:=fun o H' =>
 (ai s.vs (k,n)=none∧o=.val (.int .i64 110)∧Ext H H')∨(∃h,ai s.vs (k,n)=some h∧h.bg=-1∧o=.val (.int .i64 1)∧Ext H H') ∨
 ∃h,ai s.vs (k,n)=some h∧h.bg≠-1∧o=.val (.int .i64 0)∧SH H' b (s.drop k n) F∧bm F H H'
theorem OS (b:Bk)(s:dy)(F:Nat→Prop)(k:ByteArray)(n:Nat)(H:af)(hs:SH H b s F)(hi:gv s)(hn:s.n≤8000000) :
  W env (.call 25 [.ptr b.s 0,.str k,.int .u64 n]) H (TN b s F k n H):=by
 obtain⟨im,pm,sa⟩:=hs
 have l0:=aY sa.hs
 have lv:=aY sa.hv
 have Mf:b.s<H.length+1:=by omega
 have iG:=fun Hx z ok=>lG vu z ok Hx (dZ s.vs) (k,n)
 simp -implicitDefEqProofs only[kN,eN]at iG
 have pr:jo (ai (dZ s.vs) (k,n)) (.agg [.str ⟨#[]⟩,.sl .nil [],.int .i64 0]) true=.bJ [fo (qd (ai s.vs (k,n))),.bool (ai s.vs (k,n)).isSome]:=by
  unfold dZ;rw[fV]
  cases ai s.vs (k,n)<;>rfl
 refine W.bU rfl rfl rfl ?_
 cases e:ai s.vs (k,n)with
 | none =>
  rw[e]at pr
  simp -implicitDefEqProofs only[Option.isSome_none]at pr
  simp -implicitDefEqProofs only[Fu,op,ef,cl,sq,reduceIte,j2,j3,j4,j5,j6,j7,j8,j9,y1,S1,S2,S3,List.length_set,sa.hs,sa.hv,l0,Mf,lv,iG,pr,fo]
  exact .inl ⟨e,rfl,((Ext.rfl'.app _).app _)⟩
 | some h =>
  rw[e]at pr
  simp -implicitDefEqProofs only[Option.isSome_some,qd,Option.getD_some]at pr
  by_cases dD:h.bg=-1
  ·simp -implicitDefEqProofs only[Fu,op,ef,cl,sq,reduceIte,j2,j3,j4,j5,j6,j7,j8,j9,y1,S1,S2,S3,List.length_set,sa.hs,sa.hv,l0,Mf,lv,iG,pr,fo,dD]
   exact .inr (.inl ⟨h,e,dD,rfl,((Ext.rfl'.app _).app _)⟩)
  ·have OQ:(h.bg==-1)=false:=by simpa using dD
   have Nu:=fun Hx=>EG vu Hx b.v (dZ s.vs) (k,n) (v:=fo h) (by unfold dZ;rw[fV,e];rfl)
   simp -implicitDefEqProofs only[kN,eN]at Nu
   have MU:qc (dZ s.vs) (k,n)=dZ (mB s.vs (k,n)):=Gr fo s.vs (k,n)
   rw[MU]at Nu
   obtain⟨c,jl,oK,hcF⟩:∃c,ai im k=some (.ax c 0 (s.ids k).length 1)∧H[c]?=some (.cells (aE eU (s.ids k)))∧F c:=by
    have:=sa.oi k
    cases em:ai im k with
    | none =>
     rw[em]at this
     have h0:s.ids k=[]:=this
     have:=(hi.HZ k n).2 (by rw[e];rfl)
     rw[h0]at this;cases this
    | some t=>rw[em]at this;obtain⟨c,rfl,h1,h2⟩:=this;exact⟨c,rfl,h1,h2⟩
   obtain⟨d,pO,cr,hdF⟩:∃d,ai pm n=some (.ax d 0 (s.dh n).length 1)∧H[d]?=some (.cells (aE eS (s.dh n)))∧F d:=by
    have:=sa.op n
    cases em:ai pm n with
    | none =>
     rw[em]at this
     have h0:s.dh n=[]:=this
     have:=(hi.J8 n k).2 (by rw[e];rfl)
     rw[h0]at this;cases this
    | some t=>rw[em]at this;obtain⟨c,rfl,h1,h2⟩:=this;exact⟨c,rfl,h1,h2⟩
   have bc:=sa.jq (k:=k) (c:=c) (by rw[jl];rfl)
   have bd:=sa.kG (n:=n) (c:=d) (by rw[pO];rfl)
   have hcd:c≠d:=fun h=>sa.sx k n c (by rw[jl];rfl) (by rw[pO,h];rfl)
   obtain⟨n1,n2,n3,n4⟩:=sa.ne
   have li:=aY sa.hi
   simp -implicitDefEqProofs only[Fu,op,ef,cl,sq,reduceIte,j2,j3,j4,j5,j6,j7,j8,j9,y1,S1,S2,S3,List.length_set,sa.hs,sa.hv,l0,Mf,lv,iG,pr,fo,OQ,Nu,n1,sa.hi,li,sa.vi,fC,jl]
   generalize wh:H.set b.v (B.map (bh kN (dZ (mB s.vs (k,n)))))++[B.cells [T.str k,T.int IntKind.u64 n]]++[B.cells [T.str h.value,T.sl h.kk (h.keys.map eS),T.int IntKind.i64 h.bg]]=H1
   have ZO:H1.length=H.length+2:=by rw[←wh];simp
   have gJ:∀{c x},c≠b.v→H[c]?=some x→H1[c]?=some x:=fun hc hx=>by
    have:=aY hx
    rw[←wh,aQ (by simp;omega),aQ (by simpa using this),bj (Ne.symm hc)];exact hx
   have v1:H1[b.v]?=some (.map (bh kN (dZ (mB s.vs (k,n))))):=by rw[←wh,aQ (by simp;omega),aQ (by simpa using lv),bX lv]
   have s1:=gJ (Ne.symm n1) sa.hs
   have i1:=gJ (Ne.symm sa.vi) sa.hi
   have p1:=gJ (Ne.symm sa.vp) sa.hp
   have w1:=gJ (Ne.symm sa.vl) sa.hl
   refine ae _ _ _ _ _ _ _ _ (ZM c (s.ids k) n H1 (gJ bc.2.1 oK) (by have:=hi.bi k;omega)) ?_
   rintro u H2⟨hu,c2,Ac⟩
   cases hu
   have rF:∀{a x},a≠c→H1[a]?=some x→H2[a]?=some x:=fun ha hx=>Ac.get hx ha
   have s2:=rF (Ne.symm bc.1) s1
   have v2:=rF (Ne.symm bc.2.1) v1
   have i2:=rF (Ne.symm bc.2.2.1) i1
   have p2:=rF (Ne.symm bc.2.2.2.1) p1
   have w2:=rF (Ne.symm bc.2.2.2.2.1) w1
   have d2:=rF (Ne.symm hcd) (gJ bd.2.1 cr)
   obtain⟨H3,wo⟩:∃H3,H3=H2.set b.i (.map (bh T.str (cu im k (.ax c 0 (ey (s.ids k) n).length 1)))):=⟨_,rfl⟩
   have gw:∀{a x},a≠b.i→H2[a]?=some x→H3[a]?=some x:=fun ha hx=>by rw[wo,bj (Ne.symm ha)];exact hx
   have s3:=gw (Ne.symm n2) s2
   have v3:=gw sa.vi v2
   have i3:H3[b.i]?=some (.map (bh T.str (cu im k (.ax c 0 (ey (s.ids k) n).length 1)))):=by rw[wo,bX (aY i2)]
   have p3:=gw (Ne.symm sa.ip) p2
   have w3:=gw (Ne.symm sa.il) w2
   have c3:=gw bc.2.2.1 c2
   have d3:=gw bd.2.2.1 d2
   simp -implicitDefEqProofs only[op,ef,cl,sq,reduceIte,j2,j3,j4,j5,j6,j7,j8,j9,y1,S1,s2,i2,ng,←wo,s3,p3,lH,pO]
   refine ae _ _ _ _ _ _ _ _ (ZN d (s.dh n) k H3 d3 (by have:=hi.bp n;omega)) ?_
   rintro u H4⟨hu,d4,CZ⟩
   cases hu
   have gx:∀{a x},a≠d→H3[a]?=some x→H4[a]?=some x:=fun ha hx=>CZ.get hx ha
   have s4:=gx (Ne.symm bd.1) s3
   have v4:=gx (Ne.symm bd.2.1) v3
   have i4:=gx (Ne.symm bd.2.2.1) i3
   have p4:=gx (Ne.symm bd.2.2.2.1) p3
   have w4:=gx (Ne.symm bd.2.2.2.2.1) w3
   have c4:=gx hcd c3
   obtain⟨H5,TO⟩:∃H5,H5=H4.set b.p (.map (bh kU (cu pm n (.ax d 0 (ey (s.dh n) k).length 1)))):=⟨_,rfl⟩
   have fM:∀{a x},a≠b.p→H4[a]?=some x→H5[a]?=some x:=fun ha hx=>by rw[TO,bj (Ne.symm ha)];exact hx
   have s5:=fM (Ne.symm n3) s4
   have p5:H5[b.p]?=some (.map (bh kU (cu pm n (.ax d 0 (ey (s.dh n) k).length 1)))):=by rw[TO,bX (aY p4)]
   have l2:ai (cu pm n (.ax d 0 (ey (s.dh n) k).length 1)) n=some (.ax d 0 (ey (s.dh n) k).length 1):=by rw[br,if_pos rfl]
   have ae2:H5.length=H4.length:=by rw[TO];simp
   have ZP:H3.length=H2.length:=by rw[wo];simp
   have Gs:∀{a x},a≠b.v→a≠c→a≠b.i→a≠d→a≠b.p→H[a]?=some x→H5[a]?=some x:=fun e1 e2 e3 e4 e5 hx=>fM e5 (gx e4 (gw e3 (rF e2 (gJ e1 hx))))
   have frF:bm F H H5:=⟨by have:=Ac.1;have:=CZ.1;omega,fun a ha hF=>by
    obtain⟨x,hx⟩:=cw ha
    have ne:∀{c'},F c'→a≠c':=fun h e=>hF (e▸h)
    rw[hx]
    exact Gs (ne sa.F0.2.1) (ne hcF) (ne sa.F0.2.2.1) (ne hdF) (ne sa.F0.2.2.2.1) hx⟩
   have QD:=fun Hx=>EG NN Hx b.p (cu pm n (.ax d 0 (ey (s.dh n) k).length 1)) n l2
   simp -implicitDefEqProofs only[kU]at QD
   have fin:∀(Kc:List (Nat×T)) (H6:af),(∀n',ai Kc n'=if n'=n then ai Kc n else ai pm n')→Ia eS F H5 (ai Kc n) (ey (s.dh n) k)→(∀a,eg (ai Kc n)=some a→a=d)→(Kc.map (·.1)).Nodup→H6[b.p]?=some (.map (bh kU Kc))→(∀{a x},a≠b.p→H5[a]?=some x→H6[a]?=some x)→ui H6 b (cu im k (.ax c 0 (ey (s.ids k) n).length 1)) Kc (s.drop k n) F:=by
    intro Kc H6 hl ho hb fz hp hk
    have kI:∀{k' a x},k'≠k→eg (ai im k')=some a→H[a]?=some x→H6[a]?=some x:=fun {k' a x} bL ha hx=>by
     obtain⟨e1,e2,e3,e4,e5,_,e6⟩:=sa.jq ha
     exact hk e4 (Gs e2 (fun e=>bL (sa.si k' k c (e▸ha) (by rw[jl];rfl))) e3 (fun e=>sa.sx k' n d (e▸ha) (by rw[pO];rfl)) e4 hx)
    have kP:∀{n' a x},n'≠n→eg (ai pm n')=some a→H[a]?=some x→H6[a]?=some x:=fun {n' a x} bL ha hx=>by
     obtain⟨e1,e2,e3,e4,e5,_,e6⟩:=sa.kG ha
     exact hk e4 (Gs e2 (fun e=>sa.sx k n' c (by rw[jl];rfl) (e▸ha)) e3 (fun e=>bL (sa.sp n' n d (e▸ha) (by rw[pO];rfl))) e4 hx)
    have bI:∀k' a,eg (ai (cu im k (.ax c 0 (ey (s.ids k) n).length 1)) k')=some a→eg (ai im k')=some a:=fun k' a ha=>by
     rw[br]at ha
     split at ha
     ·rename_i e;subst e;rw[jl];exact ha
     ·exact ha
    have bP:∀n' a,eg (ai Kc n')=some a→eg (ai pm n')=some a:=fun n' a ha=>by
     rw[hl]at ha
     split at ha
     ·rename_i e;subst e;rw[pO,hb a ha];rfl
     ·exact ha
    refine⟨hk (Ne.symm n3) s5,hk sa.vp (fM sa.vp v4),hk sa.ip (fM sa.ip i4),hp,hk (Ne.symm sa.pl) (fM (Ne.symm sa.pl) w4),sa.vi,sa.vp,sa.vl,sa.ip,sa.il,sa.pl,sa.F0,fun k'=>?_,fun n'=>?_,fun k1 k2 a h1 h2=>sa.si k1 k2 a (bI _ _ h1) (bI _ _ h2),fun k1 k2 a h1 h2=>sa.sp k1 k2 a (bP _ _ h1) (bP _ _ h2),fun k1 k2 a h1 h2=>sa.sx k1 k2 a (bI _ _ h1) (bP _ _ h2),fz⟩
    ·simp -implicitDefEqProofs only[dy.drop,br]
     by_cases e:k'=k
     ·simp -implicitDefEqProofs only[e,if_true]
      exact⟨c,rfl,hk bc.2.2.2.1 (fM bc.2.2.2.1 c4),hcF⟩
     ·simp -implicitDefEqProofs only[e,if_false]
      exact(sa.oi k').dQ (fun a x ha hx=>kI e ha hx) fun _ _ h=>h
    ·rw[hl]
     simp -implicitDefEqProofs only[dy.drop]
     by_cases e:n'=n
     ·simp -implicitDefEqProofs only[e,if_true]
      refine ho.dQ (fun a x ha hx=>hk ?_ hx) fun _ _ h=>h
      rw[hb a ha];exact bd.2.2.2.1
     ·simp -implicitDefEqProofs only[e,if_false]
      exact(sa.op n').dQ (fun a x ha hx=>kP e ha hx) fun _ _ h=>h
   by_cases hz:(ey (s.dh n) k).length=0
   ·have qm:((ey (s.dh n) k).length=0)=True:=eq_true hz
    simp -implicitDefEqProofs only[op,ef,cl,sq,reduceIte,j2,j3,j4,j5,j6,j7,j8,j9,y1,S1,s4,p4,rv,←TO,s5,p5,lH,l2,qm,QD]
    refine .inr (.inr ⟨h,e,dD,rfl,⟨_,_,fin (qc (cu pm n (.ax d 0 (ey (s.dh n) k).length 1)) n) _ (fun n'=>?_) ?_ (fun a ha=>?_) (yW (db sa.np _ _) _) (bX (aY p5)) (fun ha hx=>by rw[bj (Ne.symm ha)];exact hx)⟩,frF.set (.inl sa.F0.2.2.2.1) _⟩)
    ·simp -implicitDefEqProofs only[ma (db sa.np _ _),br];split<;>simp
    ·rw[ma (db sa.np _ _),if_pos rfl];exact List.eq_nil_of_length_eq_zero hz
    ·rw[ma (db sa.np _ _),if_pos rfl]at ha;cases ha
   ·simp -implicitDefEqProofs only[op,ef,cl,sq,reduceIte,j2,j3,j4,j5,j6,j7,j8,j9,y1,S1,s4,p4,rv,←TO,s5,p5,lH,l2,hz]
    refine .inr (.inr ⟨h,e,dD,rfl,⟨_,_,fin _ H5 (fun n'=>?_) ?_ (fun a ha=>?_) (db sa.np _ _) p5 (fun _ h=>h)⟩,frF⟩)
    ·simp -implicitDefEqProofs only[br];split<;>simp
    ·rw[l2];exact⟨d,rfl,fM bd.2.2.2.1 d4,hdF⟩
    ·rw[l2]at ha;cases ha;rfl
abbrev uk (n:Nat)(R0:av)(ps:List Nat)(b6 body:C):B:=.loop .ready Option.none n R0 ps b6 body
abbrev Mg (n:Nat)(R0:av)(ps:List Nat)(b6 body:C):B:=.loop .busy Option.none n R0 ps b6 body
theorem nj {H H':af}(h:∀(c:Nat) x,H[c]?=some x→H'[c]?=some x):Ext H H':=by
 have hl:H.length≤H'.length:=by
  rcases Nat.eq_zero_or_pos H.length with h0|h0
  ·omega
  ·obtain⟨x,hx⟩:=cw (l:=H) (i:=H.length-1) (by omega)
   have:=aY (h _ x hx)
   omega
 refine⟨H'.drop H.length,List.ext_getElem? fun i=>?_⟩
 by_cases hi:i<H.length
 ·obtain⟨x,hx⟩:=cw hi
  rw[List.getElem?_append_left hi,hx,h i x hx]
 ·rw[List.getElem?_append_right (by omega),List.getElem?_drop]
  congr 1;omega
structure RI {α β:Type}(es:List (α×β))(ix:List Nat)(b7:List α):Prop where
 len:ix.length+b7.length=es.length
 lt:∀i∈ix,i<es.length
 Z4:ix.Nodup
 Gt:b7.Nodup
 mem:∀k,k∈b7↔∃i v,es[i]?=some (k,v)∧i∉ix
theorem RI.start {α β:Type}(es:List (α×β)):RI es (List.range es.length) []:=⟨by simp,fun i h=>List.mem_range.1 h,List.nodup_range,by simp,fun k=>by
 simp -implicitDefEqProofs only[List.not_mem_nil,false_iff,not_exists,not_and]
 intro i v h hn
 exact hn (List.mem_range.2 (List.getElem?_eq_some_iff.1 h).1)⟩
theorem RI.step {α β:Type}{es:List (α×β)}(hn:(es.map (·.1)).Nodup){ix:List Nat}{b7:List α}(h:RI es ix b7){i:Nat}{k:α}{v:β}(hi:i∈ix)(he:es[i]?=some (k,v)):RI es (ix.erase i) (b7++[k]):=by
 have inj:∀j w,es[j]?=some (k,w)→j=i:=fun j w hj=>by
  have h1:(es.map (·.1))[j]?=some k:=by rw[List.getElem?_map,hj];rfl
  have h2:(es.map (·.1))[i]?=some k:=by rw[List.getElem?_map,he];rfl
  exact(List.getElem?_inj (List.getElem?_eq_some_iff.1 h1).1 hn).1 (h1.trans h2.symm)
 have hk:k∉b7:=fun hk=>by
  obtain⟨j,w,hj,hn⟩:=(h.mem k).1 hk
  exact hn (inj j w hj▸hi)
 refine⟨?_,fun j hj=>h.lt j (List.mem_of_mem_erase hj),h.Z4.erase _,?_,fun k'=>?_⟩
 ·have:=h.len
  have:=List.length_pos_of_mem hi
  rw[List.length_erase_of_mem hi,List.length_append,List.length_singleton];omega
 ·rw[List.nodup_append];exact⟨h.Gt,by simp,fun a ha c hc=>by simp at hc;subst hc;rintro rfl;exact hk ha⟩
 ·rw[List.mem_append,List.mem_singleton,h.mem]
  constructor
  ·rintro (⟨j,w,hj,Z5⟩|rfl)
   ·exact⟨j,w,hj,fun hm=>Z5 (List.mem_of_mem_erase hm)⟩
   ·exact⟨i,v,he,fun hm=>(h.Z4.mem_erase_iff.1 hm).1 rfl⟩
  ·rintro⟨j,w,hj,Z5⟩
   by_cases e:j=i
   ·subst e;rw[he]at hj;cases hj;exact .inr rfl
   ·exact .inl ⟨j,w,hj,fun hm=>Z5 (h.Z4.mem_erase_iff.2 ⟨e,hm⟩)⟩
theorem RI.Cd {α β:Type}{es:List (α×β)}{b7:List α}(h:RI es [] b7)(k:α):k∈b7↔k∈es.map (·.1):=by
 rw[h.mem]
 constructor
 ·rintro⟨i,v,he,_⟩;exact List.mem_map.2 ⟨_,List.mem_of_getElem? he,rfl⟩
 ·intro hk
  obtain⟨e,he,rfl⟩:=List.mem_map.1 hk
  obtain⟨i,hi,e2⟩:=List.getElem_of_mem he
  exact⟨i,e.2,by rw[List.getElem?_eq_getElem hi,e2],by simp⟩
theorem OT {n:Nat}{R0:av}{ps:List Nat}{b6 body:C}(es:List (Nm×T))(c b mb:Nat)(H:af)(I:List Nm→af→Prop)(Z6:ps.length=1)(fz:(es.map (·.1)).Nodup)(h0:I [] H)(hb:H[b]?=some (uk n R0 ps b6 body))(hc:H[c]?=some (.cells [.map mb]))(hm:H[mb]?=some (.map (bh kN es)))
  (lk:∀b7 H' y,I b7 H'→I b7 (H'.set mb y)) (rn:∀b7 H' (l:af),I b7 H'→I b7 (H'++l))
  (bV:∀b7 v H',b7.length<es.length→I b7 H'→H'[b]?=some (uk n R0 ps b6 body)→H.length<H'.length→eV env b6 (iP R0 ps [(kN v)]) H' (fun o H1=>∃R1,o=.ex .normal R1∧H1[b]?=some (uk n R0 ps b6 body) ∧
   eV env body R1 (H1.set b (Mg n R0 ps b6 body)) (fun o H2=>∃R2,o=.ex .normal R2∧H2[b]?=some (Mg n R0 ps b6 body)∧I (b7++[v]) (H2.set b (uk n R0 ps b6 body))∧∀a y,H'[a]?=some y→a=mb∨a=H.length→H2[a]?=some y))) :
  W env (.call 94 [.nu b,.ptr c 0]) H (fun _ H'=>∃b7,I b7 H'∧RI es [] b7∧H'[b]?=some (uk n R0 ps b6 body)∧H'[mb]?=some (.map (bh kN es))):=by
 have lm:=aY hm
 have lb:=aY hb
 have Ig:b≠mb:=by rintro rfl;rw[hm]at hb;cases hb
 have DI:(bh kN es).length=es.length:=by simp[bh]
 refine W.bU rfl rfl rfl ?_
 simp -implicitDefEqProofs only[OE,op,ef,cl,sq,reduceIte,j2,j3,j4,j5,j6,j7,j8,j9,y1,S1,hc,hm]
 refine W.cH (fun (b7:List Nm) R H'=>At H' (fun H'=>∃ix cur,I b7 H'∧RI es ix b7∧H'[b]?=some (uk n R0 ps b6 body)∧H'[mb]?=some (.cT (bh kN es) ix H.length cur)∧H'[H.length]?=some (.uE mb))∧R 0=.nu b∧R 5=.ptr H.length 0) (fun b7=>es.length-b7.length) [] ?_ ?_
 ·refine⟨.i ⟨List.range (bh kN es).length,none,rn _ _ _ (lk _ _ _ h0),by rw[DI];exact RI.start es,?_,?_,?_⟩,rfl,rfl⟩
  ·rw[aQ (by simpa using lb),bj (Ne.symm Ig)];exact hb
  ·rw[aQ (by simpa using lm),bX lm]
  ·rw[aO (by simp)]
 rintro b7 R H1⟨⟨ix,cur,hI,mc,kO,Ke,Ce⟩,r0,r5⟩
 have lb1:=aY kO
 have TP:=aY Ke
 have Z7:=aY Ce
 have Z8:b≠H.length:=by rintro rfl;rw[Ce]at kO;cases kO
 have CS:mb≠H.length:=by omega
 simp -implicitDefEqProofs only[op,ef,cl,sq,reduceIte,j2,j3,j4,j5,j6,j7,j8,j9,y1,S1,r5]
 refine yS _ _ _ _ _ _ _ r5 Ke ?_
 rintro t H2 (⟨rfl,rfl,rfl⟩|⟨i,e,hi,he,rfl,rfl⟩)
 ·simp -implicitDefEqProofs only[op,ef,cl,sq,reduceIte,j2,j3,j4,j5,j6,j7,j8,j9,y1,S1]
  exact⟨b7,lk _ _ _ hI,mc,by rw[bj (Ne.symm Ig)];exact kO,bX TP⟩
 obtain⟨⟨k,v0⟩,Mh⟩:=cw (mc.lt i hi)
 have CT:e=(kN k,v0):=by
  rw[bh,List.getElem?_map,Mh]at he;exact(Option.some.inj he).symm
 subst CT
 have b2:(H1.set mb (.cT (bh kN es) (ix.erase i) H.length (some i)))[b]?=some (uk n R0 ps b6 body):=by rw[bj (Ne.symm Ig)];exact kO
 have m2:(H1.set mb (.cT (bh kN es) (ix.erase i) H.length (some i)))[mb]?=some (.cT (bh kN es) (ix.erase i) H.length (some i)):=bX TP
 have i2:(H1.set mb (.cT (bh kN es) (ix.erase i) H.length (some i)))[H.length]?=some (.uE mb):=by rw[bj CS];exact Ce
 have Z9:(H1.set mb (.cT (bh kN es) (ix.erase i) H.length (some i))).length=H1.length:=by simp
 have TQ:=lk b7 H1 (.cT (bh kN es) (ix.erase i) H.length (some i)) hI
 generalize H1.set mb (.cT (bh kN es) (ix.erase i) H.length (some i))=H2 at *
 have nw:b7.length<es.length:=by have:=mc.len;have:=List.length_pos_of_mem hi;omega
 have fin:∀H3,Ext H2 H3→I b7 H3→eV env b6 (iP R0 ps [kN k]) H3 (fun o H1=>∃R1,o=.ex .normal R1∧H1[b]?=some (uk n R0 ps b6 body)∧eV env body R1 (H1.set b (Mg n R0 ps b6 body)) (fun o H2=>∃R2,o=.ex .normal R2∧H2[b]?=some (Mg n R0 ps b6 body) ∧
   ∃y:List Nm,es.length-y.length<es.length-b7.length∧At (H2.set b (uk n R0 ps b6 body)) (fun H'=>∃ix cur,I y H'∧RI es ix y∧H'[b]?=some (uk n R0 ps b6 body)∧H'[mb]?=some (.cT (bh kN es) ix H.length cur)∧H'[H.length]?=some (.uE mb))∧R 0=.nu b∧R 5=.ptr H.length 0)):=by
  intro H3 hx h3
  have DX:=hx.len
  refine cO _ _ _ (fun o H4=>?_) (bV b7 k H3 nw h3 (hx.get b2) (by omega))
  rintro⟨R1,rfl,hr,hw⟩
  refine⟨R1,rfl,hr,cO _ _ _ (fun o H5=>?_) hw⟩
  rintro⟨R2,rfl,uY,hI3,su⟩
  have C0:=aY uY
  have TH:=su mb _ (hx.get m2) (.inl rfl)
  have TG:=su H.length _ (hx.get i2) (.inr rfl)
  exact⟨R2,rfl,uY,b7++[k],by rw[List.length_append,List.length_singleton];omega,.i ⟨_,_,hI3,mc.step fz hi Mh,bX C0,by rw[bj Ig];exact TH,by rw[bj Z8];exact TG⟩,r0,r5⟩
 have lb2:=aY b2
 simp -implicitDefEqProofs only[op,ef,cl,sq,reduceIte,j2,j3,j4,j5,j6,j7,j8,j9,y1,S1,r0,r5,i2,m2,he,kN,eN,S2]
 refine LW (b:=b) (n:=n) (R0:=R0) (ps:=ps) (b6:=b6) (body:=body) (by simp -implicitDefEqProofs only[op,ef,cl,sq,reduceIte,j2,j3,j4,j5,j6,j7,j8,j9,y1,S1,r0]) (by first|exact b2|(rw[aQ lb2];exact b2)) (by rw[Z6];rfl) ?_
 simp -implicitDefEqProofs only[op,ef,cl,sq,reduceIte,j2,j3,j4,j5,j6,j7,j8,j9,y1,S1]
 first
  | exact fin _ ⟨_,rfl⟩ (rn _ _ _ TQ)
  | exact fin _ Ext.rfl' TQ
theorem OU {n:Nat}{R0:av}{ps:List Nat}{b6 body:C}(es:List (ByteArray×T))(c b mb:Nat)(H:af)(I:List ByteArray→af→Prop)(Z6:ps.length=1)(fz:(es.map (·.1)).Nodup)(h0:I [] H)(hb:H[b]?=some (uk n R0 ps b6 body))(hc:H[c]?=some (.cells [.map mb]))(hm:H[mb]?=some (.map (bh T.str es)))
  (lk:∀b7 H' y,I b7 H'→I b7 (H'.set mb y)) (rn:∀b7 H' (l:af),I b7 H'→I b7 (H'++l))
  (bV:∀b7 v H',b7.length<es.length→I b7 H'→H'[b]?=some (uk n R0 ps b6 body)→H.length<H'.length→eV env b6 (iP R0 ps [(T.str v)]) H' (fun o H1=>∃R1,o=.ex .normal R1∧H1[b]?=some (uk n R0 ps b6 body) ∧
   eV env body R1 (H1.set b (Mg n R0 ps b6 body)) (fun o H2=>∃R2,o=.ex .normal R2∧H2[b]?=some (Mg n R0 ps b6 body)∧I (b7++[v]) (H2.set b (uk n R0 ps b6 body))∧∀a y,H'[a]?=some y→a=mb∨a=H.length→H2[a]?=some y))) :
  W env (.call 100 [.nu b,.ptr c 0]) H (fun _ H'=>∃b7,I b7 H'∧RI es [] b7∧H'[b]?=some (uk n R0 ps b6 body)∧H'[mb]?=some (.map (bh T.str es))):=by
 have lm:=aY hm
 have lb:=aY hb
 have Ig:b≠mb:=by rintro rfl;rw[hm]at hb;cases hb
 have DI:(bh T.str es).length=es.length:=by simp[bh]
 refine W.bU rfl rfl rfl ?_
 simp -implicitDefEqProofs only[Fx,op,ef,cl,sq,reduceIte,j2,j3,j4,j5,j6,j7,j8,j9,y1,S1,hc,hm]
 refine W.cH (fun (b7:List ByteArray) R H'=>At H' (fun H'=>∃ix cur,I b7 H'∧RI es ix b7∧H'[b]?=some (uk n R0 ps b6 body)∧H'[mb]?=some (.cT (bh T.str es) ix H.length cur)∧H'[H.length]?=some (.uE mb))∧R 0=.nu b∧R 5=.ptr H.length 0) (fun b7=>es.length-b7.length) [] ?_ ?_
 ·refine⟨.i ⟨List.range (bh T.str es).length,none,rn _ _ _ (lk _ _ _ h0),by rw[DI];exact RI.start es,?_,?_,?_⟩,rfl,rfl⟩
  ·rw[aQ (by simpa using lb),bj (Ne.symm Ig)];exact hb
  ·rw[aQ (by simpa using lm),bX lm]
  ·rw[aO (by simp)]
 rintro b7 R H1⟨⟨ix,cur,hI,mc,kO,Ke,Ce⟩,r0,r5⟩
 have lb1:=aY kO
 have TP:=aY Ke
 have Z7:=aY Ce
 have Z8:b≠H.length:=by rintro rfl;rw[Ce]at kO;cases kO
 have CS:mb≠H.length:=by omega
 simp -implicitDefEqProofs only[op,ef,cl,sq,reduceIte,j2,j3,j4,j5,j6,j7,j8,j9,y1,S1,r5]
 refine yS _ _ _ _ _ _ _ r5 Ke ?_
 rintro t H2 (⟨rfl,rfl,rfl⟩|⟨i,e,hi,he,rfl,rfl⟩)
 ·simp -implicitDefEqProofs only[op,ef,cl,sq,reduceIte,j2,j3,j4,j5,j6,j7,j8,j9,y1,S1]
  exact⟨b7,lk _ _ _ hI,mc,by rw[bj (Ne.symm Ig)];exact kO,bX TP⟩
 obtain⟨⟨k,v0⟩,Mh⟩:=cw (mc.lt i hi)
 have CT:e=(T.str k,v0):=by
  rw[bh,List.getElem?_map,Mh]at he;exact(Option.some.inj he).symm
 subst CT
 have b2:(H1.set mb (.cT (bh T.str es) (ix.erase i) H.length (some i)))[b]?=some (uk n R0 ps b6 body):=by rw[bj (Ne.symm Ig)];exact kO
 have m2:(H1.set mb (.cT (bh T.str es) (ix.erase i) H.length (some i)))[mb]?=some (.cT (bh T.str es) (ix.erase i) H.length (some i)):=bX TP
 have i2:(H1.set mb (.cT (bh T.str es) (ix.erase i) H.length (some i)))[H.length]?=some (.uE mb):=by rw[bj CS];exact Ce
 have Z9:(H1.set mb (.cT (bh T.str es) (ix.erase i) H.length (some i))).length=H1.length:=by simp
 have TQ:=lk b7 H1 (.cT (bh T.str es) (ix.erase i) H.length (some i)) hI
 generalize H1.set mb (.cT (bh T.str es) (ix.erase i) H.length (some i))=H2 at *
 have nw:b7.length<es.length:=by have:=mc.len;have:=List.length_pos_of_mem hi;omega
 have fin:∀H3,Ext H2 H3→I b7 H3→eV env b6 (iP R0 ps [T.str k]) H3 (fun o H1=>∃R1,o=.ex .normal R1∧H1[b]?=some (uk n R0 ps b6 body)∧eV env body R1 (H1.set b (Mg n R0 ps b6 body)) (fun o H2=>∃R2,o=.ex .normal R2∧H2[b]?=some (Mg n R0 ps b6 body) ∧
   ∃y:List ByteArray,es.length-y.length<es.length-b7.length∧At (H2.set b (uk n R0 ps b6 body)) (fun H'=>∃ix cur,I y H'∧RI es ix y∧H'[b]?=some (uk n R0 ps b6 body)∧H'[mb]?=some (.cT (bh T.str es) ix H.length cur)∧H'[H.length]?=some (.uE mb))∧R 0=.nu b∧R 5=.ptr H.length 0)):=by
  intro H3 hx h3
  have DX:=hx.len
  refine cO _ _ _ (fun o H4=>?_) (bV b7 k H3 nw h3 (hx.get b2) (by omega))
  rintro⟨R1,rfl,hr,hw⟩
  refine⟨R1,rfl,hr,cO _ _ _ (fun o H5=>?_) hw⟩
  rintro⟨R2,rfl,uY,hI3,su⟩
  have C0:=aY uY
  have TH:=su mb _ (hx.get m2) (.inl rfl)
  have TG:=su H.length _ (hx.get i2) (.inr rfl)
  exact⟨R2,rfl,uY,b7++[k],by rw[List.length_append,List.length_singleton];omega,.i ⟨_,_,hI3,mc.step fz hi Mh,bX C0,by rw[bj Ig];exact TH,by rw[bj Z8];exact TG⟩,r0,r5⟩
 have lb2:=aY b2
 simp -implicitDefEqProofs only[op,ef,cl,sq,reduceIte,j2,j3,j4,j5,j6,j7,j8,j9,y1,S1,r0,r5,i2,m2,he,kN,eN,S2]
 refine LW (b:=b) (n:=n) (R0:=R0) (ps:=ps) (b6:=b6) (body:=body) (by simp -implicitDefEqProofs only[op,ef,cl,sq,reduceIte,j2,j3,j4,j5,j6,j7,j8,j9,y1,S1,r0]) (by first|exact b2|(rw[aQ lb2];exact b2)) (by rw[Z6];rfl) ?_
 simp -implicitDefEqProofs only[op,ef,cl,sq,reduceIte,j2,j3,j4,j5,j6,j7,j8,j9,y1,S1]
 first
  | exact fin _ ⟨_,rfl⟩ (rn _ _ _ TQ)
  | exact fin _ Ext.rfl' TQ
def Kf {α:Type}(enc:α→List T)(n:Nat)(es:List (α×T))(H:af):Out→af→Prop:=fun o H'=>Ext H H'∧∃t b7,o=.val t∧pS enc n H.length H' t b7∧RI es [] b7
def ja (H:af):T→af
 | .ax b _ _ _=>H.set b .dead
 | _=>H
theorem jJ (H:af)(t:T):(ja H t).length=H.length:=by cases t<;>simp[ja]
theorem og {H:af}{t:T}{a:Nat}(h:∀off len m,t≠.ax a off len m):(ja H t)[a]?=H[a]?:=by
 cases t with
 | ax b off len m=>exact bj (fun e=>h off len m (by rw[e]))
 | _=>rfl
theorem xI {α:Type}{enc:α→List T}{n n0 bytes:Nat}(hn:∀x,(enc x).length=n){H:af}{t:T}{l:List α}(h:pS enc n n0 H t l)(v:α)(hr:cU (l.length+1) bytes=true):jA H n bytes t [enc v]=some (.ax H.length 0 (l.length+1) n,ja H t++[.cells (aE enc (l++[v]))]):=by
 have rn:aE enc l++enc v=aE enc (l++[v]):=by simp[aE]
 rcases h with⟨rfl,rfl⟩|⟨b,rfl,hb,_⟩
 ·simp -implicitDefEqProofs only[List.length_nil,Nat.zero_add]at hr
  simp[jA,hr,ja,aE]
 ·have hc:l.length*n=(aE enc l).length:=(da hn l).symm
  simp[jA,hb,hc,hr,ja,rn]
theorem TR (es:List (Nm×T))(c mb:Nat)(H:af)(fz:(es.map (·.1)).Nodup)(iE:es.length≤8000000)(hc:H[c]?=some (.cells [.map mb]))(hm:H[mb]?=some (.map (bh kN es))) :
  W env (.call 116 [.sl .nil [],.fn 94 [.ptr c 0]]) H (Kf eN 2 es H):=by
 have lm:=aY hm
 have lc:=aY hc
 refine W.RS rfl rfl ?_
 simp -implicitDefEqProofs only[FF,op,ef,cl,sq,reduceIte,j2,j3,j4,j5,j6,j7,j8,j9,y1,S1,S2]
 generalize hR:oH (oH (oH (gF [T.sl SK.nil [],T.fn 94 [T.ptr c 0]]) 2 (T.ptr H.length 0)) 4 (T.sl SK.nil [])) 6 (T.fn 94 [T.ptr c 0])=R0
 have r2:R0 2=.ptr H.length 0:=by rw[←hR];simp -implicitDefEqProofs only[op,ef,cl,sq,reduceIte,j2,j3,j4,j5,j6,j7,j8,j9,y1,S1]
 have r6:R0 6=.fn 94 [.ptr c 0]:=by rw[←hR];simp -implicitDefEqProofs only[op,ef,cl,sq,reduceIte,j2,j3,j4,j5,j6,j7,j8,j9,y1,S1]
 have r13:R0 13=.bJ []:=by rw[←hR];rfl
 refine W.Ev (f:=94) (cs:=[.ptr c 0]) (by simp -implicitDefEqProofs only[op,ef,cl,sq,reduceIte,j2,j3,j4,j5,j6,j7,j8,j9,y1,S1,r6]) ?_
 have a1:(H++[B.cells [T.sl SK.nil []]]).length=H.length+1:=by simp
 rw[a1,r13,L9]
 have e1:H.length+1+1=H.length+2:=rfl
 rw[e1]
 generalize uJ:H.length=f at *
 have n02:¬(f=f+2):=by omega
 have n12:¬(f+1=f+2):=by omega
 have kE:∀x y:B,(H++[B.cells [T.sl SK.nil []]]++[y,x])[f+2]?=some x:=fun x y=>by
  rw[List.getElem?_append_right (by omega),a1]
  have:f+2-(f+1)=1:=by omega
  rw[this];rfl
 have TS:∀x y:B,(H++[B.cells [T.sl SK.nil []]]++[y,x]).length=f+3:=fun x y=>by simp[uJ]
 have Cn:∀(x y:B) (a:Nat) z,H[a]?=some z→(H++[B.cells [T.sl SK.nil []]]++[y,x])[a]?=some z:=fun x y a z hz=>by
  have:=aY hz
  rw[aQ (by omega),aQ (by omega)];exact hz
 refine W.use (OT (hb:=kE _ _) es c (f+2) mb _ (fun b7 H'=>At H' fun H'=>∃t,H'[f]?=some (.cells [t])∧pS eN 2 (f+4) H' t b7∧H'[f+1]?=some .zE∧∀(a:Nat) y,H[a]?=some y→a≠mb→H'[a]?=some y) rfl fz ?_ (Cn _ _ _ _ hc) (Cn _ _ _ _ hm) ?_ ?_ ?_) ?_
 ·refine .i ⟨.sl .nil [],?_,nX _ _ _ _,?_,fun a y hy _=>Cn _ _ _ _ hy⟩
  ·rw[aQ (by omega),aO (by omega)]
  ·rw[aO (by omega)]
 ·rintro b7 H' y⟨t,h1,h2,h3,h4⟩
  refine .i ⟨t,by rw[bj (by omega)];exact h1,?_,by rw[bj (by omega)];exact h3,fun a z hz ha=>by rw[bj (Ne.symm ha)];exact h4 a z hz ha⟩
  rcases h2 with h2|⟨d,e1,e2,e3⟩
  ·exact .inl h2
  ·exact .inr ⟨d,e1,by rw[bj (by omega)];exact e2,e3⟩
 ·rintro b7 H' l⟨t,h1,h2,h3,h4⟩
  exact .i ⟨t,by rw[aQ (aY h1)];exact h1,h2.ext ⟨_,rfl⟩,by rw[aQ (aY h3)];exact h3,fun a z hz ha=>by rw[aQ (aY (h4 a z hz ha))];exact h4 a z hz ha⟩
 ·rintro b7 v H' nw⟨t,h1,h2,h3,h4⟩ hb hlen
  rw[TS]at hlen
  have mf:=aY h1
  have m1:=aY h3
  have m2:=aY hb
  have bK:∀a,a<f+4→∀off len m,t≠.ax a off len m:=fun a ha off len m he=>by
   rcases h2 with⟨_,e⟩|⟨d,e,_,e3⟩
   ·rw[e]at he;cases he
   ·rw[e]at he;cases he;omega
  have sm:uF t=t:=by rcases h2 with⟨_,rfl⟩|⟨d,rfl,_⟩<;>rfl
  have hL:∀y:B,(H'.set (f+2) y++[B.cells (eN v)]).length=H'.length+1:=fun y=>by simp
  have ob:∀y:B,jA (H'.set (f+2) y++[B.cells (eN v)]) 2 24 t [eN v]=some (.ax (H'.length+1) 0 (b7++[v]).length 2,ja (H'.set (f+2) y++[B.cells (eN v)]) t++[.cells (aE eN (b7++[v]))]):=fun y=>by
   have:=xI (enc:=eN) (n:=2) (bytes:=24) (n0:=f+4) (H:=H'.set (f+2) y++[B.cells (eN v)]) (t:=t) (l:=b7) (fun _=>rfl) (by
    rcases h2 with h2|⟨d,e1,e2,e3⟩
    ·exact .inl h2
    ·refine .inr ⟨d,e1,?_,e3⟩
     first
      | (rw[aQ (by rw[List.length_set];exact aY e2),bj (by omega)];exact e2)
      | (rw[bj (by omega)];exact e2)) v (ug (by omega) (by omega))
   rw[hL]at this
   rw[this,List.length_append];rfl
  simp -implicitDefEqProofs only[eN]at ob
  have pc:∀(y:B) (a:Nat) z,H'[a]?=some z→a≠f+2→a<f+4→(ja (H'.set (f+2) y++[B.cells (eN v)]) t++[.cells (aE eN (b7++[v]))])[a]?=some z:=fun y a z hz h2 h4=>by
   have:=aY hz
   rw[aQ (by rw[jJ];simp;omega),og (bK a h4)]
   first
    | (rw[aQ (by rw[List.length_set];exact this),bj (Ne.symm h2)];exact hz)
    | (rw[bj (Ne.symm h2)];exact hz)
  have n2H:¬(f+2=H'.length):=by omega
  have n2f:¬(f+2=f):=by omega
  have nHf:¬(H'.length=f):=by omega
  simp -implicitDefEqProofs only[op,ef,cl,sq,reduceIte,j2,j3,j4,j5,j6,j7,j8,j9,y1,S1,S2,iP,kN,eN]
  refine⟨_,rfl,?_,?_⟩
  ·first
    | exact hb
    | (rw[aQ m2];exact hb)
  have Gu:=fun y=>pc y f _ h1 (by omega) (by omega)
  have TT:∀y:B,(ja (H'.set (f+2) y++[B.cells (eN v)]) t++[.cells (aE eN (b7++[v]))])[f+2]?=some y:=fun y=>by
   rw[aQ (by rw[jJ];simp;omega),og (bK _ (by omega))]
   first
    | (rw[aQ (by rw[List.length_set];exact m2),bX m2])
    | (rw[bX m2])
  have Ih:∀y:B,(ja (H'.set (f+2) y++[B.cells (eN v)]) t++[.cells (aE eN (b7++[v]))])[H'.length+1]?=some (.cells (aE eN (b7++[v]))):=fun y=>by
   rw[aO (by rw[jJ,hL])]
  try simp -implicitDefEqProofs only[eN]at Gu
  try simp -implicitDefEqProofs only[eN]at TT
  try simp -implicitDefEqProofs only[eN]at Ih
  try simp -implicitDefEqProofs only[eN]at pc
  simp -implicitDefEqProofs only[op,ef,cl,sq,reduceIte,j2,j3,j4,j5,j6,j7,j8,j9,y1,S1,S2,List.length_set,r2,mf,m2,n2H,n2f,nHf,h1,sm,ob,Gu]
  refine⟨_,rfl,by rw[bj (by omega)];exact TT _,.i ⟨_,by rw[bj (by omega),bX (aY (Gu _))],.inr ⟨_,rfl,by rw[bj (by omega),bj (by omega)];exact Ih _,by omega⟩,by rw[bj (by omega),bj (by omega)];exact pc _ _ _ h3 (by omega) (by omega),fun a y hy ha=>?_⟩,fun a y hy ha=>?_⟩
  ·have:=aY hy
   rw[bj (by omega),bj (by omega)];exact pc _ _ _ (h4 a y hy ha) (by omega) (by omega)
  ·rw[TS]at ha
   rw[bj (by omega)];exact pc _ _ _ hy (by omega) (by omega)
 ·rintro o H'⟨b7,⟨t,h1,h2,h3,h4⟩,mc,hb,qJ⟩
  refine⟨hb,?_⟩
  have k2:¬(f+2=f+1):=by omega
  have n20:¬(f+2=f):=by omega
  simp -implicitDefEqProofs only[op,ef,cl,sq,reduceIte,j2,j3,j4,j5,j6,j7,j8,j9,y1,S1,S2,r2,n20,h1]
  refine Fp (b:=f+1) (by simp -implicitDefEqProofs only[op,ef,cl,sq,reduceIte,j2,j3,j4,j5,j6,j7,j8,j9,y1,S1]) (by rw[bj (by omega)];exact h3) ?_
  simp -implicitDefEqProofs only[op,ef,cl,sq,reduceIte,j2,j3,j4,j5,j6,j7,j8,j9,y1,S1]
  refine⟨nj fun a y hy=>?_,t,b7,rfl,?_,mc⟩
  ·have:=aY hy
   rw[bj (by omega),bj (by omega)]
   by_cases ha:a=mb
   ·subst ha;rw[hm]at hy;cases hy;exact qJ
   ·exact h4 a y hy ha
  ·rcases h2 with h2|⟨d,e1,e2,e3⟩
   ·exact .inl h2
   ·exact .inr ⟨d,e1,by rw[bj (by omega),bj (by omega)];exact e2,by omega⟩
theorem TU (es:List (ByteArray×T))(c mb:Nat)(H:af)(fz:(es.map (·.1)).Nodup)(iE:es.length≤8000000)(hc:H[c]?=some (.cells [.map mb]))(hm:H[mb]?=some (.map (bh T.str es))) :
  W env (.call 121 [.sl .nil [],.fn 100 [.ptr c 0]]) H (Kf eS 1 es H):=by
 have lm:=aY hm
 have lc:=aY hc
 refine W.RS rfl rfl ?_
 simp -implicitDefEqProofs only[FI,op,ef,cl,sq,reduceIte,j2,j3,j4,j5,j6,j7,j8,j9,y1,S1,S2]
 generalize hR:oH (oH (oH (gF [T.sl SK.nil [],T.fn 100 [T.ptr c 0]]) 2 (T.ptr H.length 0)) 4 (T.sl SK.nil [])) 6 (T.fn 100 [T.ptr c 0])=R0
 have r2:R0 2=.ptr H.length 0:=by rw[←hR];simp -implicitDefEqProofs only[op,ef,cl,sq,reduceIte,j2,j3,j4,j5,j6,j7,j8,j9,y1,S1]
 have r6:R0 6=.fn 100 [.ptr c 0]:=by rw[←hR];simp -implicitDefEqProofs only[op,ef,cl,sq,reduceIte,j2,j3,j4,j5,j6,j7,j8,j9,y1,S1]
 have r13:R0 13=.bJ []:=by rw[←hR];rfl
 refine W.Ev (f:=100) (cs:=[.ptr c 0]) (by simp -implicitDefEqProofs only[op,ef,cl,sq,reduceIte,j2,j3,j4,j5,j6,j7,j8,j9,y1,S1,r6]) ?_
 have a1:(H++[B.cells [T.sl SK.nil []]]).length=H.length+1:=by simp
 rw[a1,r13,L9]
 have e1:H.length+1+1=H.length+2:=rfl
 rw[e1]
 generalize uJ:H.length=f at *
 have n02:¬(f=f+2):=by omega
 have n12:¬(f+1=f+2):=by omega
 have kE:∀x y:B,(H++[B.cells [T.sl SK.nil []]]++[y,x])[f+2]?=some x:=fun x y=>by
  rw[List.getElem?_append_right (by omega),a1]
  have:f+2-(f+1)=1:=by omega
  rw[this];rfl
 have TS:∀x y:B,(H++[B.cells [T.sl SK.nil []]]++[y,x]).length=f+3:=fun x y=>by simp[uJ]
 have Cn:∀(x y:B) (a:Nat) z,H[a]?=some z→(H++[B.cells [T.sl SK.nil []]]++[y,x])[a]?=some z:=fun x y a z hz=>by
  have:=aY hz
  rw[aQ (by omega),aQ (by omega)];exact hz
 refine W.use (OU (hb:=kE _ _) es c (f+2) mb _ (fun b7 H'=>At H' fun H'=>∃t,H'[f]?=some (.cells [t])∧pS eS 1 (f+4) H' t b7∧H'[f+1]?=some .zE∧∀(a:Nat) y,H[a]?=some y→a≠mb→H'[a]?=some y) rfl fz ?_ (Cn _ _ _ _ hc) (Cn _ _ _ _ hm) ?_ ?_ ?_) ?_
 ·refine .i ⟨.sl .nil [],?_,nX _ _ _ _,?_,fun a y hy _=>Cn _ _ _ _ hy⟩
  ·rw[aQ (by omega),aO (by omega)]
  ·rw[aO (by omega)]
 ·rintro b7 H' y⟨t,h1,h2,h3,h4⟩
  refine .i ⟨t,by rw[bj (by omega)];exact h1,?_,by rw[bj (by omega)];exact h3,fun a z hz ha=>by rw[bj (Ne.symm ha)];exact h4 a z hz ha⟩
  rcases h2 with h2|⟨d,e1,e2,e3⟩
  ·exact .inl h2
  ·exact .inr ⟨d,e1,by rw[bj (by omega)];exact e2,e3⟩
 ·rintro b7 H' l⟨t,h1,h2,h3,h4⟩
  exact .i ⟨t,by rw[aQ (aY h1)];exact h1,h2.ext ⟨_,rfl⟩,by rw[aQ (aY h3)];exact h3,fun a z hz ha=>by rw[aQ (aY (h4 a z hz ha))];exact h4 a z hz ha⟩
 ·rintro b7 v H' nw⟨t,h1,h2,h3,h4⟩ hb hlen
  rw[TS]at hlen
  have mf:=aY h1
  have m1:=aY h3
  have m2:=aY hb
  have bK:∀a,a<f+4→∀off len m,t≠.ax a off len m:=fun a ha off len m he=>by
   rcases h2 with⟨_,e⟩|⟨d,e,_,e3⟩
   ·rw[e]at he;cases he
   ·rw[e]at he;cases he;omega
  have sm:uF t=t:=by rcases h2 with⟨_,rfl⟩|⟨d,rfl,_⟩<;>rfl
  have hL:∀y:B,(H'.set (f+2) y).length=H'.length:=fun y=>by simp
  have ob:∀y:B,jA (H'.set (f+2) y) 1 16 t [eS v]=some (.ax (H'.length) 0 (b7++[v]).length 1,ja (H'.set (f+2) y) t++[.cells (aE eS (b7++[v]))]):=fun y=>by
   have:=xI (enc:=eS) (n:=1) (bytes:=16) (n0:=f+4) (H:=H'.set (f+2) y) (t:=t) (l:=b7) (fun _=>rfl) (by
    rcases h2 with h2|⟨d,e1,e2,e3⟩
    ·exact .inl h2
    ·refine .inr ⟨d,e1,?_,e3⟩
     first
      | (rw[aQ (by rw[List.length_set];exact aY e2),bj (by omega)];exact e2)
      | (rw[bj (by omega)];exact e2)) v (ug (by omega) (by omega))
   rw[hL]at this
   rw[this,List.length_append];rfl
  simp -implicitDefEqProofs only[eS]at ob
  have pc:∀(y:B) (a:Nat) z,H'[a]?=some z→a≠f+2→a<f+4→(ja (H'.set (f+2) y) t++[.cells (aE eS (b7++[v]))])[a]?=some z:=fun y a z hz h2 h4=>by
   have:=aY hz
   rw[aQ (by rw[jJ];simp;omega),og (bK a h4)]
   first
    | (rw[aQ (by rw[List.length_set];exact this),bj (Ne.symm h2)];exact hz)
    | (rw[bj (Ne.symm h2)];exact hz)
  have n2H:¬(f+2=H'.length):=by omega
  have n2f:¬(f+2=f):=by omega
  have nHf:¬(H'.length=f):=by omega
  simp -implicitDefEqProofs only[op,ef,cl,sq,reduceIte,j2,j3,j4,j5,j6,j7,j8,j9,y1,S1,S2,iP,kN,eN]
  refine⟨_,rfl,?_,?_⟩
  ·first
    | exact hb
    | (rw[aQ m2];exact hb)
  have Gu:=fun y=>pc y f _ h1 (by omega) (by omega)
  have TT:∀y:B,(ja (H'.set (f+2) y) t++[.cells (aE eS (b7++[v]))])[f+2]?=some y:=fun y=>by
   rw[aQ (by rw[jJ];simp;omega),og (bK _ (by omega))]
   first
    | (rw[aQ (by rw[List.length_set];exact m2),bX m2])
    | (rw[bX m2])
  have Ih:∀y:B,(ja (H'.set (f+2) y) t++[.cells (aE eS (b7++[v]))])[H'.length]?=some (.cells (aE eS (b7++[v]))):=fun y=>by
   rw[aO (by rw[jJ,hL])]
  try simp -implicitDefEqProofs only[eS]at Gu
  try simp -implicitDefEqProofs only[eS]at TT
  try simp -implicitDefEqProofs only[eS]at Ih
  try simp -implicitDefEqProofs only[eS]at pc
  simp -implicitDefEqProofs only[op,ef,cl,sq,reduceIte,j2,j3,j4,j5,j6,j7,j8,j9,y1,S1,S2,List.length_set,r2,mf,m2,n2H,n2f,nHf,h1,sm,ob,Gu]
  refine⟨_,rfl,by rw[bj (by omega)];exact TT _,.i ⟨_,by rw[bj (by omega),bX (aY (Gu _))],.inr ⟨_,rfl,by rw[bj (by omega),bj (by omega)];exact Ih _,by omega⟩,by rw[bj (by omega),bj (by omega)];exact pc _ _ _ h3 (by omega) (by omega),fun a y hy ha=>?_⟩,fun a y hy ha=>?_⟩
  ·have:=aY hy
   rw[bj (by omega),bj (by omega)];exact pc _ _ _ (h4 a y hy ha) (by omega) (by omega)
  ·rw[TS]at ha
   rw[bj (by omega)];exact pc _ _ _ hy (by omega) (by omega)
 ·rintro o H'⟨b7,⟨t,h1,h2,h3,h4⟩,mc,hb,qJ⟩
  refine⟨hb,?_⟩
  have k2:¬(f+2=f+1):=by omega
  have n20:¬(f+2=f):=by omega
  simp -implicitDefEqProofs only[op,ef,cl,sq,reduceIte,j2,j3,j4,j5,j6,j7,j8,j9,y1,S1,S2,r2,n20,h1]
  refine Fp (b:=f+1) (by simp -implicitDefEqProofs only[op,ef,cl,sq,reduceIte,j2,j3,j4,j5,j6,j7,j8,j9,y1,S1]) (by rw[bj (by omega)];exact h3) ?_
  simp -implicitDefEqProofs only[op,ef,cl,sq,reduceIte,j2,j3,j4,j5,j6,j7,j8,j9,y1,S1]
  refine⟨nj fun a y hy=>?_,t,b7,rfl,?_,mc⟩
  ·have:=aY hy
   rw[bj (by omega),bj (by omega)]
   by_cases ha:a=mb
   ·subst ha;rw[hm]at hy;cases hy;exact qJ
   ·exact h4 a y hy ha
  ·rcases h2 with h2|⟨d,e1,e2,e3⟩
   ·exact .inl h2
   ·exact .inr ⟨d,e1,by rw[bj (by omega),bj (by omega)];exact e2,by omega⟩
theorem OW (es:List (Nm×T))(c mb:Nat)(H:af)(fz:(es.map (·.1)).Nodup)(iE:es.length≤8000000)(hc:H[c]?=some (.cells [.map mb]))(hm:H[mb]?=some (.map (bh kN es))) :
  W env (.call 92 [.fn 94 [.ptr c 0]]) H (Kf eN 2 es H):=by
 refine W.bU rfl rfl rfl ?_
 simp -implicitDefEqProofs only[OD,op,ef,cl,sq,reduceIte,j2,j3,j4,j5,j6,j7,j8,j9,y1,S1]
 refine ae _ _ _ _ _ _ _ _ (TR es c mb H fz iE hc hm) ?_
 rintro u H1⟨hx,t,b7,hu,h1,h2⟩
 cases hu
 simp -implicitDefEqProofs only[op,ef,cl,sq,reduceIte,j2,j3,j4,j5,j6,j7,j8,j9,y1,S1]
 exact⟨hx,_,b7,rfl,h1,h2⟩
theorem OX (es:List (ByteArray×T))(c mb:Nat)(H:af)(fz:(es.map (·.1)).Nodup)(iE:es.length≤8000000)(hc:H[c]?=some (.cells [.map mb]))(hm:H[mb]?=some (.map (bh T.str es))) :
  W env (.call 98 [.fn 100 [.ptr c 0]]) H (Kf eS 1 es H):=by
 refine W.bU rfl rfl rfl ?_
 simp -implicitDefEqProofs only[OI,op,ef,cl,sq,reduceIte,j2,j3,j4,j5,j6,j7,j8,j9,y1,S1]
 refine ae _ _ _ _ _ _ _ _ (TU es c mb H fz iE hc hm) ?_
 rintro u H1⟨hx,t,b7,hu,h1,h2⟩
 cases hu
 simp -implicitDefEqProofs only[op,ef,cl,sq,reduceIte,j2,j3,j4,j5,j6,j7,j8,j9,y1,S1]
 exact⟨hx,_,b7,rfl,h1,h2⟩
theorem jb {α:Type}[Inhabited α]{d:Array α}{i:Nat}(h:i<d.size):d.toList[i]?=some d[i]!:=by
 rw[Array.getElem?_toList,Array.getElem?_eq_getElem h,getElem!_pos d i h]
theorem xJ {α:Type}[Inhabited α](d:Array α)(i j:Nat):(Go.Sort.swp d i j).toList=(d.toList.set i d[j]!).set j d[i]!:=by
 simp[Go.Sort.swp,Array.toList_setIfInBounds]
theorem swp_size {α:Type}[Inhabited α](d:Array α)(i j:Nat):(Go.Sort.swp d i j).size=d.size:=by simp[Go.Sort.swp]
def aZ (a b:Nm):Bool:=decide (dJ a b<0)
def aai (c:Nat)(d':Array Nm)(H:af):Out→af→Prop:=fun o H'=>o=.val (.bJ [])∧H'[c]?=some (.cells (aE eN d'.toList))∧bm (fun x=>x=c) H H'
theorem vz {Hx:af}{c:Nat}(d:Array Nm){i j:Nat}(hi:i<d.size)(hj:j<d.size) :
  nV Hx c [.str d[j]!.1,.int .u64 d[j]!.2] (i*2) (some (.cells (aE eN d.toList)))=some (Hx.set c (.cells (aE eN (d.toList.set i d[j]!)))) ∧
  ∀Hy,nV Hy c [.str d[i]!.1,.int .u64 d[i]!.2] (j*2) (some (.cells (aE eN (d.toList.set i d[j]!))))=some (Hy.set c (.cells (aE eN (Go.Sort.swp d i j).toList))):=by
 have g1:=ke (enc:=eN) (n:=2) (y:=d[j]!) (fun _=>rfl) (jb hi) Hx c (eN d[j]!) 0 (by simp[eN]) (by simp[eN])
 obtain⟨z,hz⟩:=cw (l:=d.toList.set i d[j]!) (i:=j) (by simpa using hj)
 have g2:=fun Hy=>ke (enc:=eN) (n:=2) (y:=d[i]!) (fun _=>rfl) hz Hy c (eN d[i]!) 0 (by simp[eN]) (by simp[eN])
 refine⟨by simpa[eN]using g1,fun Hy=>?_⟩
 rw[xJ]
 simpa[eN]using g2 Hy
theorem Gv {d:Array Nm}{i:Nat}(h:i<d.size):ph 2 (i*2) (some (.cells (aE eN d.toList)))=some [.str d[i]!.1,.int .u64 d[i]!.2]:=by
 have:=gb (enc:=eN) (n:=2) (fun _=>rfl) (jb h) 0 2 (by decide)
 simpa[eN]using this
open Go.Sort in
theorem TV (c:Nat)(d:Array Nm)(a b:Nat)(H:af)(hc:H[c]?=some (.cells (aE eN d.toList)))(hb:b≤d.size)(gy:a≤b)(hs:d.size<4611686018427387903) :
  W env (.call 132 [.ax c 0 d.size 2,.int .i64 a,.int .i64 b,.fn 61 []]) H (aai c (insertionSort aZ d a b) H):=by
 refine W.bU rfl rfl rfl ?_
 have wa:=aC (show a<9223372036854775807 by omega)
 simp -implicitDefEqProofs only[AA,op,ef,cl,sq,reduceIte,j2,j3,j4,j5,j6,j7,j8,j9,y1,S1,wa]
 refine W.cH (fun (i:Nat) R H'=>At H' (fun H'=>∃di:Array Nm,H'[c]?=some (.cells (aE eN di.toList))∧di.size=d.size∧insOuter aZ a b i di=insertionSort aZ d a b∧bm (fun x=>x=c) H H')∧R 0=.ax c 0 d.size 2∧R 1=.int .i64 a∧R 2=.int .i64 b∧R 3=.fn 61 []∧R 8=.int .i64 i∧a+1≤i) (fun i=>b-i) (a+1) ⟨.i ⟨d,hc,rfl,rfl,bm.refl _ _⟩,rfl,rfl,rfl,rfl,rfl,Nat.le_refl _⟩ ?_
 rintro i R H1⟨⟨di,hd,a9,y8,au⟩,h0,h1,h2,h3,h8,we⟩
 by_cases aw:i<b
 ·have wi:=aC (show i<9223372036854775807 by omega)
  simp -implicitDefEqProofs only[op,ef,cl,sq,reduceIte,j2,j3,j4,j5,j6,j7,j8,j9,y1,S1,h0,h1,h2,h3,h8,aw]
  refine W.cP 2 (fun (j:Nat) R H'=>At H' (fun H'=>∃dj:Array Nm,H'[c]?=some (.cells (aE eN dj.toList))∧dj.size=d.size∧insInner aZ a j dj=insInner aZ a i di∧bm (fun x=>x=c) H H')∧R 0=.ax c 0 d.size 2∧R 1=.int .i64 a∧R 2=.int .i64 b∧R 3=.fn 61 []∧R 8=.int .i64 i∧R 9=.int .i64 j∧j≤i) (fun j=>j) i
   (fun R H'=>At H' (fun H'=>∃dj:Array Nm,H'[c]?=some (.cells (aE eN dj.toList))∧dj.size=d.size∧dj=insInner aZ a i di∧bm (fun x=>x=c) H H')∧R 0=.ax c 0 d.size 2∧R 1=.int .i64 a∧R 2=.int .i64 b∧R 3=.fn 61 []∧R 8=.int .i64 i) ?_ ?_ ?_
  ·refine⟨.i ⟨di,hd,a9,rfl,au⟩,?_,?_,?_,?_,?_,?_,Nat.le_refl _⟩
   all_goals (simp -implicitDefEqProofs only[op,ef,cl,sq,reduceIte,j2,j3,j4,j5,j6,j7,j8,j9,y1,S1,h0,h1,h2,h3,h8])
  ·rintro j R H2⟨⟨dj,cr,qe,rG,kf⟩,q0,q1,q2,q3,q8,q9,Rt⟩
   by_cases OY:a<j
   ·obtain⟨j',rfl⟩:∃j',j=j'+1:=⟨j-1,by omega⟩
    have wp:IntKind.i64.wrap (((j'+1:Nat):Int)-1)=(j':Int):=by rw[wrap64 (by omega)];omega
    have j1:j'+1<d.size:=by omega
    have j0:j'<d.size:=by omega
    have i1:dw 2 (j'+1) (.ax c 0 d.size 2)=some (.ptr c ((j'+1)*2)):=by rw[fL];simp[j1]
    have i0:dw 2 j' (.ax c 0 d.size 2)=some (.ptr c (j'*2)):=by rw[fL];simp[j0]
    have v1:=Gv (d:=dj) (i:=j'+1) (by omega)
    have v0:=Gv (d:=dj) (i:=j') (by omega)
    simp -implicitDefEqProofs only[op,ef,cl,sq,reduceIte,j2,j3,j4,j5,j6,j7,j8,j9,y1,S1,q0,q1,q2,q3,q8,q9,OY,aa,i1,i0,wp,cr,v1,v0]
    refine lF _ _ _ _ _ _ _ (by simp -implicitDefEqProofs only[op,ef,cl,sq,reduceIte,j2,j3,j4,j5,j6,j7,j8,j9,y1,S1]) ?_
    simp -implicitDefEqProofs only[op,ef,cl,sq,reduceIte,j2,j3,j4,j5,j6,j7,j8,j9,y1,S1,cz,q0,q1,q2,q3,q8,q9,List.append_nil]
    refine ae _ _ _ _ _ _ _ _ (cg dj[j'+1]! dj[j']! _) ?_
    rintro u H3⟨hu,hx⟩
    cases hu
    have hx:Ext H2 H3:=hx
    have oh:=hx.get cr
    obtain⟨s1,s2⟩:=vz (Hx:=H3) (c:=c) dj (i:=j'+1) (j:=j') (by omega) (by omega)
    have TW:bm (fun x=>x=c) H H3:=kf.trans (aB (F:=fun _=>False) hx) (fun _ h=>h.elim)
    have ltd:aZ dj[j'+1]! dj[j']! = decide (dJ dj[j'+1]! dj[j']!<0):=rfl
    by_cases mV:dJ dj[j'+1]! dj[j']!<0
    ·simp -implicitDefEqProofs only[op,ef,cl,sq,reduceIte,j2,j3,j4,j5,j6,j7,j8,j9,y1,S1,q0,q1,q2,q3,q8,q9,mV,aa,i1,i0,wp,oh,v1,v0,s1,S2,s2,aY oh]
     exact⟨j',by omega,.i ⟨swp dj (j'+1) j',bX (by rw[List.length_set];exact aY oh),by rw[swp_size];exact qe,by rw[←rG];conv=>{ rhs;rw[insInner,if_pos (by simp -implicitDefEqProofs only[Bool.and_eq_true,decide_eq_true_eq,ltd];exact⟨OY,mV⟩)] },(TW.set (.inl rfl) _).set (.inl rfl) _⟩,rfl,by omega⟩
    ·simp -implicitDefEqProofs only[op,ef,cl,sq,reduceIte,j2,j3,j4,j5,j6,j7,j8,j9,y1,S1,q0,q1,q2,q3,q8,q9,mV]
     exact .i ⟨dj,oh,qe,by rw[←rG,insInner,ltd];simp[mV],TW⟩
   ·simp -implicitDefEqProofs only[op,ef,cl,sq,reduceIte,j2,j3,j4,j5,j6,j7,j8,j9,y1,S1,q0,q1,q2,q3,q8,q9,OY]
    refine .i ⟨dj,cr,qe,?_,kf⟩
    rw[←rG]
    cases j with
    | zero=>rfl
    | succ j=>rw[insInner,if_neg (by simp -implicitDefEqProofs only[Bool.and_eq_true,decide_eq_true_eq];omega)]
  ·rintro R H2⟨⟨dj,cr,qe,rG,kf⟩,q0,q1,q2,q3,q8⟩
   simp -implicitDefEqProofs only[op,ef,cl,sq,reduceIte,j2,j3,j4,j5,j6,j7,j8,j9,y1,S1,q0,q1,q2,q3,q8,wi]
   refine⟨i+1,by omega,.i ⟨dj,cr,qe,?_,kf⟩,rfl,by omega⟩
   rw[←y8,rG]
   conv=>rhs;rw[insOuter,if_pos aw]
 ·simp -implicitDefEqProofs only[op,ef,cl,sq,reduceIte,j2,j3,j4,j5,j6,j7,j8,j9,y1,S1,h0,h1,h2,h3,h8,aw]
  rw[insOuter,if_neg aw]at y8
  subst y8
  exact⟨rfl,hd,au⟩
theorem Kg {β:Type}{K:Option β→Prop}{A:Array UInt8}{n:Nat}(hn:n<A.size)(f:UInt8→β)(h:∀c,K (some (f c))):K (Option.map f A[n]?):=by rw[Array.getElem?_eq_getElem hn];exact h _
theorem TX (n:Nat)(hn:n<256)(H:af):W env (.call 118 [.int .u64 n]) H (fun o H'=>H'=H∧∃m:Nat,o=.val (.int .i64 m)):=by
 refine W.bU rfl rfl rfl ?_
 simp -implicitDefEqProofs only[Az,op,ef,cl,sq,reduceIte,j2,j3,j4,j5,j6,j7,j8,j9,y1,S1]
 refine ae _ _ _ _ _ _ _ (fun o H'=>H'=H∧∃m:Nat,o=.val (.int .i64 m)) ?_ ?_
 ·refine W.bU rfl rfl rfl ?_
  have h1:¬(4294967296≤n):=by omega
  have h2:¬(65536≤n):=by omega
  have h3:¬(256≤n):=by omega
  have OZ:=xB hn
  simp -implicitDefEqProofs only[uf,op,ef,cl,sq,reduceIte,j2,j3,j4,j5,j6,j7,j8,j9,y1,S1,h1,h2,h3,OZ,aa]
  refine Kg (K:=lE env _ _ _ _ _ _ _ _) (by show n<256;exact hn) _ fun ch=>?_
  have C4:ch.toNat<256:=ch.toNat_lt
  have wc:IntKind.i64.wrap ((ch.toNat:Nat):Int)=((ch.toNat:Nat):Int):=wrap64 (by omega)
  have wc2:IntKind.i64.wrap (0+((ch.toNat:Nat):Int))=((ch.toNat:Nat):Int):=by rw[wrap64 (by omega)];omega
  simp -implicitDefEqProofs only[op,ef,cl,sq,reduceIte,j2,j3,j4,j5,j6,j7,j8,j9,y1,S1,wc,wc2]
  exact⟨ch.toNat,rfl⟩
 ·rintro u H'⟨rfl,m,hu⟩
  cases hu
  simp -implicitDefEqProofs only[op,ef,cl,sq,reduceIte,j2,j3,j4,j5,j6,j7,j8,j9,y1,S1]
  exact⟨m,rfl⟩
set_option maxHeartbeats 8000000
theorem wA {a b:Nat}(h:a+b<9223372036854775808):IntKind.i64.wrap ((a:Int)+(b:Int))=((a+b:Nat):Int):=by rw[wrap64 (by omega)];omega
theorem a7 {a:Nat}(h:a+1<9223372036854775808):IntKind.i64.wrap ((a:Int)+1)=((a+1:Nat):Int):=by rw[wrap64 (by omega)];omega
theorem wS {a b:Nat}(h:b≤a∧a<9223372036854775808):IntKind.i64.wrap ((a:Int)-(b:Int))=((a-b:Nat):Int):=by rw[wrap64 (by omega)];omega
theorem a6 {a:Nat}(h:1≤a∧a<9223372036854775808):IntKind.i64.wrap ((a:Int)-1)=((a-1:Nat):Int):=by rw[wrap64 (by omega)];omega
theorem wM {a:Nat}(h:2*a<9223372036854775808):IntKind.i64.wrap (2*(a:Int))=((2*a:Nat):Int):=by rw[wrap64 (by omega)];omega
section
variable {c n i j:Nat} {d:Array Nm}
theorem aR (h:i<n):dw 2 i (.ax c 0 n 2)=some (.ptr c (i*2)):=by rw[fL];simp[h]
theorem rH {l:List Nm}:(aE eN l).length=l.length*2:=by rw[da (n:=2) (fun _=>rfl)]
theorem aS (h:i<d.size):(i*2+2≤(aE eN d.toList).length)=True:=by rw[rH];simp;omega
theorem aU (h:i<d.size):List.take 2 (List.drop (i*2) (aE eN d.toList))=[.str d[i]!.1,.int .u64 d[i]!.2]:=by
 have:=Gv h
 rw[nf,if_pos (by rw[rH];simp;omega)]at this
 exact Option.some.inj this
theorem aV {x:Nm}(h:i<d.size):(i*2+2≤(aE eN (d.toList.set j x)).length)=True:=by rw[rH];simp;omega
theorem aW (h:i<d.size)(h':j<d.size):(List.take (i*2) (aE eN d.toList)++[.str d[j]!.1,.int .u64 d[j]!.2])++List.drop (i*2+2) (aE eN d.toList)=aE eN (d.toList.set i d[j]!):=by
 have:=(vz (Hx:=[.cells []]) (c:=0) d h h').1
 rw[iq,if_pos (by rw[rH];simp;omega)]at this
 simpa using this
theorem aX (h:i<d.size)(h':j<d.size):(List.take (j*2) (aE eN (d.toList.set i d[j]!))++[.str d[i]!.1,.int .u64 d[i]!.2])++List.drop (j*2+2) (aE eN (d.toList.set i d[j]!))=aE eN (Go.Sort.swp d i j).toList:=by
 have:=(vz (Hx:=[.cells []]) (c:=0) d h h').2 [.cells []]
 rw[iq,if_pos (by rw[rH];simp;omega)]at this
 simpa using this
end
theorem cn {p:Prop}[Decidable p](h:p):decide p=true:=decide_eq_true h
theorem cj {p:Prop}[Decidable p](h:¬p):decide p=false:=decide_eq_false h
theorem fN {a b:Bool}(h:a=true)(h':b=true):(a&&b)=true:=by rw[h,h'];rfl
theorem dt {a b:Bool}(h:a=false):¬((a&&b)=true):=by rw[h];simp
theorem dU {a b:Bool}(h:b=false):¬((a&&b)=true):=by rw[h];simp
theorem kC {a:Bool}(h:a=true):¬((!a)=true):=by rw[h];simp
theorem fp {a:Bool}(h:a=false):(!a)=true:=by rw[h];rfl
def SC (c n:Nat)(H:af)(P:Array Nm→Prop)(H':af):Prop:=∃d:Array Nm,H'[c]?=some (.cells (aE eN d.toList))∧d.size=n∧P d∧bm (fun x=>x=c) H H'
theorem SC.swp {c n:Nat}{H H1:af}{P:Array Nm→Prop}{y x:B}{d':Array Nm}(hd:H1[c]?=some y)(hs:d'.size=n)(hP:P d')(hf:bm (fun x=>x=c) H H1):SC c n H P ((H1.set c x).set c (.cells (aE eN d'.toList))) :=
 ⟨d',bX (by rw[List.length_set];exact aY hd),hs,hP,(hf.set (.inl rfl) _).set (.inl rfl) _⟩
def y9 (c n:Nat)(d':Array Nm)(H:af):Out→af→Prop:=fun o H'=>o=.val (.bJ [])∧SC c n H (fun x=>x=d') H'
open Go.Sort in
theorem TY (c n:Nat)(d:Array Nm)(a b:Nat)(H:af)(hn:d.size=n)(hc:H[c]?=some (.cells (aE eN d.toList)))(hb:b≤n)(gy:a<b)(hs:n<4611686018427387903) :
  W env (.call 136 [.ax c 0 n 2,.int .i64 a,.int .i64 b,.fn 61 []]) H (y9 c n (reverseRange d a b) H):=by
 refine W.bU rfl rfl rfl ?_
 simp -implicitDefEqProofs (maxSteps:=1000000) (disch:=omega) only[FQ,op,ef,cl,sq,reduceIte,j2,j3,j4,j5,j6,j7,j8,j9,y1,S1,a6]
 refine W.cH (fun (i:Nat) R H'=>At H' (fun H'=>∃j,R 9=.int .i64 (j:Nat)∧i+j=a+b-1∧a≤i∧SC c n H (fun di=>reverseLoop i j di=reverseRange d a b) H')∧R 0=.ax c 0 n 2∧R 8=.int .i64 i) (fun i=>a+b-i) a ⟨.i ⟨b-1,rfl,by omega,Nat.le_refl _,d,hc,hn,rfl,bm.refl _ _⟩,rfl,rfl⟩ ?_
 rintro i R H1⟨⟨j,h9,rC,Gw,di,hd,a9,za,au⟩,h0,h8⟩
 have lc:=aY hd
 by_cases aw:i<j
 ·simp -implicitDefEqProofs (maxSteps:=1000000) (disch:=omega) only[aa,aR,aS,aU,aV,aW,aX,wA,a7,wS,a6,wM,S2,op,ef,cl,sq,reduceIte,j2,j3,j4,j5,j6,j7,j8,j9,y1,S1,h0,h8,h9,aw,hd,lc]
  exact⟨i+1,by omega,.i ⟨j-1,rfl,by omega,by omega,.swp hd (by rw[swp_size];exact a9) (by rw[←za];conv=>{ rhs;rw[reverseLoop,if_pos aw] }) au⟩,rfl⟩
 ·simp -implicitDefEqProofs only[op,ef,cl,sq,reduceIte,j2,j3,j4,j5,j6,j7,j8,j9,y1,S1,h0,h8,h9,aw]
  rw[reverseLoop,if_neg aw]at za
  exact⟨rfl,di,hd,a9,za,au⟩
set_option maxHeartbeats 8000000
open Go.Sort in
theorem Gx (c n:Nat)(d:Array Nm)(lo hi first:Nat)(H:af)(hn:d.size=n)(hc:H[c]?=some (.cells (aE eN d.toList)))(hb:first+hi≤n)(kx:lo≤n)(hs:n<2305843009213693951) :
  W env (.call 153 [.ax c 0 n 2,.int .i64 lo,.int .i64 hi,.int .i64 first,.fn 61 []]) H (y9 c n (siftDown aZ hi first lo d) H):=by
 refine W.bU rfl rfl rfl ?_
 simp -implicitDefEqProofs only[F7,op,ef,cl,sq,reduceIte,j2,j3,j4,j5,j6,j7,j8,j9,y1,S1]
 refine W.cH (fun (r:Nat) R H'=>At H' (fun H'=>SC c n H (fun di=>siftDown aZ hi first r di=siftDown aZ hi first lo d) H')∧R 0=.ax c 0 n 2∧R 2=.int .i64 hi∧R 3=.int .i64 first∧R 4=.fn 61 []∧R 10=.int .i64 r∧r≤n) (fun r=>hi-r) lo ⟨.i ⟨d,hc,hn,rfl,bm.refl _ _⟩,rfl,rfl,rfl,rfl,rfl,kx⟩ ?_
 rintro r R H1⟨⟨di,hd,a9,hP,au⟩,h0,h2,h3,h4,aF,hr⟩
 have lc:=aY hd
 by_cases eu:2*r+1≥hi
 ·simp -implicitDefEqProofs (maxSteps:=1000000) (disch:=omega) only[aa,aR,aS,aU,aV,aW,aX,wA,a7,wS,a6,wM,S2,op,ef,cl,sq,reduceIte,j2,j3,j4,j5,j6,j7,j8,j9,y1,S1,h0,h2,h3,h4,aF,eu]
  rw[siftDown,dif_pos eu]at hP
  exact⟨rfl,di,hd,a9,hP,au⟩
 by_cases du:2*r+1+1<hi
 ·simp -implicitDefEqProofs (maxSteps:=1000000) (disch:=omega) only[aa,aR,aS,aU,aV,aW,aX,wA,a7,wS,a6,wM,S2,op,ef,cl,sq,reduceIte,j2,j3,j4,j5,j6,j7,j8,j9,y1,S1,h0,h2,h3,h4,aF,eu,du,hd,lc]
  refine lF _ _ _ _ _ _ _ (by simp -implicitDefEqProofs (maxSteps:=1000000) (disch:=omega) only[aa,aR,aS,aU,aV,aW,aX,wA,a7,wS,a6,wM,S2,op,ef,cl,sq,reduceIte,j2,j3,j4,j5,j6,j7,j8,j9,y1,S1,h0,h2,h3,h4,aF,eu,du,hd,lc]) ?_
  simp -implicitDefEqProofs (maxSteps:=1000000) (disch:=omega) only[aa,aR,aS,aU,aV,aW,aX,wA,a7,wS,a6,wM,S2,op,ef,cl,sq,reduceIte,j2,j3,j4,j5,j6,j7,j8,j9,y1,S1,cz,h0,h2,h3,h4,aF,eu,du,hd,lc,List.append_nil]
  refine ae _ _ _ _ _ _ _ _ (cg di[first+(2*r+1)]! di[first+(2*r+1)+1]! _) ?_
  rintro u H2⟨hu,hx⟩
  cases hu
  have hx:Ext H1 H2:=hx
  have hd:=hx.get hd
  have lc:=aY hd
  have au:=au.trans (aB (F:=fun _=>False) hx) (fun _ h=>h.elim)
  have dc:aZ di[first+(2*r+1)]! di[first+(2*r+1)+1]! = decide (dJ di[first+(2*r+1)]! di[first+(2*r+1)+1]!<0):=rfl
  by_cases c1:dJ di[first+(2*r+1)]! di[first+(2*r+1)+1]!<0
  ·simp -implicitDefEqProofs (maxSteps:=1000000) (disch:=omega) only[aa,aR,aS,aU,aV,aW,aX,wA,a7,wS,a6,wM,S2,op,ef,cl,sq,reduceIte,j2,j3,j4,j5,j6,j7,j8,j9,y1,S1,h0,h2,h3,h4,aF,eu,du,hd,lc,c1]
   refine lF _ _ _ _ _ _ _ (by simp -implicitDefEqProofs (maxSteps:=1000000) (disch:=omega) only[aa,aR,aS,aU,aV,aW,aX,wA,a7,wS,a6,wM,S2,op,ef,cl,sq,reduceIte,j2,j3,j4,j5,j6,j7,j8,j9,y1,S1,h0,h2,h3,h4,aF,eu,du,hd,lc]) ?_
   simp -implicitDefEqProofs (maxSteps:=1000000) (disch:=omega) only[aa,aR,aS,aU,aV,aW,aX,wA,a7,wS,a6,wM,S2,op,ef,cl,sq,reduceIte,j2,j3,j4,j5,j6,j7,j8,j9,y1,S1,cz,h0,h2,h3,h4,aF,eu,du,hd,lc,List.append_nil]
   refine ae _ _ _ _ _ _ _ _ (cg di[first+r]! di[first+(2*r+1+1)]! _) ?_
   rintro u H3⟨hu,hx⟩
   cases hu
   have hx:Ext H2 H3:=hx
   have hd:=hx.get hd
   have lc:=aY hd
   have au:=au.trans (aB (F:=fun _=>False) hx) (fun _ h=>h.elim)
   have xK:aZ di[first+r]! di[first+(2*r+1+1)]! = decide (dJ di[first+r]! di[first+(2*r+1+1)]!<0):=rfl
   by_cases c2:dJ di[first+r]! di[first+(2*r+1+1)]!<0
   ·simp -implicitDefEqProofs (maxSteps:=1000000) (disch:=omega) only[aa,aR,aS,aU,aV,aW,aX,wA,a7,wS,a6,wM,S2,op,ef,cl,sq,reduceIte,j2,j3,j4,j5,j6,j7,j8,j9,y1,S1,h0,h2,h3,h4,aF,eu,du,hd,lc,c2]
    refine⟨2*r+1+1,by omega,.i (.swp hd (by rw[swp_size];exact a9) ?_ au),rfl,by omega⟩
    rw[←hP]
    conv=>{ rhs;rw[siftDown,dif_neg eu,if_pos (fN (cn du) (dc.trans (cn c1))),if_neg (kC (xK.trans (cn c2))),dif_pos du] }
   ·simp -implicitDefEqProofs (maxSteps:=1000000) (disch:=omega) only[aa,aR,aS,aU,aV,aW,aX,wA,a7,wS,a6,wM,S2,op,ef,cl,sq,reduceIte,j2,j3,j4,j5,j6,j7,j8,j9,y1,S1,h0,h2,h3,h4,aF,eu,du,hd,lc,c2]
    rw[siftDown,dif_neg eu,if_pos (fN (cn du) (dc.trans (cn c1))),if_pos (fp (xK.trans (cj c2)))]at hP
    exact⟨rfl,di,hd,a9,hP,au⟩
  ·simp -implicitDefEqProofs (maxSteps:=1000000) (disch:=omega) only[aa,aR,aS,aU,aV,aW,aX,wA,a7,wS,a6,wM,S2,op,ef,cl,sq,reduceIte,j2,j3,j4,j5,j6,j7,j8,j9,y1,S1,h0,h2,h3,h4,aF,eu,du,hd,lc,c1]
   refine lF _ _ _ _ _ _ _ (by simp -implicitDefEqProofs (maxSteps:=1000000) (disch:=omega) only[aa,aR,aS,aU,aV,aW,aX,wA,a7,wS,a6,wM,S2,op,ef,cl,sq,reduceIte,j2,j3,j4,j5,j6,j7,j8,j9,y1,S1,h0,h2,h3,h4,aF,eu,du,hd,lc]) ?_
   simp -implicitDefEqProofs (maxSteps:=1000000) (disch:=omega) only[aa,aR,aS,aU,aV,aW,aX,wA,a7,wS,a6,wM,S2,op,ef,cl,sq,reduceIte,j2,j3,j4,j5,j6,j7,j8,j9,y1,S1,cz,h0,h2,h3,h4,aF,eu,du,hd,lc,List.append_nil]
   refine ae _ _ _ _ _ _ _ _ (cg di[first+r]! di[first+(2*r+1)]! _) ?_
   rintro u H3⟨hu,hx⟩
   cases hu
   have hx:Ext H2 H3:=hx
   have hd:=hx.get hd
   have lc:=aY hd
   have au:=au.trans (aB (F:=fun _=>False) hx) (fun _ h=>h.elim)
   have xK:aZ di[first+r]! di[first+(2*r+1)]! = decide (dJ di[first+r]! di[first+(2*r+1)]!<0):=rfl
   by_cases c2:dJ di[first+r]! di[first+(2*r+1)]!<0
   ·simp -implicitDefEqProofs (maxSteps:=1000000) (disch:=omega) only[aa,aR,aS,aU,aV,aW,aX,wA,a7,wS,a6,wM,S2,op,ef,cl,sq,reduceIte,j2,j3,j4,j5,j6,j7,j8,j9,y1,S1,h0,h2,h3,h4,aF,eu,du,hd,lc,c2]
    refine⟨2*r+1,by omega,.i (.swp hd (by rw[swp_size];exact a9) ?_ au),rfl,by omega⟩
    rw[←hP]
    conv=>{ rhs;rw[siftDown,dif_neg eu,if_neg (dU (dc.trans (cj c1))),if_neg (kC (xK.trans (cn c2)))] }
   ·simp -implicitDefEqProofs (maxSteps:=1000000) (disch:=omega) only[aa,aR,aS,aU,aV,aW,aX,wA,a7,wS,a6,wM,S2,op,ef,cl,sq,reduceIte,j2,j3,j4,j5,j6,j7,j8,j9,y1,S1,h0,h2,h3,h4,aF,eu,du,hd,lc,c2]
    rw[siftDown,dif_neg eu,if_neg (dU (dc.trans (cj c1))),if_pos (fp (xK.trans (cj c2)))]at hP
    exact⟨rfl,di,hd,a9,hP,au⟩
 ·simp -implicitDefEqProofs (maxSteps:=1000000) (disch:=omega) only[aa,aR,aS,aU,aV,aW,aX,wA,a7,wS,a6,wM,S2,op,ef,cl,sq,reduceIte,j2,j3,j4,j5,j6,j7,j8,j9,y1,S1,h0,h2,h3,h4,aF,eu,du,hd,lc]
  simp -implicitDefEqProofs only[op,ef,cl,sq,reduceIte,j2,j3,j4,j5,j6,j7,j8,j9,y1,S1]
  simp -implicitDefEqProofs (maxSteps:=1000000) (disch:=omega) only[aa,aR,aS,aU,aV,aW,aX,wA,a7,wS,a6,wM,S2,op,ef,cl,sq,reduceIte,j2,j3,j4,j5,j6,j7,j8,j9,y1,S1,h0,h2,h3,h4,aF,eu,du,hd,lc]
  refine lF _ _ _ _ _ _ _ (by simp -implicitDefEqProofs (maxSteps:=1000000) (disch:=omega) only[aa,aR,aS,aU,aV,aW,aX,wA,a7,wS,a6,wM,S2,op,ef,cl,sq,reduceIte,j2,j3,j4,j5,j6,j7,j8,j9,y1,S1,h0,h2,h3,h4,aF,eu,du,hd,lc]) ?_
  simp -implicitDefEqProofs (maxSteps:=1000000) (disch:=omega) only[aa,aR,aS,aU,aV,aW,aX,wA,a7,wS,a6,wM,S2,op,ef,cl,sq,reduceIte,j2,j3,j4,j5,j6,j7,j8,j9,y1,S1,cz,h0,h2,h3,h4,aF,eu,du,hd,lc,List.append_nil]
  refine ae _ _ _ _ _ _ _ _ (cg di[first+r]! di[first+(2*r+1)]! _) ?_
  rintro u H3⟨hu,hx⟩
  cases hu
  have hx:Ext H1 H3:=hx
  have hd:=hx.get hd
  have lc:=aY hd
  have au:=au.trans (aB (F:=fun _=>False) hx) (fun _ h=>h.elim)
  have xK:aZ di[first+r]! di[first+(2*r+1)]! = decide (dJ di[first+r]! di[first+(2*r+1)]!<0):=rfl
  by_cases c2:dJ di[first+r]! di[first+(2*r+1)]!<0
  ·simp -implicitDefEqProofs (maxSteps:=1000000) (disch:=omega) only[aa,aR,aS,aU,aV,aW,aX,wA,a7,wS,a6,wM,S2,op,ef,cl,sq,reduceIte,j2,j3,j4,j5,j6,j7,j8,j9,y1,S1,h0,h2,h3,h4,aF,eu,du,hd,lc,c2]
   refine⟨2*r+1,by omega,.i (.swp hd (by rw[swp_size];exact a9) ?_ au),rfl,by omega⟩
   rw[←hP]
   conv=>{ rhs;rw[siftDown,dif_neg eu,if_neg (dt (cj du)),if_neg (kC (xK.trans (cn c2)))] }
  ·simp -implicitDefEqProofs (maxSteps:=1000000) (disch:=omega) only[aa,aR,aS,aU,aV,aW,aX,wA,a7,wS,a6,wM,S2,op,ef,cl,sq,reduceIte,j2,j3,j4,j5,j6,j7,j8,j9,y1,S1,h0,h2,h3,h4,aF,eu,du,hd,lc,c2]
   rw[siftDown,dif_neg eu,if_neg (dt (cj du)),if_pos (fp (xK.trans (cj c2)))]at hP
   exact⟨rfl,di,hd,a9,hP,au⟩
set_option maxHeartbeats 8000000
theorem wQ2 {a:Nat}(h:a<9223372036854775808):IntKind.i64.wrap ((a:Int).tdiv 2)=((a/2:Nat):Int):=by rw[Int.tdiv_eq_ediv_of_nonneg (by omega),wrap64 (by omega)];omega
theorem Wt {a:Nat}(h:a<9223372036854775808):IntKind.i64.wrap ((a:Int)-1)=(a:Int)-1:=wrap64 (by omega)
theorem Kh {a:Nat}:(((a:Nat):Int)≥0)=True:=by simp
open Go.Sort in
theorem O0 (c n:Nat)(d:Array Nm)(a b:Nat)(H:af)(hn:d.size=n)(hc:H[c]?=some (.cells (aE eN d.toList)))(hb:b≤n)(gy:a<b)(hs:n<2305843009213693951) :
  W env (.call 133 [.ax c 0 n 2,.int .i64 a,.int .i64 b,.fn 61 []]) H (y9 c n (heapSort aZ d a b) H):=by
 refine W.bU rfl rfl rfl ?_
 simp -implicitDefEqProofs (maxSteps:=1000000) (disch:=omega) only[FO,aa,aR,aS,aU,aV,aW,aX,wA,a7,wS,a6,wM,S2,op,ef,cl,sq,reduceIte,j2,j3,j4,j5,j6,j7,j8,j9,y1,S1,wQ2]
 refine W.cP 0 (fun (k:Nat) R H'=>At H' (fun H'=>SC c n H (fun di=>heapBuild aZ (b-a) a k di=heapBuild aZ (b-a) a ((b-a-1)/2+1) d) H')∧R 0=.ax c 0 n 2∧R 3=.fn 61 []∧R 8=.int .i64 a∧R 9=.int .i64 0∧R 10=.int .i64 (b-a:Nat)∧R 11=.int .i64 ((k:Int)-1)∧k≤b-a) (fun k=>k) ((b-a-1)/2+1)
  (fun R H'=>At H' (fun H'=>SC c n H (fun di=>di=heapBuild aZ (b-a) a ((b-a-1)/2+1) d) H')∧R 0=.ax c 0 n 2∧R 3=.fn 61 []∧R 8=.int .i64 a∧R 9=.int .i64 0∧R 10=.int .i64 (b-a:Nat))
  ⟨.i ⟨d,hc,hn,rfl,bm.refl _ _⟩,rfl,rfl,rfl,rfl,rfl,by simp[oH],by omega⟩ ?_ ?_
 ·rintro k R H1⟨⟨di,hd,a9,hP,au⟩,h0,h3,h8,h9,aF,ba,hk⟩
  cases k with
  | zero =>
   rw[show(((0:Nat):Int)-1)=-1 from rfl]at ba
   simp -implicitDefEqProofs (maxSteps:=1000000) (disch:=omega) only[aa,aR,aS,aU,aV,aW,aX,wA,a7,wS,a6,wM,S2,op,ef,cl,sq,reduceIte,j2,j3,j4,j5,j6,j7,j8,j9,y1,S1,h0,h3,h8,h9,aF,ba]
   exact .i ⟨di,hd,a9,hP,au⟩
  | succ k =>
   rw[show(((k+1:Nat):Int)-1)=(k:Int) by omega]at ba
   simp -implicitDefEqProofs (maxSteps:=1000000) (disch:=omega) only[aa,aR,aS,aU,aV,aW,aX,wA,a7,wS,a6,wM,S2,op,ef,cl,sq,reduceIte,j2,j3,j4,j5,j6,j7,j8,j9,y1,S1,h0,h3,h8,h9,aF,ba,Kh]
   refine ae _ _ _ _ _ _ _ _ (Gx c n di k (b-a) a _ a9 hd (by omega) (by omega) hs) ?_
   rintro u H2⟨hu,d2,cr,ir,rfl,ea⟩
   cases hu
   simp -implicitDefEqProofs (maxSteps:=1000000) (disch:=omega) only[Wt,op,ef,cl,sq,reduceIte,j2,j3,j4,j5,j6,j7,j8,j9,y1,S1,h0,h3,h8,h9,aF,ba]
   exact⟨k,by omega,.i ⟨_,cr,ir,hP,au.trans ea fun _ h=>.inl h⟩,rfl,by omega⟩
 ·rintro R H1⟨⟨di,hd,a9,hP,au⟩,h0,h3,h8,h9,aF⟩
  simp -implicitDefEqProofs (maxSteps:=1000000) (disch:=omega) only[aa,aR,aS,aU,aV,aW,aX,wA,a7,wS,a6,wM,S2,op,ef,cl,sq,reduceIte,j2,j3,j4,j5,j6,j7,j8,j9,y1,S1,h0,h3,h8,h9,aF]
  refine W.cH (fun (k:Nat) R H'=>At H' (fun H'=>SC c n H (fun di=>heapPop aZ a k di=heapSort aZ d a b) H')∧R 0=.ax c 0 n 2∧R 3=.fn 61 []∧R 8=.int .i64 a∧R 9=.int .i64 0∧R 10=.int .i64 (b-a:Nat)∧R 12=.int .i64 ((k:Int)-1)∧k≤b-a) (fun k=>k) (b-a) ⟨.i ⟨di,hd,a9,by rw[hP];rfl,au⟩,?_,?_,?_,?_,?_,?_,Nat.le_refl _⟩ ?_
  ·simp -implicitDefEqProofs only[op,ef,cl,sq,reduceIte,j2,j3,j4,j5,j6,j7,j8,j9,y1,S1,h0]
  ·simp -implicitDefEqProofs only[op,ef,cl,sq,reduceIte,j2,j3,j4,j5,j6,j7,j8,j9,y1,S1,h3]
  ·simp -implicitDefEqProofs only[op,ef,cl,sq,reduceIte,j2,j3,j4,j5,j6,j7,j8,j9,y1,S1,h8]
  ·simp -implicitDefEqProofs only[op,ef,cl,sq,reduceIte,j2,j3,j4,j5,j6,j7,j8,j9,y1,S1,h9]
  ·simp -implicitDefEqProofs only[op,ef,cl,sq,reduceIte,j2,j3,j4,j5,j6,j7,j8,j9,y1,S1,aF]
  ·simp -implicitDefEqProofs only[op,ef,cl,sq,reduceIte,j2,j3,j4,j5,j6,j7,j8,j9,y1,S1];omega
  rintro k R H1⟨⟨di,hd,a9,hP,au⟩,h0,h3,h8,h9,aF,aD,hk⟩
  have lc:=aY hd
  cases k with
  | zero =>
   rw[show(((0:Nat):Int)-1)=-1 from rfl]at aD
   simp -implicitDefEqProofs (maxSteps:=1000000) (disch:=omega) only[aa,aR,aS,aU,aV,aW,aX,wA,a7,wS,a6,wM,S2,op,ef,cl,sq,reduceIte,j2,j3,j4,j5,j6,j7,j8,j9,y1,S1,h0,h3,h8,h9,aF,aD]
   exact⟨rfl,di,hd,a9,hP,au⟩
  | succ k =>
   rw[show(((k+1:Nat):Int)-1)=(k:Int) by omega]at aD
   simp -implicitDefEqProofs (maxSteps:=1000000) (disch:=omega) only[aa,aR,aS,aU,aV,aW,aX,wA,a7,wS,a6,wM,S2,op,ef,cl,sq,reduceIte,j2,j3,j4,j5,j6,j7,j8,j9,y1,S1,h0,h3,h8,h9,aF,aD,Kh,hd,lc]
   obtain⟨d1,pO,zb,rfl,pw⟩:=SC.swp (n:=n) (P:=fun x=>x=swp di a (a+k)) (x:=.cells (aE eN (di.toList.set a di[a+k]!))) hd (by rw[Go.Sort.swp_size];exact a9) rfl au
   refine ae _ _ _ _ _ _ _ _ (Gx c n _ 0 k a _ zb pO (by omega) (by omega) hs) ?_
   rintro u H2⟨hu,d2,cr,ir,rfl,ea⟩
   cases hu
   simp -implicitDefEqProofs (maxSteps:=1000000) (disch:=omega) only[Wt,op,ef,cl,sq,reduceIte,j2,j3,j4,j5,j6,j7,j8,j9,y1,S1,h0,h3,h8,h9,aF,aD]
   exact⟨k,by omega,.i ⟨_,cr,ir,hP,pw.trans ea fun _ h=>.inl h⟩,rfl,by omega⟩
set_option maxHeartbeats 8000000
def TZ (p:Nat)(r:Nat×Nat×Nat)(H:af):Out→af→Prop:=fun o H'=>o=.val (.bJ [.int .i64 r.1,.int .i64 r.2.1])∧H'[p]?=some (.cells [.int .i64 r.2.2])∧bm (fun x=>x=p) H H'
open Go.Sort in
theorem zd (c n p sw:Nat)(d:Array Nm)(a b:Nat)(H:af)(hn:d.size=n)(hc:H[c]?=some (.cells (aE eN d.toList)))(hp:H[p]?=some (.cells [.int .i64 sw]))(ha:a<n)(hb:b<n)(hs:n<2305843009213693951)(O1:sw<1000) :
  W env (.call 162 [.ax c 0 n 2,.int .i64 a,.int .i64 b,.ptr p 0,.fn 61 []]) H (TZ p (order2 aZ d a b sw) H):=by
 refine W.bU rfl rfl rfl ?_
 have hd:=hc
 have au:=bm.refl (fun x=>x=p) H
 simp -implicitDefEqProofs (maxSteps:=1000000) (disch:=omega) only[Gh,aa,aR,aS,aU,aV,aW,aX,wA,a7,wS,a6,wM,S2,op,ef,cl,sq,reduceIte,j2,j3,j4,j5,j6,j7,j8,j9,y1,S1,hd]
 refine lF _ _ _ _ _ _ _ (by simp -implicitDefEqProofs (maxSteps:=1000000) (disch:=omega) only[aa,aR,aS,aU,aV,aW,aX,wA,a7,wS,a6,wM,S2,op,ef,cl,sq,reduceIte,j2,j3,j4,j5,j6,j7,j8,j9,y1,S1,hd]) ?_
 simp -implicitDefEqProofs (maxSteps:=1000000) (disch:=omega) only[aa,aR,aS,aU,aV,aW,aX,wA,a7,wS,a6,wM,S2,op,ef,cl,sq,reduceIte,j2,j3,j4,j5,j6,j7,j8,j9,y1,S1,cz,hd,List.append_nil]
 refine ae _ _ _ _ _ _ _ _ (cg d[b]! d[a]! _) ?_
 rintro u H1⟨hu,hx⟩
 cases hu
 have hx:Ext H H1:=hx
 have hd:=hx.get hd
 have lc:=aY hd
 have au:=au.trans (aB (F:=fun _=>False) hx) (fun _ h=>h.elim)
 have lT:=hx.get hp
 have lp:=aY lT
 have dc:aZ d[b]! d[a]! = decide (dJ d[b]! d[a]!<0):=rfl
 by_cases c1:dJ d[b]! d[a]!<0
 ·simp -implicitDefEqProofs (maxSteps:=1000000) (disch:=omega) only[aa,aR,aS,aU,aV,aW,aX,wA,a7,wS,a6,wM,S2,op,ef,cl,sq,reduceIte,j2,j3,j4,j5,j6,j7,j8,j9,y1,S1,hd,c1,lT,lp]
  refine⟨?_,?_,?_⟩
  ·rw[order2,if_pos (dc.trans (cn c1))]
  ·rw[order2,if_pos (dc.trans (cn c1))];exact bX lp
  ·exact au.set (.inl rfl) _
 ·simp -implicitDefEqProofs (maxSteps:=1000000) (disch:=omega) only[aa,aR,aS,aU,aV,aW,aX,wA,a7,wS,a6,wM,S2,op,ef,cl,sq,reduceIte,j2,j3,j4,j5,j6,j7,j8,j9,y1,S1,hd,c1,lT,lp]
  refine⟨?_,?_,?_⟩
  ·rw[order2,if_neg (by rw[dc,cj c1];simp)]
  ·rw[order2,if_neg (by rw[dc,cj c1];simp)];exact lT
  ·exact au
theorem ze (d:Array Nm){n a b sw:Nat}(ha:a<n)(hb:b<n):(Go.Sort.order2 aZ d a b sw).1<n∧(Go.Sort.order2 aZ d a b sw).2.1<n∧(Go.Sort.order2 aZ d a b sw).2.2≤sw+1:=by
 unfold Go.Sort.order2
 split
 ·exact⟨hb,ha,Nat.le_refl _⟩
 ·exact⟨ha,hb,Nat.le_succ _⟩
def Ki (p:Nat)(r:Nat×Nat)(H:af):Out→af→Prop:=fun o H'=>o=.val (.int .i64 r.1)∧H'[p]?=some (.cells [.int .i64 r.2])∧bm (fun x=>x=p) H H'
open Go.Sort in
theorem zf (c n p sw:Nat)(d:Array Nm)(a b e:Nat)(H:af)(hn:d.size=n)(hc:H[c]?=some (.cells (aE eN d.toList)))(hp:H[p]?=some (.cells [.int .i64 sw]))(px:¬c=p)(ha:a<n)(hb:b<n)(he:e<n)(hs:n<2305843009213693951)(O1:sw<900) :
  W env (.call 157 [.ax c 0 n 2,.int .i64 a,.int .i64 b,.int .i64 e,.ptr p 0,.fn 61 []]) H (fun o H'=>Ki p (median aZ d a b e sw) H o H'∧(median aZ d a b e sw).1<n∧(median aZ d a b e sw).2≤sw+3):=by
 refine W.bU rfl rfl rfl ?_
 simp -implicitDefEqProofs only[Gc,op,ef,cl,sq,reduceIte,j2,j3,j4,j5,j6,j7,j8,j9,y1,S1]
 refine ae _ _ _ _ _ _ _ _ (zd c n p sw d a b _ hn hc hp ha hb hs (by omega)) ?_
 rintro u H1⟨hu,lT,pw⟩
 cases hu
 have jl:=pw.get hc px
 obtain⟨r1,CX⟩:∃r,r=order2 aZ d a b sw:=⟨_,rfl⟩
 obtain⟨q1,q2,q3⟩:=ze d (sw:=sw) ha hb
 rw[←CX]at q1 q2 q3 lT ⊢
 simp -implicitDefEqProofs only[op,ef,cl,sq,reduceIte,j2,j3,j4,j5,j6,j7,j8,j9,y1,S1]
 refine ae _ _ _ _ _ _ _ _ (zd c n p r1.2.2 d r1.2.1 e _ hn jl lT q2 he hs (by omega)) ?_
 rintro u H2⟨hu,nA,ea⟩
 cases hu
 have oK:=ea.get jl px
 obtain⟨r2,uY⟩:∃r,r=order2 aZ d r1.2.1 e r1.2.2:=⟨_,rfl⟩
 obtain⟨q4,q5,q6⟩:=ze d (sw:=r1.2.2) q2 he
 rw[←uY]at q4 q5 q6 nA ⊢
 simp -implicitDefEqProofs only[op,ef,cl,sq,reduceIte,j2,j3,j4,j5,j6,j7,j8,j9,y1,S1]
 refine ae _ _ _ _ _ _ _ _ (zd c n p r2.2.2 d r1.1 r2.1 _ hn oK nA q1 q4 hs (by omega)) ?_
 rintro u H3⟨hu,Kj,py⟩
 cases hu
 obtain⟨q7,q8,q9⟩:=ze d (sw:=r2.2.2) q1 q4
 have e:median aZ d a b e sw=((order2 aZ d r1.1 r2.1 r2.2.2).2.1,(order2 aZ d r1.1 r2.1 r2.2.2).2.2):=by rw[median,←CX,←uY]
 rw[e]
 simp -implicitDefEqProofs only[op,ef,cl,sq,reduceIte,j2,j3,j4,j5,j6,j7,j8,j9,y1,S1]
 exact⟨⟨rfl,Kj,(pw.trans ea fun _ h=>.inl h).trans py fun _ h=>.inl h⟩,q8,by omega⟩
open Go.Sort in
theorem zg (c n p sw:Nat)(d:Array Nm)(a:Nat)(H:af)(hn:d.size=n)(hc:H[c]?=some (.cells (aE eN d.toList)))(hp:H[p]?=some (.cells [.int .i64 sw]))(px:¬c=p)(ha:1≤a)(BA:a+1<n)(hs:n<2305843009213693951)(O1:sw<900) :
  W env (.call 156 [.ax c 0 n 2,.int .i64 a,.ptr p 0,.fn 61 []]) H (fun o H'=>Ki p (medianAdjacent aZ d a sw) H o H'∧(medianAdjacent aZ d a sw).1<n∧(medianAdjacent aZ d a sw).2≤sw+3):=by
 refine W.bU rfl rfl rfl ?_
 simp -implicitDefEqProofs (maxSteps:=1000000) (disch:=omega) only[Gb,aa,aR,aS,aU,aV,aW,aX,wA,a7,wS,a6,wM,S2,op,ef,cl,sq,reduceIte,j2,j3,j4,j5,j6,j7,j8,j9,y1,S1]
 refine ae _ _ _ _ _ _ _ _ (zf c n p sw d (a-1) a (a+1) _ hn hc hp px (by omega) (by omega) BA hs O1) ?_
 rintro u H1⟨⟨hu,lT,pw⟩,q1,q2⟩
 cases hu
 simp -implicitDefEqProofs only[op,ef,cl,sq,reduceIte,j2,j3,j4,j5,j6,j7,j8,j9,y1,S1]
 exact⟨⟨rfl,lT,pw⟩,q1,q2⟩
theorem C5 {a:Nat}(h:a<9223372036854775808):IntKind.i64.wrap ((a:Int).tdiv 4)=((a/4:Nat):Int):=by rw[Int.tdiv_eq_ediv_of_nonneg (by omega),wrap64 (by omega)];omega
theorem Wu {a:Nat}(h:a<9223372036854775808):IntKind.i64.wrap ((a:Int)*1)=((a*1:Nat):Int):=by rw[wrap64 (by omega)];omega
theorem C6 {a:Nat}(h:a*2<9223372036854775808):IntKind.i64.wrap ((a:Int)*2)=((a*2:Nat):Int):=by rw[wrap64 (by omega)];omega
theorem Wv {a:Nat}(h:a*3<9223372036854775808):IntKind.i64.wrap ((a:Int)*3)=((a*3:Nat):Int):=by rw[wrap64 (by omega)];omega
def gK:Go.Sort.Hint→Int
 | .unknown=>0
 | .increasing=>1
 | .decreasing=>2
open Go.Sort in
theorem Gy (c n:Nat)(d:Array Nm)(a b:Nat)(H:af)(hn:d.size=n)(hc:H[c]?=some (.cells (aE eN d.toList)))(hb:b≤n)(gy:a+12<b)(hs:n<1305843009213693951) :
  W env (.call 135 [.ax c 0 n 2,.int .i64 a,.int .i64 b,.fn 61 []]) H (fun o H'=>o=.val (.bJ [.int .i64 (choosePivot aZ d a b).1,.int .i64 (gK (choosePivot aZ d a b).2)])∧Ext H H'):=by
 refine W.bU rfl rfl rfl ?_
 have h8:8≤b-a:=by omega
 have lc:=aY hc
 have px:¬c=H.length:=by omega
 have mV:(H++[B.cells [T.int IntKind.i64 0]])[c]?=some (.cells (aE eN d.toList)):=by rw[aQ lc];exact hc
 have T0:(H++[B.cells [T.int IntKind.i64 0]])[H.length]?=some (.cells [.int .i64 ((0:Nat):Int)]):=aO rfl
 have fin:∀H2:af,bm (fun x=>x=H.length) (H++[B.cells [T.int IntKind.i64 0]]) H2→Ext H H2:=fun H2 hf=>nj fun x y hx=>hf.get (by rw[aQ (aY hx)];exact hx) (by have:=aY hx;omega)
 by_cases vA:50≤b-a
 ·simp -implicitDefEqProofs (maxSteps:=1000000) (disch:=omega) only[AB,aa,aR,aS,aU,aV,aW,aX,wA,a7,wS,a6,wM,S2,op,ef,cl,sq,reduceIte,j2,j3,j4,j5,j6,j7,j8,j9,y1,S1,C5,Wu,C6,Wv,h8,vA]
  refine ae _ _ _ _ _ _ _ _ (zg c n H.length 0 d _ _ hn mV T0 px (by omega) (by omega) (by omega) (by omega)) ?_
  rintro u H1⟨⟨hu,lT,pw⟩,q1,q2⟩
  cases hu
  obtain⟨ri,mc⟩:∃r,r=medianAdjacent aZ d (a+(b-a)/4*1) 0:=⟨_,rfl⟩
  rw[←mc]at q1 q2 lT ⊢
  have jl:=pw.get mV px
  simp -implicitDefEqProofs only[op,ef,cl,sq,reduceIte,j2,j3,j4,j5,j6,j7,j8,j9,y1,S1]
  refine ae _ _ _ _ _ _ _ _ (zg c n H.length ri.2 d _ _ hn jl lT px (by omega) (by omega) (by omega) (by omega)) ?_
  rintro u H2⟨⟨hu,nA,ea⟩,q3,q4⟩
  cases hu
  obtain⟨rj,T1⟩:∃r,r=medianAdjacent aZ d (a+(b-a)/4*2) ri.2:=⟨_,rfl⟩
  rw[←T1]at q3 q4 nA ⊢
  have oK:=ea.get jl px
  simp -implicitDefEqProofs only[op,ef,cl,sq,reduceIte,j2,j3,j4,j5,j6,j7,j8,j9,y1,S1]
  refine ae _ _ _ _ _ _ _ _ (zg c n H.length rj.2 d _ _ hn oK nA px (by omega) (by omega) (by omega) (by omega)) ?_
  rintro u H3⟨⟨hu,Kj,py⟩,q5,q6⟩
  cases hu
  obtain⟨rk,T2⟩:∃r,r=medianAdjacent aZ d (a+(b-a)/4*3) rj.2:=⟨_,rfl⟩
  rw[←T2]at q5 q6 Kj ⊢
  have QM:=py.get oK px
  simp -implicitDefEqProofs only[op,ef,cl,sq,reduceIte,j2,j3,j4,j5,j6,j7,j8,j9,y1,S1]
  refine ae _ _ _ _ _ _ _ _ (zf c n H.length rk.2 d ri.1 rj.1 rk.1 _ hn QM Kj px q1 q3 q5 (by omega) (by omega)) ?_
  rintro u H4⟨⟨hu,pz,yg⟩,q7,q8⟩
  cases hu
  have e:choosePivot aZ d a b=((median aZ d ri.1 rj.1 rk.1 rk.2).1,if (median aZ d ri.1 rj.1 rk.1 rk.2).2=0 then .increasing else if (median aZ d ri.1 rj.1 rk.1 rk.2).2=12 then .decreasing else .unknown):=by
   simp -implicitDefEqProofs only[choosePivot,ge_iff_le,if_pos h8,if_pos vA,←mc,←T1,←T2]
  rw[e]
  have hx:=fin _ (((pw.trans ea fun _ h=>.inl h).trans py fun _ h=>.inl h).trans yg fun _ h=>.inl h)
  generalize median aZ d ri.1 rj.1 rk.1 rk.2=r at *
  obtain⟨m,sw⟩:=r
  simp only at pz ⊢
  by_cases s0:sw=0
  ·subst s0
   have e0:(((0:Nat):Int)==0)=true:=rfl
   simp -implicitDefEqProofs only[op,ef,cl,sq,reduceIte,j2,j3,j4,j5,j6,j7,j8,j9,y1,S1,pz,e0]
   exact⟨rfl,hx⟩
  have e0:(((sw:Nat):Int)==0)=false:=by simp;omega
  by_cases s1:sw=12
  ·subst s1
   have e1:(((12:Nat):Int)==12)=true:=rfl
   simp -implicitDefEqProofs only[op,ef,cl,sq,reduceIte,j2,j3,j4,j5,j6,j7,j8,j9,y1,S1,pz,e0,e1]
   exact⟨rfl,hx⟩
  have e1:(((sw:Nat):Int)==12)=false:=by simp;omega
  simp -implicitDefEqProofs only[op,ef,cl,sq,reduceIte,j2,j3,j4,j5,j6,j7,j8,j9,y1,S1,pz,e0,e1,s0,s1]
  exact⟨rfl,hx⟩
 ·simp -implicitDefEqProofs (maxSteps:=1000000) (disch:=omega) only[AB,aa,aR,aS,aU,aV,aW,aX,wA,a7,wS,a6,wM,S2,op,ef,cl,sq,reduceIte,j2,j3,j4,j5,j6,j7,j8,j9,y1,S1,C5,Wu,C6,Wv,h8,vA]
  refine ae _ _ _ _ _ _ _ _ (zf c n H.length 0 d _ _ _ _ hn mV T0 px (by omega) (by omega) (by omega) (by omega) (by omega)) ?_
  rintro u H4⟨⟨hu,pz,yg⟩,q7,q8⟩
  cases hu
  have e:choosePivot aZ d a b=((median aZ d (a+(b-a)/4*1) (a+(b-a)/4*2) (a+(b-a)/4*3) 0).1,if (median aZ d (a+(b-a)/4*1) (a+(b-a)/4*2) (a+(b-a)/4*3) 0).2=0 then .increasing else if (median aZ d (a+(b-a)/4*1) (a+(b-a)/4*2) (a+(b-a)/4*3) 0).2=12 then .decreasing else .unknown):=by
   simp -implicitDefEqProofs only[choosePivot,ge_iff_le,if_pos h8,if_neg vA]
  rw[e]
  have hx:=fin _ yg
  generalize median aZ d (a+(b-a)/4*1) (a+(b-a)/4*2) (a+(b-a)/4*3) 0=r at *
  obtain⟨m,sw⟩:=r
  simp only at pz ⊢
  by_cases s0:sw=0
  ·subst s0
   have e0:(((0:Nat):Int)==0)=true:=rfl
   simp -implicitDefEqProofs only[op,ef,cl,sq,reduceIte,j2,j3,j4,j5,j6,j7,j8,j9,y1,S1,pz,e0]
   exact⟨rfl,hx⟩
  have e0:(((sw:Nat):Int)==0)=false:=by simp;omega
  by_cases s1:sw=12
  ·subst s1
   have e1:(((12:Nat):Int)==12)=true:=rfl
   simp -implicitDefEqProofs only[op,ef,cl,sq,reduceIte,j2,j3,j4,j5,j6,j7,j8,j9,y1,S1,pz,e0,e1]
   exact⟨rfl,hx⟩
  have e1:(((sw:Nat):Int)==12)=false:=by simp;omega
  simp -implicitDefEqProofs only[op,ef,cl,sq,reduceIte,j2,j3,j4,j5,j6,j7,j8,j9,y1,S1,pz,e0,e1,s0,s1]
  exact⟨rfl,hx⟩
set_option maxHeartbeats 8000000
open Go.Sort (bitsLen)
theorem Gz {n k:Nat}(h:2^k≤n):(n/2^k).log2+k=n.log2:=by
 have h0:0<2^k:=Nat.two_pow_pos k
 have hn:n≠0:=by omega
 have hq:n/2^k≠0:=by have:=Nat.div_pos h h0;omega
 have h1:=Nat.log2_self_le hq
 have h2:=Nat.lt_log2_self (n:=n/2^k)
 refine((Nat.log2_eq_iff hn).2 ⟨?_,?_⟩).symm
 ·rw[Nat.pow_add];exact(Nat.le_div_iff_mul_le h0).1 h1
 ·rw[show(n/2^k).log2+k+1=((n/2^k).log2+1)+k by omega,Nat.pow_add];exact(Nat.div_lt_iff_lt_mul h0).1 h2
theorem xL {n k:Nat}(h:2^k≤n):bitsLen (n/2^k)+k=bitsLen n:=by
 have h0:0<2^k:=Nat.two_pow_pos k
 have hq:n/2^k≠0:=by have:=Nat.div_pos h h0;omega
 have:=Gz h
 unfold bitsLen
 rw[if_neg hq,if_neg (by omega)]
 omega
theorem qw {n k:Nat}(h:n<2^k):bitsLen n≤k:=by
 unfold bitsLen
 split
 ·omega
 ·rename_i h0;have:=(Nat.log2_lt h0).2 h;omega
def tbl:Array UInt8:=#[0,1,2,2,3,3,3,3,4,4,4,4,4,4,4,4,5,5,5,5,5,5,5,5,5,5,5,5,5,5,5,5,6,6,6,6,6,6,6,6,6,6,6,6,6,6,6,6,6,6,6,6,6,6,6,6,6,6,6,6,6,6,6,6,7,7,7,7,7,7,7,7,7,7,7,7,7,7,7,7,7,7,7,7,7,7,7,7,7,7,7,7,7,7,7,7,7,7,7,7,7,7,7,7,7,7,7,7,7,7,7,7,7,7,7,7,7,7,7,7,7,7,7,7,7,7,7,7,8,8,8,8,8,8,8,8,8,8,8,8,8,8,8,8,8,8,8,8,8,8,8,8,8,8,8,8,8,8,8,8,8,8,8,8,8,8,8,8,8,8,8,8,8,8,8,8,8,8,8,8,8,8,8,8,8,8,8,8,8,8,8,8,8,8,8,8,8,8,8,8,8,8,8,8,8,8,8,8,8,8,8,8,8,8,8,8,8,8,8,8,8,8,8,8,8,8,8,8,8,8,8,8,8,8,8,8,8,8,8,8,8,8,8,8,8,8,8,8,8,8,8,8,8,8,8,8]
def aaj:Bool:=(List.range 256).all fun n=>match tbl[n]? with|some c=>c.toNat==bitsLen n|none=>false
theorem Kk:aaj=true:=by decide +kernel
theorem zh {β:Type}{K:Option β→Prop}{n:Nat}(hn:n<256)(f:UInt8→β)(h:∀c:UInt8,c.toNat=bitsLen n→K (some (f c))):K (Option.map f tbl[n]?):=by
 have:=List.all_eq_true.1 Kk n (List.mem_range.2 hn)
 split at this
 ·rename_i c hc
  rw[hc];exact h c (by simpa using this)
 ·cases this
theorem T3 (n:Nat)(hn:n<16777216)(H:af):W env (.call 141 [.int .u64 n]) H (fun o H'=>o=.val (.int .i64 (bitsLen n))∧H'=H):=by
 refine W.bU rfl rfl rfl ?_
 have h1:¬(4294967296≤n):=by omega
 have fin:∀(m k:Nat),m<256→k≤16→IntKind.i64.wrap ((k:Int)+((bitsLen m:Nat):Int))=((bitsLen m+k:Nat):Int):=fun m k hm hk=>by
  have:=qw (n:=m) (k:=8) hm
  rw[wrap64 (by omega)];omega
 by_cases h2:65536≤n
 ·have e16:(n:Int).fdiv (2^(min (16:Int).toNat IntKind.u64.bits))=((n/65536:Nat):Int):=by
   show(n:Int).fdiv 65536=_
   rw[Int.fdiv_eq_ediv_of_nonneg _ (by decide)];omega
  have h3:¬(256≤n/65536):=by omega
  have OZ:=xB (n:=n/65536) (by omega)
  have w16:IntKind.i64.wrap (0+16)=16:=by decide
  have:=fin (n/65536) 16 (by omega) (by omega)
  rw[show bitsLen (n/65536)+16=bitsLen n from xL (k:=16) h2]at this
  simp -implicitDefEqProofs only[uf,op,ef,cl,sq,reduceIte,j2,j3,j4,j5,j6,j7,j8,j9,y1,S1,h1,h2,e16,h3,OZ,w16,aa]
  refine zh (K:=lE env _ _ _ _ _ _ _ _) (by omega) _ fun ch C4=>?_
  have wc:IntKind.i64.wrap ((ch.toNat:Nat):Int)=((ch.toNat:Nat):Int):=wrap64 (by have:=ch.toNat_lt;omega)
  rw[C4]at wc
  simp -implicitDefEqProofs only[op,ef,cl,sq,reduceIte,j2,j3,j4,j5,j6,j7,j8,j9,y1,S1,C4,wc]
  exact congrArg (fun x=>Out.val (.int .i64 x)) this
 by_cases h3:256≤n
 ·have e8:(n:Int).fdiv (2^(min (8:Int).toNat IntKind.u64.bits))=((n/256:Nat):Int):=by
   show(n:Int).fdiv 256=_
   rw[Int.fdiv_eq_ediv_of_nonneg _ (by decide)];omega
  have OZ:=xB (n:=n/256) (by omega)
  have w80:IntKind.i64.wrap (0+8)=8:=by decide
  have:=fin (n/256) 8 (by omega) (by omega)
  rw[show bitsLen (n/256)+8=bitsLen n from xL (k:=8) h3]at this
  simp -implicitDefEqProofs only[uf,op,ef,cl,sq,reduceIte,j2,j3,j4,j5,j6,j7,j8,j9,y1,S1,h1,h2,e8,h3,OZ,w80,aa]
  refine zh (K:=lE env _ _ _ _ _ _ _ _) (by omega) _ fun ch C4=>?_
  have wc:IntKind.i64.wrap ((ch.toNat:Nat):Int)=((ch.toNat:Nat):Int):=wrap64 (by have:=ch.toNat_lt;omega)
  rw[C4]at wc
  simp -implicitDefEqProofs only[op,ef,cl,sq,reduceIte,j2,j3,j4,j5,j6,j7,j8,j9,y1,S1,C4,wc]
  exact congrArg (fun x=>Out.val (.int .i64 x)) this
 ·have OZ:=xB (n:=n) (by omega)
  have:=fin n 0 (by omega) (by omega)
  simp -implicitDefEqProofs only[uf,op,ef,cl,sq,reduceIte,j2,j3,j4,j5,j6,j7,j8,j9,y1,S1,h1,h2,h3,OZ,aa]
  refine zh (K:=lE env _ _ _ _ _ _ _ _) (by omega) _ fun ch C4=>?_
  have wc:IntKind.i64.wrap ((ch.toNat:Nat):Int)=((ch.toNat:Nat):Int):=wrap64 (by have:=ch.toNat_lt;omega)
  rw[C4]at wc
  simp -implicitDefEqProofs only[op,ef,cl,sq,reduceIte,j2,j3,j4,j5,j6,j7,j8,j9,y1,S1,C4,wc]
  exact congrArg (fun x=>Out.val (.int .i64 x)) this
theorem GA (n:Nat)(hn:n<16777216)(H:af):W env (.call 118 [.int .u64 n]) H (fun o H'=>o=.val (.int .i64 (bitsLen n))∧H'=H):=by
 refine W.bU rfl rfl rfl ?_
 simp -implicitDefEqProofs only[Az,op,ef,cl,sq,reduceIte,j2,j3,j4,j5,j6,j7,j8,j9,y1,S1]
 refine ae _ _ _ _ _ _ _ _ (T3 n hn _) ?_
 rintro u H1⟨hu,rfl⟩
 cases hu
 simp -implicitDefEqProofs only[op,ef,cl,sq,reduceIte,j2,j3,j4,j5,j6,j7,j8,j9,y1,S1]
theorem GB (n:Nat)(hn:n<16777216)(H:af):W env (.call 154 [.int .i64 n]) H (fun o H'=>o=.val (.int .u64 ((1 <<< bitsLen n:Nat):Int))∧H'=H):=by
 refine W.bU rfl rfl rfl ?_
 have wu:=pU (n:=n) (by omega)
 simp -implicitDefEqProofs only[F9,op,ef,cl,sq,reduceIte,j2,j3,j4,j5,j6,j7,j8,j9,y1,S1,wu]
 refine ae _ _ _ _ _ _ _ _ (GA n hn _) ?_
 rintro u H1⟨hu,rfl⟩
 cases hu
 have hb:=qw (n:=n) (k:=24) hn
 have n0:¬(((bitsLen n:Nat):Int)<0):=by omega
 have e:IntKind.u64.wrap (1*2^(min ((bitsLen n:Nat):Int).toNat IntKind.u64.bits))=((1 <<< bitsLen n:Nat):Int):=by
  rw[Int.toNat_natCast,Nat.min_eq_left (by show bitsLen n≤64;omega),Nat.one_shiftLeft,Int.one_mul]
  have:(2:Nat)^bitsLen n≤2^24:=Nat.pow_le_pow_right (by decide) hb
  have h2:((2:Int)^bitsLen n)=((2^bitsLen n:Nat):Int):=by simp
  rw[h2]
  exact pU (by omega)
 simp -implicitDefEqProofs only[op,ef,cl,sq,reduceIte,j2,j3,j4,j5,j6,j7,j8,j9,y1,S1,n0,e]
set_option maxHeartbeats 8000000
open Go.Sort (bitsLen)
theorem Mi (x:Int):IntKind.u64.wrap x=x%18446744073709551616:=by
 unfold IntKind.wrap
 simp -implicitDefEqProofs only[IntKind.signed,IntKind.bits]
 simp
theorem Km (r:UInt64):IntKind.u64.wrap ((r.toNat:Int)*2^(min (13:Int).toNat IntKind.u64.bits))=((r <<< 13).toNat:Int):=by
 rw[Mi,UInt64.toNat_shiftLeft,Nat.shiftLeft_eq]
 show(r.toNat:Int)*8192%_=((r.toNat*8192%18446744073709551616:Nat):Int)
 omega
theorem Kn (r:UInt64):IntKind.u64.wrap ((r.toNat:Int)*2^(min (17:Int).toNat IntKind.u64.bits))=((r <<< 17).toNat:Int):=by
 rw[Mi,UInt64.toNat_shiftLeft,Nat.shiftLeft_eq]
 show(r.toNat:Int)*131072%_=((r.toNat*131072%18446744073709551616:Nat):Int)
 omega
theorem O2 (r:UInt64):(r.toNat:Int).fdiv (2^(min (7:Int).toNat IntKind.u64.bits))=((r >>> 7).toNat:Int):=by
 rw[UInt64.toNat_shiftRight,Nat.shiftRight_eq_div_pow]
 show(r.toNat:Int).fdiv 128=((r.toNat/128:Nat):Int)
 rw[Int.fdiv_eq_ediv_of_nonneg _ (by decide)];omega
theorem T4 (r:UInt64):BitVec.ofInt IntKind.u64.bits (r.toNat:Int)=r.toBitVec:=by
 apply BitVec.eq_of_toNat_eq
 rw[BitVec.toNat_ofInt]
 have:=r.toNat_lt
 show((r.toNat:Int)%18446744073709551616).toNat=r.toNat
 omega
theorem T5 (r s:UInt64):IntKind.u64.wrap ((BitVec.ofInt IntKind.u64.bits (r.toNat:Int) ^^^ BitVec.ofInt IntKind.u64.bits (s.toNat:Int)).toNat:Int)=((r ^^^ s).toNat:Int):=by
 refine Eq.trans ?_ (pU (r ^^^ s).toNat_lt)
 rw[T4,T4]
 rfl
theorem AK (r:UInt64)(k:Nat)(hk:k<18446744073709551616):IntKind.u64.wrap ((BitVec.ofInt IntKind.u64.bits (r.toNat:Int) &&& BitVec.ofInt IntKind.u64.bits (k:Int)).toNat:Int)=((r.toNat &&& k:Nat):Int):=by
 have h:(BitVec.ofInt IntKind.u64.bits (r.toNat:Int) &&& BitVec.ofInt IntKind.u64.bits (k:Int)).toNat=r.toNat &&& k:=by
  rw[BitVec.toNat_and,BitVec.toNat_ofInt,BitVec.toNat_ofInt]
  have:=r.toNat_lt
  have e1:((r.toNat:Int)%((2^IntKind.u64.bits:Nat):Int)).toNat=r.toNat:=by
   show((r.toNat:Int)%18446744073709551616).toNat=r.toNat
   omega
  have e2:((k:Int)%((2^IntKind.u64.bits:Nat):Int)).toNat=k:=by
   show((k:Int)%18446744073709551616).toNat=k
   omega
  rw[e1,e2]
 rw[h]
 exact pU (Nat.lt_of_le_of_lt Nat.and_le_right hk)
theorem Mj (p:Nat)(r:UInt64)(H:af)(hp:H[p]?=some (.cells [.int .u64 r.toNat])) :
  W env (.call 155 [.ptr p 0]) H (fun o H'=>o=.val (.int .u64 (Go.Sort.xorNext r).toNat)∧H'[p]?=some (.cells [.int .u64 (Go.Sort.xorNext r).toNat])∧bm (fun x=>x=p) H H'):=by
 refine W.bU rfl rfl rfl ?_
 have lp:=aY hp
 have n13:¬((13:Int)<0):=by decide
 have n7:¬((7:Int)<0):=by decide
 have n17:¬((17:Int)<0):=by decide
 simp -implicitDefEqProofs only[Km,Kn,O2,T5,Ga,op,ef,cl,sq,reduceIte,j2,j3,j4,j5,j6,j7,j8,j9,y1,S1,hp,lp,S2,n13,n7,n17]
 exact⟨rfl,rfl,(((bm.refl (fun x=>x=p) _).set (.inl rfl) _).set (.inl rfl) _).set (.inl rfl) _⟩
theorem xM {n:Nat}(h:n≠0):1 <<< bitsLen n≤2*n:=by
 rw[Nat.one_shiftLeft,bitsLen,if_neg h,Nat.pow_succ]
 have:=Nat.log2_self_le h
 omega
def Ml (a len md:Nat)(d:Array Nm):Nat→UInt64×Array Nm
 | 0=>(UInt64.ofNat len,d)
 | j+1=>Go.Sort.breakStep a len md (Ml a len md d j) (a+len/4*2-1+j)
theorem Ww {a:Nat}(h:1≤a∧a<18446744073709551616):IntKind.u64.wrap ((a:Int)-1)=((a-1:Nat):Int):=by rw[u3 (by omega)];omega
theorem wN {a:Nat}(h:a<9223372036854775808):IntKind.i64.wrap (a:Int)=(a:Int):=wrap64 (by omega)
open Go.Sort in
theorem Ko (c n:Nat)(d:Array Nm)(a b:Nat)(H:af)(hn:d.size=n)(hc:H[c]?=some (.cells (aE eN d.toList)))(hb:b≤n)(gy:a+12<b)(hs:n<16777216) :
  W env (.call 134 [.ax c 0 n 2,.int .i64 a,.int .i64 b,.fn 61 []]) H (y9 c n (breakPatterns d a b) H):=by
 refine W.bU rfl rfl rfl ?_
 have h8:8≤b-a:=by omega
 have lc:=aY hc
 obtain⟨len,hlen⟩:∃len,len=b-a:=⟨_,rfl⟩
 have wl:IntKind.u64.wrap ((len:Nat):Int)=(len:Int):=pU (by omega)
 rw[←hlen]at h8
 simp -implicitDefEqProofs (maxSteps:=1000000) (disch:=omega) only[FP,aa,aR,aS,aU,aV,aW,aX,wA,a7,wS,a6,wM,S2,op,ef,cl,sq,reduceIte,j2,j3,j4,j5,j6,j7,j8,j9,y1,S1,C5,C6,←hlen,wl,h8]
 refine ae _ _ _ _ _ _ _ _ (GB len (by omega) _) ?_
 rintro u H1⟨hu,rfl⟩
 cases hu
 obtain⟨md,T6⟩:∃md,md=1 <<< bitsLen len:=⟨_,rfl⟩
 have Nv:=xM (n:=len) (by omega)
 have Ke:1≤1 <<< bitsLen len:=by rw[Nat.one_shiftLeft];exact Nat.one_le_two_pow
 rw[←T6]at Ke Nv ⊢
 have hq:len/4*2≤len:=by omega
 obtain⟨ix,wG⟩:∃ix,ix=a+len/4*2-1:=⟨_,rfl⟩
 have uZ:breakPatterns d a b=(Ml a len md d 3).2:=by
  simp -implicitDefEqProofs only[breakPatterns,←hlen,ge_iff_le,if_pos h8,Ml,←T6,Nat.add_zero]
 simp -implicitDefEqProofs (maxSteps:=1000000) (disch:=omega) only[aa,aR,aS,aU,aV,aW,aX,wA,a7,wS,a6,wM,S2,op,ef,cl,sq,reduceIte,j2,j3,j4,j5,j6,j7,j8,j9,y1,S1,C5,C6,←wG]
 have jl:(H++[B.cells [T.int IntKind.u64 len]])[c]?=some (.cells (aE eN d.toList)):=by rw[aQ lc];exact hc
 have lT:(H++[B.cells [T.int IntKind.u64 len]])[H.length]?=some (.cells [.int .u64 (UInt64.ofNat len).toNat]):=by
  rw[aO rfl,UInt64.toNat_ofNat_of_lt' (by show len<18446744073709551616;omega)]
 refine W.cH (fun (j:Nat) R H'=>At H' (fun H'=>∃d':Array Nm,H'[c]?=some (.cells (aE eN d'.toList))∧d'.size=n∧d'=(Ml a len md d j).2∧H'[H.length]?=some (.cells [.int .u64 (Ml a len md d j).1.toNat])∧bm (fun x=>x=c∨x=H.length) (H++[B.cells [T.int IntKind.u64 len]]) H')∧R 0=.ax c 0 n 2∧R 1=.int .i64 a∧R 8=.int .i64 len∧R 9=.ptr H.length 0∧R 10=.int .u64 md∧R 11=.int .i64 (ix+j:Nat)∧j≤3) (fun j=>3-j) 0 ⟨.i ⟨d,jl,hn,rfl,lT,bm.refl _ _⟩,rfl,rfl,rfl,rfl,rfl,rfl,by omega⟩ ?_
 rintro j R H1⟨⟨di,hd,a9,T7,hp,au⟩,h0,h1,Kq,h9,aF,ba,hj⟩
 by_cases hj3:j<3
 ·have hle:ix+j≤a+len/4*2+1:=by omega
  simp -implicitDefEqProofs (maxSteps:=1000000) (disch:=omega) only[aa,aR,aS,aU,aV,aW,aX,wA,a7,wS,a6,wM,S2,op,ef,cl,sq,reduceIte,j2,j3,j4,j5,j6,j7,j8,j9,y1,S1,C5,C6,h0,h1,Kq,h9,aF,ba,hle]
  refine ae _ _ _ _ _ _ _ _ (Mj H.length _ _ hp) ?_
  rintro u H2⟨hu,nA,ea⟩
  cases hu
  have hd:=ea.get hd (by omega)
  have yh:=aY hd
  obtain⟨r,hr⟩:∃r,r=xorNext (Ml a len md d j).1:=⟨_,rfl⟩
  rw[←hr]at nA ⊢
  obtain⟨ot,Kr⟩:∃ot,ot=r.toNat &&& (md-1):=⟨_,rfl⟩
  have hol:ot≤md-1:=by rw[Kr];exact Nat.and_le_right
  have bV:Ml a len md d (j+1)=(r,swp di (ix+j) (a+if ot≥len then ot-len else ot)):=by
   simp -implicitDefEqProofs only[Ml,breakStep,←hr,←T7,←Kr,←wG]
  have bK:¬(c=H.length):=by omega
  by_cases eu:len≤ot
  ·rw[if_pos eu]at bV
   simp -implicitDefEqProofs (maxSteps:=1000000) (disch:=omega) only[aa,aR,aS,aU,aV,aW,aX,wA,a7,wS,a6,wM,S2,op,ef,cl,sq,reduceIte,j2,j3,j4,j5,j6,j7,j8,j9,y1,S1,Ww,AK,wN,←Kr,h0,h1,Kq,h9,aF,ba,eu,hd,yh]
   refine⟨j+1,by omega,.i ⟨swp di (ix+j) (a+(ot-len)),bX (by rw[List.length_set];exact yh),by rw[swp_size];exact a9,by rw[bV],?_,((au.trans ea fun x h=>.inl (.inr h)).set (.inl (.inl rfl)) _).set (.inl (.inl rfl)) _⟩,rfl,by omega⟩
   rw[bj bK,bj bK,nA,bV]
  ·rw[if_neg eu]at bV
   simp -implicitDefEqProofs (maxSteps:=1000000) (disch:=omega) only[aa,aR,aS,aU,aV,aW,aX,wA,a7,wS,a6,wM,S2,op,ef,cl,sq,reduceIte,j2,j3,j4,j5,j6,j7,j8,j9,y1,S1,Ww,AK,wN,←Kr,h0,h1,Kq,h9,aF,ba,eu,hd,yh]
   refine⟨j+1,by omega,.i ⟨swp di (ix+j) (a+ot),bX (by rw[List.length_set];exact yh),by rw[swp_size];exact a9,by rw[bV],?_,((au.trans ea fun x h=>.inl (.inr h)).set (.inl (.inl rfl)) _).set (.inl (.inl rfl)) _⟩,rfl,by omega⟩
   rw[bj bK,bj bK,nA,bV]
 ·have y6:j=3:=by omega
  subst y6
  have hle:¬(ix+3≤a+len/4*2+1):=by omega
  simp -implicitDefEqProofs (maxSteps:=1000000) (disch:=omega) only[aa,aR,aS,aU,aV,aW,aX,wA,a7,wS,a6,wM,S2,op,ef,cl,sq,reduceIte,j2,j3,j4,j5,j6,j7,j8,j9,y1,S1,C5,C6,h0,h1,Kq,h9,aF,ba,hle]
  exact⟨rfl,di,hd,a9,by rw[uZ,T7],(aB (F:=fun x=>x=c) (H:=H) (H':=H++[B.cells [T.int IntKind.u64 len]]) ⟨_,rfl⟩).trans au fun x h=>h.elim .inl fun e=>.inr (by omega)⟩
set_option maxHeartbeats 8000000
open Go.Sort in
theorem lN {p:Nm→Bool}{d:Array Nm}{i k:Nat}(h:1≤i):scanDown p d i k=if (decide (i≤k)&&p d[k]!)=true then scanDown p d i (k-1)else k:=by
 cases k with
 | zero=>rw[scanDown,if_neg (dt (cj (by omega)))]
 | succ k=>rw[scanDown];rfl
open Go.Sort in
theorem O3 {a i j si sj:Nat}{d:Array Nm}(hi:si=scanUp (fun x=>!aZ d[a]! x) d j i)(hj:sj=scanDown (fun x=>aZ d[a]! x) d si j):partEqLoop aZ a i j d=if si>sj then(si,d)else if (sj-1)+1-(si+1)<j+1-i then partEqLoop aZ a (si+1) (sj-1) (swp d si sj)else(si,d):=by
 subst hi;subst hj
 rw[partEqLoop]
 rfl
open Go.Sort in
theorem T8 (c n:Nat)(d:Array Nm)(a b pv:Nat)(H:af)(hn:d.size=n)(hc:H[c]?=some (.cells (aE eN d.toList)))(hb:b≤n)(gy:a<b)(mD:pv<n)(hs:n<2305843009213693951) :
  W env (.call 138 [.ax c 0 n 2,.int .i64 a,.int .i64 b,.int .i64 pv,.fn 61 []]) H (fun o H'=>o=.val (.int .i64 (partitionEqual aZ d a b pv).1)∧SC c n H (fun x=>x=(partitionEqual aZ d a b pv).2) H'):=by
 refine W.bU rfl rfl rfl ?_
 have hd:=hc
 have lc:=aY hd
 simp -implicitDefEqProofs (maxSteps:=1000000) (disch:=omega) only[FT,aa,aR,aS,aU,aV,aW,aX,wA,a7,wS,a6,wM,S2,op,ef,cl,sq,reduceIte,j2,j3,j4,j5,j6,j7,j8,j9,y1,S1,hd,lc]
 obtain⟨d1,pO,zb,e1,pw⟩:=SC.swp (n:=n) (P:=fun x=>x=swp d a pv) (x:=.cells (aE eN (d.toList.set a d[pv]!))) hd (by rw[Go.Sort.swp_size];exact hn) rfl (bm.refl (fun x=>x=c) H)
 subst e1
 generalize ((H.set c (.cells (aE eN (d.toList.set a d[pv]!)))).set c (.cells (aE eN (swp d a pv).toList)))=H1 at *
 refine W.cP 0 (fun (q:Nat×Nat) R H'=>At H' (fun H'=>SC c n H (fun di=>partEqLoop aZ a q.1 q.2 di=partitionEqual aZ d a b pv) H')∧R 0=.ax c 0 n 2∧R 1=.int .i64 a∧R 4=.fn 61 []∧R 11=.int .i64 q.1∧R 12=.int .i64 q.2∧a<q.1∧q.2<n∧q.1≤n) (fun q=>q.2+1-q.1) (a+1,b-1)
  (fun R H'=>At H' (fun H'=>SC c n H (fun di=>di=(partitionEqual aZ d a b pv).2) H')∧R 11=.int .i64 (partitionEqual aZ d a b pv).1) ⟨.i ⟨_,pO,zb,rfl,pw⟩,rfl,rfl,rfl,rfl,rfl,by omega,by simp only;omega,by simp only;omega⟩ ?_ ?_
 ·rintro⟨i,j⟩ R H1 ⟨⟨di,hd,a9,hP,au⟩,h0,h1,h4,ba,aD,Gw,yF,iW⟩
  simp only at hP ba aD Gw yF iW ⊢
  simp -implicitDefEqProofs only[op,ef,cl,sq,reduceIte,j2,j3,j4,j5,j6,j7,j8,j9,y1,S1,h0,h1,h4,ba,aD]
  obtain⟨si,pA⟩:∃si,si=scanUp (fun x=>!aZ di[a]! x) di j i:=⟨_,rfl⟩
  refine W.cP 2 (fun (k:Nat) R H'=>At H' (fun H'=>H'[c]?=some (.cells (aE eN di.toList))∧bm (fun x=>x=c) H H')∧R 0=.ax c 0 n 2∧R 1=.int .i64 a∧R 4=.fn 61 []∧R 11=.int .i64 k∧R 12=.int .i64 j∧i≤k∧k≤n∧scanUp (fun x=>!aZ di[a]! x) di j k=si) (fun k=>j+1-k) i
   (fun R H'=>At H' (fun H'=>H'[c]?=some (.cells (aE eN di.toList))∧bm (fun x=>x=c) H H')∧R 0=.ax c 0 n 2∧R 1=.int .i64 a∧R 4=.fn 61 []∧R 11=.int .i64 si∧R 12=.int .i64 j∧i≤si∧si≤n) ⟨.i ⟨hd,au⟩,h0,h1,h4,ba,aD,Nat.le_refl _,iW,pA.symm⟩ ?_ ?_
  ·rintro k R H2⟨⟨hd,au⟩,h0,h1,h4,ba,aD,rI,mQ,hk⟩
   have lc:=aY hd
   by_cases eM:k≤j
   ·simp -implicitDefEqProofs (maxSteps:=1000000) (disch:=omega) only[aa,aR,aS,aU,aV,aW,aX,wA,a7,wS,a6,wM,S2,op,ef,cl,sq,reduceIte,j2,j3,j4,j5,j6,j7,j8,j9,y1,S1,h0,h1,h4,ba,aD,eM,hd,lc]
    refine lF _ _ _ _ _ _ _ (by simp -implicitDefEqProofs (maxSteps:=1000000) (disch:=omega) only[aa,aR,aS,aU,aV,aW,aX,wA,a7,wS,a6,wM,S2,op,ef,cl,sq,reduceIte,j2,j3,j4,j5,j6,j7,j8,j9,y1,S1,h0,h1,h4,ba,aD,eM,hd,lc]) ?_
    simp -implicitDefEqProofs (maxSteps:=1000000) (disch:=omega) only[aa,aR,aS,aU,aV,aW,aX,wA,a7,wS,a6,wM,S2,op,ef,cl,sq,reduceIte,j2,j3,j4,j5,j6,j7,j8,j9,y1,S1,cz,h0,h1,h4,ba,aD,eM,hd,lc,List.append_nil]
    refine ae _ _ _ _ _ _ _ _ (cg di[a]! di[k]! _) ?_
    rintro u H3⟨hu,hx⟩
    cases hu
    have hx:Ext H2 H3:=hx
    have hd:=hx.get hd
    have lc:=aY hd
    have au:=au.trans (aB (F:=fun _=>False) hx) (fun _ h=>h.elim)
    have dc:aZ di[a]! di[k]! = decide (dJ di[a]! di[k]!<0):=rfl
    by_cases c1:dJ di[a]! di[k]!<0
    ·simp -implicitDefEqProofs (maxSteps:=1000000) (disch:=omega) only[aa,aR,aS,aU,aV,aW,aX,wA,a7,wS,a6,wM,S2,op,ef,cl,sq,reduceIte,j2,j3,j4,j5,j6,j7,j8,j9,y1,S1,h0,h1,h4,ba,aD,eM,c1]
     rw[scanUp,if_neg (dU (by rw[dc,cn c1];rfl))]at hk
     subst hk
     exact⟨.i ⟨hd,au⟩,rfl,rI,mQ⟩
    ·simp -implicitDefEqProofs (maxSteps:=1000000) (disch:=omega) only[aa,aR,aS,aU,aV,aW,aX,wA,a7,wS,a6,wM,S2,op,ef,cl,sq,reduceIte,j2,j3,j4,j5,j6,j7,j8,j9,y1,S1,h0,h1,h4,ba,aD,eM,c1]
     rw[scanUp,if_pos (fN (cn eM) (fp (dc.trans (cj c1))))]at hk
     exact⟨k+1,by omega,.i ⟨hd,au⟩,rfl,by omega,by omega,hk⟩
   ·simp -implicitDefEqProofs (maxSteps:=1000000) (disch:=omega) only[op,ef,cl,sq,reduceIte,j2,j3,j4,j5,j6,j7,j8,j9,y1,S1,h0,h1,h4,ba,aD,eM]
    simp -implicitDefEqProofs only[op,ef,cl,sq,reduceIte,j2,j3,j4,j5,j6,j7,j8,j9,y1,S1,h0,h1,h4,ba,aD,eM]
    rw[scanUp,if_neg (dt (cj eM))]at hk
    subst hk
    exact⟨.i ⟨hd,au⟩,rfl,rI,mQ⟩
  ·rintro R H2⟨⟨hd,au⟩,h0,h1,h4,ba,aD,zi,GC⟩
   simp -implicitDefEqProofs only[op,ef,cl,sq,reduceIte,j2,j3,j4,j5,j6,j7,j8,j9,y1,S1,h0,h1,h4,ba,aD]
   obtain⟨sj,sV⟩:∃sj,sj=scanDown (fun x=>aZ di[a]! x) di si j:=⟨_,rfl⟩
   refine W.cP 4 (fun (k:Nat) R H'=>At H' (fun H'=>H'[c]?=some (.cells (aE eN di.toList))∧bm (fun x=>x=c) H H')∧R 0=.ax c 0 n 2∧R 1=.int .i64 a∧R 4=.fn 61 []∧R 11=.int .i64 si∧R 12=.int .i64 k∧k≤j∧scanDown (fun x=>aZ di[a]! x) di si k=sj) (fun k=>k) j
    (fun R H'=>At H' (fun H'=>H'[c]?=some (.cells (aE eN di.toList))∧bm (fun x=>x=c) H H')∧R 0=.ax c 0 n 2∧R 1=.int .i64 a∧R 4=.fn 61 []∧R 11=.int .i64 si∧R 12=.int .i64 sj∧sj≤j) ⟨.i ⟨hd,au⟩,h0,h1,h4,ba,aD,Nat.le_refl _,sV.symm⟩ ?_ ?_
   ·rintro k R H3⟨⟨hd,au⟩,h0,h1,h4,ba,aD,eM,hk⟩
    have lc:=aY hd
    rw[lN (by omega)]at hk
    by_cases bL:si≤k
    ·simp -implicitDefEqProofs (maxSteps:=1000000) (disch:=omega) only[aa,aR,aS,aU,aV,aW,aX,wA,a7,wS,a6,wM,S2,op,ef,cl,sq,reduceIte,j2,j3,j4,j5,j6,j7,j8,j9,y1,S1,h0,h1,h4,ba,aD,bL,hd,lc]
     refine lF _ _ _ _ _ _ _ (by simp -implicitDefEqProofs (maxSteps:=1000000) (disch:=omega) only[aa,aR,aS,aU,aV,aW,aX,wA,a7,wS,a6,wM,S2,op,ef,cl,sq,reduceIte,j2,j3,j4,j5,j6,j7,j8,j9,y1,S1,h0,h1,h4,ba,aD,bL,hd,lc]) ?_
     simp -implicitDefEqProofs (maxSteps:=1000000) (disch:=omega) only[aa,aR,aS,aU,aV,aW,aX,wA,a7,wS,a6,wM,S2,op,ef,cl,sq,reduceIte,j2,j3,j4,j5,j6,j7,j8,j9,y1,S1,cz,h0,h1,h4,ba,aD,bL,hd,lc,List.append_nil]
     refine ae _ _ _ _ _ _ _ _ (cg di[a]! di[k]! _) ?_
     rintro u H4⟨hu,hx⟩
     cases hu
     have hx:Ext H3 H4:=hx
     have hd:=hx.get hd
     have lc:=aY hd
     have au:=au.trans (aB (F:=fun _=>False) hx) (fun _ h=>h.elim)
     have dc:aZ di[a]! di[k]! = decide (dJ di[a]! di[k]!<0):=rfl
     by_cases c1:dJ di[a]! di[k]!<0
     ·simp -implicitDefEqProofs (maxSteps:=1000000) (disch:=omega) only[aa,aR,aS,aU,aV,aW,aX,wA,a7,wS,a6,wM,S2,op,ef,cl,sq,reduceIte,j2,j3,j4,j5,j6,j7,j8,j9,y1,S1,h0,h1,h4,ba,aD,bL,c1]
      rw[if_pos (fN (cn bL) (dc.trans (cn c1)))]at hk
      exact⟨k-1,by omega,.i ⟨hd,au⟩,rfl,by omega,hk⟩
     ·simp -implicitDefEqProofs (maxSteps:=1000000) (disch:=omega) only[aa,aR,aS,aU,aV,aW,aX,wA,a7,wS,a6,wM,S2,op,ef,cl,sq,reduceIte,j2,j3,j4,j5,j6,j7,j8,j9,y1,S1,h0,h1,h4,ba,aD,bL,c1]
      rw[if_neg (dU (dc.trans (cj c1)))]at hk
      subst hk
      exact⟨.i ⟨hd,au⟩,rfl,eM⟩
    ·simp -implicitDefEqProofs only[op,ef,cl,sq,reduceIte,j2,j3,j4,j5,j6,j7,j8,j9,y1,S1,h0,h1,h4,ba,aD,bL]
     rw[if_neg (dt (cj bL))]at hk
     subst hk
     exact⟨.i ⟨hd,au⟩,rfl,eM⟩
   ·rintro R H3⟨⟨hd,au⟩,h0,h1,h4,ba,aD,GD⟩
    have lc:=aY hd
    rw[O3 pA sV]at hP
    by_cases kJ:sj<si
    ·rw[if_pos kJ]at hP
     simp -implicitDefEqProofs only[op,ef,cl,sq,reduceIte,j2,j3,j4,j5,j6,j7,j8,j9,y1,S1,h0,h1,h4,ba,aD,kJ]
     exact⟨.i ⟨di,hd,a9,by rw[←hP],au⟩,by rw[←hP]⟩
    ·rw[if_neg kJ,if_pos (by omega)]at hP
     simp -implicitDefEqProofs (maxSteps:=1000000) (disch:=omega) only[aa,aR,aS,aU,aV,aW,aX,wA,a7,wS,a6,wM,S2,op,ef,cl,sq,reduceIte,j2,j3,j4,j5,j6,j7,j8,j9,y1,S1,h0,h1,h4,ba,aD,kJ,hd,lc]
     exact⟨(si+1,sj-1),by simp only;omega,.i (.swp hd (by rw[swp_size];exact a9) hP au),rfl,rfl,by simp only;omega,by simp only;omega,by simp only;omega⟩
 ·rintro R H1⟨⟨di,hd,a9,hP,au⟩,ba⟩
  simp -implicitDefEqProofs only[op,ef,cl,sq,reduceIte,j2,j3,j4,j5,j6,j7,j8,j9,y1,S1,ba]
  exact⟨di,hd,a9,hP,au⟩
set_option maxHeartbeats 8000000
open Go.Sort in
theorem Ks {a i j si sj:Nat}{d:Array Nm}(hi:si=scanUp (fun x=>aZ x d[a]!) d j i)(hj:sj=scanDown (fun x=>!aZ x d[a]!) d si j):partLoop aZ a i j d=if si>sj then(sj,d)else if (sj-1)+1-(si+1)<j+1-i then partLoop aZ a (si+1) (sj-1) (swp d si sj)else(sj,d):=by
 subst hi;subst hj
 rw[partLoop]
 rfl
open Go.Sort in
theorem O4 (c n:Nat)(d:Array Nm)(a b pv:Nat)(H:af)(hn:d.size=n)(hc:H[c]?=some (.cells (aE eN d.toList)))(hb:b≤n)(gy:a<b)(mD:pv<n)(hs:n<2305843009213693951) :
  W env (.call 139 [.ax c 0 n 2,.int .i64 a,.int .i64 b,.int .i64 pv,.fn 61 []]) H (fun o H'=>o=.val (.bJ [.int .i64 (partition aZ d a b pv).1,.bool (partition aZ d a b pv).2.1])∧SC c n H (fun x=>x=(partition aZ d a b pv).2.2) H'):=by
 refine W.bU rfl rfl rfl ?_
 have hd:=hc
 have lc:=aY hd
 simp -implicitDefEqProofs (maxSteps:=1000000) (disch:=omega) only[FU,aa,aR,aS,aU,aV,aW,aX,wA,a7,wS,a6,wM,S2,op,ef,cl,sq,reduceIte,j2,j3,j4,j5,j6,j7,j8,j9,y1,S1,hd,lc]
 obtain⟨d1,pO,zb,e1,pw⟩:=SC.swp (n:=n) (P:=fun x=>x=swp d a pv) (x:=.cells (aE eN (d.toList.set a d[pv]!))) hd (by rw[Go.Sort.swp_size];exact hn) rfl (bm.refl (fun x=>x=c) H)
 subst e1
 generalize ((H.set c (.cells (aE eN (d.toList.set a d[pv]!)))).set c (.cells (aE eN (swp d a pv).toList)))=H1 at *
 have hd:=pO
 have au:=pw
 obtain⟨si,pA⟩:∃si,si=scanUp (fun x=>aZ x (swp d a pv)[a]!) (swp d a pv) (b-1) (a+1):=⟨_,rfl⟩
 refine W.cP 0 (fun (k:Nat) R H'=>At H' (fun H'=>H'[c]?=some (.cells (aE eN (swp d a pv).toList))∧bm (fun x=>x=c) H H')∧R 0=.ax c 0 n 2∧R 1=.int .i64 a∧R 4=.fn 61 []∧R 12=.int .i64 k∧R 13=.int .i64 ((b-1):Nat)∧(a+1)≤k∧k≤n∧scanUp (fun x=>aZ x (swp d a pv)[a]!) (swp d a pv) ((b-1)) k=si) (fun k=>(b-1)+1-k) ((a+1))
  (fun R H'=>At H' (fun H'=>H'[c]?=some (.cells (aE eN (swp d a pv).toList))∧bm (fun x=>x=c) H H')∧R 0=.ax c 0 n 2∧R 1=.int .i64 a∧R 4=.fn 61 []∧R 12=.int .i64 si∧R 13=.int .i64 ((b-1):Nat)∧(a+1)≤si∧si≤n) ⟨.i ⟨hd,au⟩,rfl,rfl,rfl,rfl,rfl,Nat.le_refl _,by omega,pA.symm⟩ ?_ ?_
 ·rintro k R H2⟨⟨hd,au⟩,h0,h1,h4,aD,bn,rI,mQ,hk⟩
  have lc:=aY hd
  by_cases eM:k≤(b-1)
  ·simp -implicitDefEqProofs (maxSteps:=1000000) (disch:=omega) only[aa,aR,aS,aU,aV,aW,aX,wA,a7,wS,a6,wM,S2,op,ef,cl,sq,reduceIte,j2,j3,j4,j5,j6,j7,j8,j9,y1,S1,h0,h1,h4,aD,bn,eM,hd,lc]
   refine lF _ _ _ _ _ _ _ (by simp -implicitDefEqProofs (maxSteps:=1000000) (disch:=omega) only[aa,aR,aS,aU,aV,aW,aX,wA,a7,wS,a6,wM,S2,op,ef,cl,sq,reduceIte,j2,j3,j4,j5,j6,j7,j8,j9,y1,S1,h0,h1,h4,aD,bn,eM,hd,lc]) ?_
   simp -implicitDefEqProofs (maxSteps:=1000000) (disch:=omega) only[aa,aR,aS,aU,aV,aW,aX,wA,a7,wS,a6,wM,S2,op,ef,cl,sq,reduceIte,j2,j3,j4,j5,j6,j7,j8,j9,y1,S1,cz,h0,h1,h4,aD,bn,eM,hd,lc,List.append_nil]
   refine ae _ _ _ _ _ _ _ _ (cg (swp d a pv)[k]! (swp d a pv)[a]! _) ?_
   rintro u H3⟨hu,hx⟩
   cases hu
   have hx:Ext H2 H3:=hx
   have hd:=hx.get hd
   have lc:=aY hd
   have au:=au.trans (aB (F:=fun _=>False) hx) (fun _ h=>h.elim)
   have dc:aZ (swp d a pv)[k]! (swp d a pv)[a]! = decide (dJ (swp d a pv)[k]! (swp d a pv)[a]!<0):=rfl
   by_cases c1:dJ (swp d a pv)[k]! (swp d a pv)[a]!<0
   ·simp -implicitDefEqProofs (maxSteps:=1000000) (disch:=omega) only[aa,aR,aS,aU,aV,aW,aX,wA,a7,wS,a6,wM,S2,op,ef,cl,sq,reduceIte,j2,j3,j4,j5,j6,j7,j8,j9,y1,S1,h0,h1,h4,aD,bn,eM,c1]
    rw[scanUp,if_pos (fN (cn eM) (dc.trans (cn c1)))]at hk
    exact⟨k+1,by omega,.i ⟨hd,au⟩,rfl,by omega,by omega,hk⟩
   ·simp -implicitDefEqProofs (maxSteps:=1000000) (disch:=omega) only[aa,aR,aS,aU,aV,aW,aX,wA,a7,wS,a6,wM,S2,op,ef,cl,sq,reduceIte,j2,j3,j4,j5,j6,j7,j8,j9,y1,S1,h0,h1,h4,aD,bn,eM,c1]
    rw[scanUp,if_neg (dU (dc.trans (cj c1)))]at hk
    subst hk
    exact⟨.i ⟨hd,au⟩,rfl,rI,mQ⟩
  ·simp -implicitDefEqProofs only[op,ef,cl,sq,reduceIte,j2,j3,j4,j5,j6,j7,j8,j9,y1,S1,h0,h1,h4,aD,bn,eM]
   rw[scanUp,if_neg (dt (cj eM))]at hk
   subst hk
   exact⟨.i ⟨hd,au⟩,rfl,rI,mQ⟩
 ·rintro R H2⟨⟨hd,au⟩,h0,h1,h4,aD,bn,zi,GC⟩
  simp -implicitDefEqProofs only[op,ef,cl,sq,reduceIte,j2,j3,j4,j5,j6,j7,j8,j9,y1,S1,h0,h1,h4,aD,bn]
  obtain⟨sj,sV⟩:∃sj,sj=scanDown (fun x=>!aZ x (swp d a pv)[a]!) (swp d a pv) si (b-1):=⟨_,rfl⟩
  refine W.cP 2 (fun (k:Nat) R H'=>At H' (fun H'=>H'[c]?=some (.cells (aE eN (swp d a pv).toList))∧bm (fun x=>x=c) H H')∧R 0=.ax c 0 n 2∧R 1=.int .i64 a∧R 4=.fn 61 []∧R 12=.int .i64 si∧R 13=.int .i64 k∧k≤(b-1)∧scanDown (fun x=>!aZ x (swp d a pv)[a]!) (swp d a pv) si k=sj) (fun k=>k) ((b-1))
   (fun R H'=>At H' (fun H'=>H'[c]?=some (.cells (aE eN (swp d a pv).toList))∧bm (fun x=>x=c) H H')∧R 0=.ax c 0 n 2∧R 1=.int .i64 a∧R 4=.fn 61 []∧R 12=.int .i64 si∧R 13=.int .i64 sj∧sj≤(b-1)) ⟨.i ⟨hd,au⟩,h0,h1,h4,aD,bn,Nat.le_refl _,sV.symm⟩ ?_ ?_
  ·rintro k R H3⟨⟨hd,au⟩,h0,h1,h4,aD,bn,eM,hk⟩
   have lc:=aY hd
   rw[lN (by omega)]at hk
   by_cases bL:si≤k
   ·simp -implicitDefEqProofs (maxSteps:=1000000) (disch:=omega) only[aa,aR,aS,aU,aV,aW,aX,wA,a7,wS,a6,wM,S2,op,ef,cl,sq,reduceIte,j2,j3,j4,j5,j6,j7,j8,j9,y1,S1,h0,h1,h4,aD,bn,bL,hd,lc]
    refine lF _ _ _ _ _ _ _ (by simp -implicitDefEqProofs (maxSteps:=1000000) (disch:=omega) only[aa,aR,aS,aU,aV,aW,aX,wA,a7,wS,a6,wM,S2,op,ef,cl,sq,reduceIte,j2,j3,j4,j5,j6,j7,j8,j9,y1,S1,h0,h1,h4,aD,bn,bL,hd,lc]) ?_
    simp -implicitDefEqProofs (maxSteps:=1000000) (disch:=omega) only[aa,aR,aS,aU,aV,aW,aX,wA,a7,wS,a6,wM,S2,op,ef,cl,sq,reduceIte,j2,j3,j4,j5,j6,j7,j8,j9,y1,S1,cz,h0,h1,h4,aD,bn,bL,hd,lc,List.append_nil]
    refine ae _ _ _ _ _ _ _ _ (cg (swp d a pv)[k]! (swp d a pv)[a]! _) ?_
    rintro u H4⟨hu,hx⟩
    cases hu
    have hx:Ext H3 H4:=hx
    have hd:=hx.get hd
    have lc:=aY hd
    have au:=au.trans (aB (F:=fun _=>False) hx) (fun _ h=>h.elim)
    have dc:aZ (swp d a pv)[k]! (swp d a pv)[a]! = decide (dJ (swp d a pv)[k]! (swp d a pv)[a]!<0):=rfl
    by_cases c1:dJ (swp d a pv)[k]! (swp d a pv)[a]!<0
    ·simp -implicitDefEqProofs (maxSteps:=1000000) (disch:=omega) only[aa,aR,aS,aU,aV,aW,aX,wA,a7,wS,a6,wM,S2,op,ef,cl,sq,reduceIte,j2,j3,j4,j5,j6,j7,j8,j9,y1,S1,h0,h1,h4,aD,bn,bL,c1]
     rw[if_neg (dU (by rw[dc,cn c1];rfl))]at hk
     subst hk
     exact⟨.i ⟨hd,au⟩,rfl,eM⟩
    ·simp -implicitDefEqProofs (maxSteps:=1000000) (disch:=omega) only[aa,aR,aS,aU,aV,aW,aX,wA,a7,wS,a6,wM,S2,op,ef,cl,sq,reduceIte,j2,j3,j4,j5,j6,j7,j8,j9,y1,S1,h0,h1,h4,aD,bn,bL,c1]
     rw[if_pos (fN (cn bL) (fp (dc.trans (cj c1))))]at hk
     exact⟨k-1,by omega,.i ⟨hd,au⟩,rfl,by omega,hk⟩
   ·simp -implicitDefEqProofs only[op,ef,cl,sq,reduceIte,j2,j3,j4,j5,j6,j7,j8,j9,y1,S1,h0,h1,h4,aD,bn,bL]
    rw[if_neg (dt (cj bL))]at hk
    subst hk
    exact⟨.i ⟨hd,au⟩,rfl,eM⟩
  ·rintro R H3⟨⟨hd,au⟩,h0,h1,h4,aD,bn,GD⟩
   have lc:=aY hd
   by_cases kJ:sj<si
   ·have e:partition aZ d a b pv=(sj,true,swp (swp d a pv) sj a):=by
     simp -implicitDefEqProofs only[partition,←pA,←sV,gt_iff_lt,if_pos kJ]
    rw[e]
    simp -implicitDefEqProofs (maxSteps:=1000000) (disch:=omega) only[aa,aR,aS,aU,aV,aW,aX,wA,a7,wS,a6,wM,S2,op,ef,cl,sq,reduceIte,j2,j3,j4,j5,j6,j7,j8,j9,y1,S1,h0,h1,h4,aD,bn,kJ,hd,lc]
    exact .swp hd (by rw[swp_size];exact zb) rfl au
   ·obtain⟨r,hr⟩:∃r,r=partLoop aZ a (si+1) (sj-1) (swp (swp d a pv) si sj):=⟨_,rfl⟩
    have e:partition aZ d a b pv=(r.1,false,swp r.2 r.1 a):=by
     simp -implicitDefEqProofs only[partition,←pA,←sV,gt_iff_lt,if_neg kJ,←hr]
    rw[e]
    simp -implicitDefEqProofs (maxSteps:=1000000) (disch:=omega) only[aa,aR,aS,aU,aV,aW,aX,wA,a7,wS,a6,wM,S2,op,ef,cl,sq,reduceIte,j2,j3,j4,j5,j6,j7,j8,j9,y1,S1,h0,h1,h4,aD,bn,kJ,hd,lc]
    obtain⟨d2,cr,ir,e2,ea⟩:=SC.swp (n:=n) (P:=fun x=>x=swp (swp d a pv) si sj) (x:=.cells (aE eN ((swp d a pv).toList.set si (swp d a pv)[sj]!))) hd (by rw[swp_size];exact zb) rfl au
    subst e2
    generalize ((H3.set c (.cells (aE eN ((swp d a pv).toList.set si (swp d a pv)[sj]!)))).set c (.cells (aE eN (swp (swp d a pv) si sj).toList)))=H5 at *
    refine W.cP 4 (fun (q:Nat×Nat) R H'=>At H' (fun H'=>SC c n H (fun di=>partLoop aZ a q.1 q.2 di=r) H')∧R 0=.ax c 0 n 2∧R 1=.int .i64 a∧R 4=.fn 61 []∧R 12=.int .i64 q.1∧R 13=.int .i64 q.2∧a<q.1∧q.2<n∧q.1≤n) (fun q=>q.2+1-q.1) (si+1,sj-1)
     (fun R H'=>At H' (fun H'=>SC c n H (fun di=>di=r.2) H')∧R 0=.ax c 0 n 2∧R 1=.int .i64 a∧R 4=.fn 61 []∧R 13=.int .i64 r.1∧r.1<n) ⟨.i ⟨_,cr,ir,hr.symm,ea⟩,?_,?_,?_,?_,?_,by simp only;omega,by simp only;omega,by simp only;omega⟩ ?_ ?_
    ·simp -implicitDefEqProofs only[op,ef,cl,sq,reduceIte,j2,j3,j4,j5,j6,j7,j8,j9,y1,S1,h0]
    ·simp -implicitDefEqProofs only[op,ef,cl,sq,reduceIte,j2,j3,j4,j5,j6,j7,j8,j9,y1,S1,h1]
    ·simp -implicitDefEqProofs only[op,ef,cl,sq,reduceIte,j2,j3,j4,j5,j6,j7,j8,j9,y1,S1,h4]
    ·simp -implicitDefEqProofs only[op,ef,cl,sq,reduceIte,j2,j3,j4,j5,j6,j7,j8,j9,y1,S1,aD]
    ·simp -implicitDefEqProofs only[op,ef,cl,sq,reduceIte,j2,j3,j4,j5,j6,j7,j8,j9,y1,S1,bn]
    ·rintro⟨i,j⟩ R H1 ⟨⟨di,hd,a9,hP,au⟩,h0,h1,h4,aD,bn,Gw,yF,iW⟩
     simp only at hP aD bn Gw yF iW ⊢
     simp -implicitDefEqProofs only[op,ef,cl,sq,reduceIte,j2,j3,j4,j5,j6,j7,j8,j9,y1,S1,h0,h1,h4,aD,bn]
     clear pA sV
     obtain⟨si,pA⟩:∃si,si=scanUp (fun x=>aZ x di[a]!) di j i:=⟨_,rfl⟩
     refine W.cP 6 (fun (k:Nat) R H'=>At H' (fun H'=>H'[c]?=some (.cells (aE eN di.toList))∧bm (fun x=>x=c) H H')∧R 0=.ax c 0 n 2∧R 1=.int .i64 a∧R 4=.fn 61 []∧R 12=.int .i64 k∧R 13=.int .i64 (j:Nat)∧i≤k∧k≤n∧scanUp (fun x=>aZ x di[a]!) di (j) k=si) (fun k=>j+1-k) (i)
      (fun R H'=>At H' (fun H'=>H'[c]?=some (.cells (aE eN di.toList))∧bm (fun x=>x=c) H H')∧R 0=.ax c 0 n 2∧R 1=.int .i64 a∧R 4=.fn 61 []∧R 12=.int .i64 si∧R 13=.int .i64 (j:Nat)∧i≤si∧si≤n) ⟨.i ⟨hd,au⟩,h0,h1,h4,aD,bn,Nat.le_refl _,by omega,pA.symm⟩ ?_ ?_
     ·rintro k R H2⟨⟨hd,au⟩,h0,h1,h4,aD,bn,rI,mQ,hk⟩
      have lc:=aY hd
      by_cases eM:k≤j
      ·simp -implicitDefEqProofs (maxSteps:=1000000) (disch:=omega) only[aa,aR,aS,aU,aV,aW,aX,wA,a7,wS,a6,wM,S2,op,ef,cl,sq,reduceIte,j2,j3,j4,j5,j6,j7,j8,j9,y1,S1,h0,h1,h4,aD,bn,eM,hd,lc]
       refine lF _ _ _ _ _ _ _ (by simp -implicitDefEqProofs (maxSteps:=1000000) (disch:=omega) only[aa,aR,aS,aU,aV,aW,aX,wA,a7,wS,a6,wM,S2,op,ef,cl,sq,reduceIte,j2,j3,j4,j5,j6,j7,j8,j9,y1,S1,h0,h1,h4,aD,bn,eM,hd,lc]) ?_
       simp -implicitDefEqProofs (maxSteps:=1000000) (disch:=omega) only[aa,aR,aS,aU,aV,aW,aX,wA,a7,wS,a6,wM,S2,op,ef,cl,sq,reduceIte,j2,j3,j4,j5,j6,j7,j8,j9,y1,S1,cz,h0,h1,h4,aD,bn,eM,hd,lc,List.append_nil]
       refine ae _ _ _ _ _ _ _ _ (cg di[k]! di[a]! _) ?_
       rintro u H3⟨hu,hx⟩
       cases hu
       have hx:Ext H2 H3:=hx
       have hd:=hx.get hd
       have lc:=aY hd
       have au:=au.trans (aB (F:=fun _=>False) hx) (fun _ h=>h.elim)
       have dc:aZ di[k]! di[a]! = decide (dJ di[k]! di[a]!<0):=rfl
       by_cases c1:dJ di[k]! di[a]!<0
       ·simp -implicitDefEqProofs (maxSteps:=1000000) (disch:=omega) only[aa,aR,aS,aU,aV,aW,aX,wA,a7,wS,a6,wM,S2,op,ef,cl,sq,reduceIte,j2,j3,j4,j5,j6,j7,j8,j9,y1,S1,h0,h1,h4,aD,bn,eM,c1]
        rw[scanUp,if_pos (fN (cn eM) (dc.trans (cn c1)))]at hk
        exact⟨k+1,by omega,.i ⟨hd,au⟩,rfl,by omega,by omega,hk⟩
       ·simp -implicitDefEqProofs (maxSteps:=1000000) (disch:=omega) only[aa,aR,aS,aU,aV,aW,aX,wA,a7,wS,a6,wM,S2,op,ef,cl,sq,reduceIte,j2,j3,j4,j5,j6,j7,j8,j9,y1,S1,h0,h1,h4,aD,bn,eM,c1]
        rw[scanUp,if_neg (dU (dc.trans (cj c1)))]at hk
        subst hk
        exact⟨.i ⟨hd,au⟩,rfl,rI,mQ⟩
      ·simp -implicitDefEqProofs only[op,ef,cl,sq,reduceIte,j2,j3,j4,j5,j6,j7,j8,j9,y1,S1,h0,h1,h4,aD,bn,eM]
       rw[scanUp,if_neg (dt (cj eM))]at hk
       subst hk
       exact⟨.i ⟨hd,au⟩,rfl,rI,mQ⟩
     ·rintro R H2⟨⟨hd,au⟩,h0,h1,h4,aD,bn,zi,GC⟩
      simp -implicitDefEqProofs only[op,ef,cl,sq,reduceIte,j2,j3,j4,j5,j6,j7,j8,j9,y1,S1,h0,h1,h4,aD,bn]
      obtain⟨sj,sV⟩:∃sj,sj=scanDown (fun x=>!aZ x di[a]!) di si j:=⟨_,rfl⟩
      refine W.cP 8 (fun (k:Nat) R H'=>At H' (fun H'=>H'[c]?=some (.cells (aE eN di.toList))∧bm (fun x=>x=c) H H')∧R 0=.ax c 0 n 2∧R 1=.int .i64 a∧R 4=.fn 61 []∧R 12=.int .i64 si∧R 13=.int .i64 k∧k≤j∧scanDown (fun x=>!aZ x di[a]!) di si k=sj) (fun k=>k) (j)
       (fun R H'=>At H' (fun H'=>H'[c]?=some (.cells (aE eN di.toList))∧bm (fun x=>x=c) H H')∧R 0=.ax c 0 n 2∧R 1=.int .i64 a∧R 4=.fn 61 []∧R 12=.int .i64 si∧R 13=.int .i64 sj∧sj≤j) ⟨.i ⟨hd,au⟩,h0,h1,h4,aD,bn,Nat.le_refl _,sV.symm⟩ ?_ ?_
      ·rintro k R H3⟨⟨hd,au⟩,h0,h1,h4,aD,bn,eM,hk⟩
       have lc:=aY hd
       rw[lN (by omega)]at hk
       by_cases bL:si≤k
       ·simp -implicitDefEqProofs (maxSteps:=1000000) (disch:=omega) only[aa,aR,aS,aU,aV,aW,aX,wA,a7,wS,a6,wM,S2,op,ef,cl,sq,reduceIte,j2,j3,j4,j5,j6,j7,j8,j9,y1,S1,h0,h1,h4,aD,bn,bL,hd,lc]
        refine lF _ _ _ _ _ _ _ (by simp -implicitDefEqProofs (maxSteps:=1000000) (disch:=omega) only[aa,aR,aS,aU,aV,aW,aX,wA,a7,wS,a6,wM,S2,op,ef,cl,sq,reduceIte,j2,j3,j4,j5,j6,j7,j8,j9,y1,S1,h0,h1,h4,aD,bn,bL,hd,lc]) ?_
        simp -implicitDefEqProofs (maxSteps:=1000000) (disch:=omega) only[aa,aR,aS,aU,aV,aW,aX,wA,a7,wS,a6,wM,S2,op,ef,cl,sq,reduceIte,j2,j3,j4,j5,j6,j7,j8,j9,y1,S1,cz,h0,h1,h4,aD,bn,bL,hd,lc,List.append_nil]
        refine ae _ _ _ _ _ _ _ _ (cg di[k]! di[a]! _) ?_
        rintro u H4⟨hu,hx⟩
        cases hu
        have hx:Ext H3 H4:=hx
        have hd:=hx.get hd
        have lc:=aY hd
        have au:=au.trans (aB (F:=fun _=>False) hx) (fun _ h=>h.elim)
        have dc:aZ di[k]! di[a]! = decide (dJ di[k]! di[a]!<0):=rfl
        by_cases c1:dJ di[k]! di[a]!<0
        ·simp -implicitDefEqProofs (maxSteps:=1000000) (disch:=omega) only[aa,aR,aS,aU,aV,aW,aX,wA,a7,wS,a6,wM,S2,op,ef,cl,sq,reduceIte,j2,j3,j4,j5,j6,j7,j8,j9,y1,S1,h0,h1,h4,aD,bn,bL,c1]
         rw[if_neg (dU (by rw[dc,cn c1];rfl))]at hk
         subst hk
         exact⟨.i ⟨hd,au⟩,rfl,eM⟩
        ·simp -implicitDefEqProofs (maxSteps:=1000000) (disch:=omega) only[aa,aR,aS,aU,aV,aW,aX,wA,a7,wS,a6,wM,S2,op,ef,cl,sq,reduceIte,j2,j3,j4,j5,j6,j7,j8,j9,y1,S1,h0,h1,h4,aD,bn,bL,c1]
         rw[if_pos (fN (cn bL) (fp (dc.trans (cj c1))))]at hk
         exact⟨k-1,by omega,.i ⟨hd,au⟩,rfl,by omega,hk⟩
       ·simp -implicitDefEqProofs only[op,ef,cl,sq,reduceIte,j2,j3,j4,j5,j6,j7,j8,j9,y1,S1,h0,h1,h4,aD,bn,bL]
        rw[if_neg (dt (cj bL))]at hk
        subst hk
        exact⟨.i ⟨hd,au⟩,rfl,eM⟩
      ·rintro R H3⟨⟨hd,au⟩,h0,h1,h4,aD,bn,GD⟩
       have lc:=aY hd
       rw[Ks pA sV]at hP
       by_cases kJ:sj<si
       ·rw[if_pos kJ]at hP
        simp -implicitDefEqProofs only[op,ef,cl,sq,reduceIte,j2,j3,j4,j5,j6,j7,j8,j9,y1,S1,h0,h1,h4,aD,bn,kJ]
        exact⟨.i ⟨di,hd,a9,by rw[←hP],au⟩,by rw[←hP],by rw[←hP];simp only;omega⟩
       ·rw[if_neg kJ,if_pos (by omega)]at hP
        simp -implicitDefEqProofs (maxSteps:=1000000) (disch:=omega) only[aa,aR,aS,aU,aV,aW,aX,wA,a7,wS,a6,wM,S2,op,ef,cl,sq,reduceIte,j2,j3,j4,j5,j6,j7,j8,j9,y1,S1,h0,h1,h4,aD,bn,kJ,hd,lc]
        exact⟨(si+1,sj-1),by simp only;omega,.i (.swp hd (by rw[swp_size];exact a9) hP au),rfl,rfl,by simp only;omega,by simp only;omega,by simp only;omega⟩
    ·rintro R H1⟨⟨di,hd,a9,rfl,au⟩,h0,h1,h4,bn,CX⟩
     have lc:=aY hd
     simp -implicitDefEqProofs (maxSteps:=1000000) (disch:=omega) only[aa,aR,aS,aU,aV,aW,aX,wA,a7,wS,a6,wM,S2,op,ef,cl,sq,reduceIte,j2,j3,j4,j5,j6,j7,j8,j9,y1,S1,h0,h1,h4,bn,hd,lc]
     exact .swp hd (by rw[swp_size];exact a9) rfl au
set_option maxHeartbeats 8000000
open Go.Sort in
theorem shiftDown_eq {d:Array Nm}{k:Nat}(h:1≤k):shiftDown aZ k d=if (!aZ d[k]! d[k-1]!)=true then d else shiftDown aZ (k-1) (swp d k (k-1)):=by
 cases k with
 | zero=>omega
 | succ k=>rw[shiftDown];rfl
open Go.Sort in
theorem O5 (c n:Nat)(d:Array Nm)(a b:Nat)(H:af)(hn:d.size=n)(hc:H[c]?=some (.cells (aE eN d.toList)))(hb:b≤n)(gy:a<b)(hs:n<2305843009213693951) :
  W env (.call 137 [.ax c 0 n 2,.int .i64 a,.int .i64 b,.fn 61 []]) H (fun o H'=>o=.val (.bool (partialInsertionSort aZ d a b).2)∧SC c n H (fun x=>x=(partialInsertionSort aZ d a b).1) H'):=by
 refine W.bU rfl rfl rfl ?_
 obtain⟨r,hr⟩:∃r,r=partialInsertionSort aZ d a b:=⟨_,rfl⟩
 rw[←hr]
 simp -implicitDefEqProofs (maxSteps:=1000000) (disch:=omega) only[FR,aa,aR,aS,aU,aV,aW,aX,wA,a7,wS,a6,wM,S2,op,ef,cl,sq,reduceIte,j2,j3,j4,j5,j6,j7,j8,j9,y1,S1]
 refine W.cP 0 (fun (j:Nat) R H'=>At H' (fun H'=>∃i,R 9=.int .i64 (i:Nat)∧a<i∧i≤b∧SC c n H (fun di=>partialIns aZ a b (5-j) i di=r) H')∧R 0=.ax c 0 n 2∧R 1=.int .i64 a∧R 2=.int .i64 b∧R 3=.fn 61 []∧R 10=.int .i64 j∧j≤5) (fun j=>5-j) 0
  (fun R H'=>At H' (fun H'=>SC c n H (fun di=>(di,false)=r) H')) ⟨.i ⟨a+1,rfl,by omega,by omega,d,hc,hn,hr.symm,bm.refl _ _⟩,rfl,rfl,rfl,rfl,rfl,by omega⟩ ?_ ?_
 ·rintro j R H1⟨⟨i,h9,Gw,hib,di,hd,a9,hP,au⟩,h0,h1,h2,h3,aF,hj⟩
  by_cases hj5:j<5
  rotate_left
  ·have:j=5:=by omega
   subst this
   simp -implicitDefEqProofs only[op,ef,cl,sq,reduceIte,j2,j3,j4,j5,j6,j7,j8,j9,y1,S1,h0,h1,h2,h3,aF]
   exact .i ⟨di,hd,a9,hP,au⟩
  obtain⟨s,O6⟩:∃s,5-j=s+1:=⟨4-j,by omega⟩
  have vB:5-(j+1)=s:=by omega
  rw[O6,partialIns]at hP
  simp -implicitDefEqProofs only[op,ef,cl,sq,reduceIte,j2,j3,j4,j5,j6,j7,j8,j9,y1,S1,h0,h1,h2,h3,aF,hj5]
  obtain⟨si,pA⟩:∃si,si=scanSorted aZ di b i:=⟨_,rfl⟩
  rw[←pA]at hP
  refine W.cP 2 (fun (k:Nat) R H'=>At H' (fun H'=>H'[c]?=some (.cells (aE eN di.toList))∧bm (fun x=>x=c) H H')∧R 0=.ax c 0 n 2∧R 1=.int .i64 a∧R 2=.int .i64 b∧R 3=.fn 61 []∧R 9=.int .i64 k∧R 10=.int .i64 j∧i≤k∧k≤b∧scanSorted aZ di b k=si) (fun k=>b-k) i
   (fun R H'=>At H' (fun H'=>H'[c]?=some (.cells (aE eN di.toList))∧bm (fun x=>x=c) H H')∧R 0=.ax c 0 n 2∧R 1=.int .i64 a∧R 2=.int .i64 b∧R 3=.fn 61 []∧R 9=.int .i64 si∧R 10=.int .i64 j∧i≤si∧si≤b) ⟨.i ⟨hd,au⟩,?_,?_,?_,?_,?_,?_,Nat.le_refl _,hib,pA.symm⟩ ?_ ?_
  ·simp -implicitDefEqProofs only[op,ef,cl,sq,reduceIte,j2,j3,j4,j5,j6,j7,j8,j9,y1,S1,h0]
  ·simp -implicitDefEqProofs only[op,ef,cl,sq,reduceIte,j2,j3,j4,j5,j6,j7,j8,j9,y1,S1,h1]
  ·simp -implicitDefEqProofs only[op,ef,cl,sq,reduceIte,j2,j3,j4,j5,j6,j7,j8,j9,y1,S1,h2]
  ·simp -implicitDefEqProofs only[op,ef,cl,sq,reduceIte,j2,j3,j4,j5,j6,j7,j8,j9,y1,S1,h3]
  ·simp -implicitDefEqProofs only[op,ef,cl,sq,reduceIte,j2,j3,j4,j5,j6,j7,j8,j9,y1,S1,h9]
  ·simp -implicitDefEqProofs only[op,ef,cl,sq,reduceIte,j2,j3,j4,j5,j6,j7,j8,j9,y1,S1,aF]
  ·rintro k R H2⟨⟨hd,au⟩,h0,h1,h2,h3,h9,aF,rI,BK,hk⟩
   have lc:=aY hd
   by_cases bL:k<b
   ·simp -implicitDefEqProofs (maxSteps:=1000000) (disch:=omega) only[aa,aR,aS,aU,aV,aW,aX,wA,a7,wS,a6,wM,S2,op,ef,cl,sq,reduceIte,j2,j3,j4,j5,j6,j7,j8,j9,y1,S1,h0,h1,h2,h3,h9,aF,bL,hd,lc]
    refine lF _ _ _ _ _ _ _ (by simp -implicitDefEqProofs (maxSteps:=1000000) (disch:=omega) only[aa,aR,aS,aU,aV,aW,aX,wA,a7,wS,a6,wM,S2,op,ef,cl,sq,reduceIte,j2,j3,j4,j5,j6,j7,j8,j9,y1,S1,h0,h1,h2,h3,h9,aF,bL,hd,lc]) ?_
    simp -implicitDefEqProofs (maxSteps:=1000000) (disch:=omega) only[aa,aR,aS,aU,aV,aW,aX,wA,a7,wS,a6,wM,S2,op,ef,cl,sq,reduceIte,j2,j3,j4,j5,j6,j7,j8,j9,y1,S1,cz,h0,h1,h2,h3,h9,aF,bL,hd,lc,List.append_nil]
    refine ae _ _ _ _ _ _ _ _ (cg di[k]! di[k-1]! _) ?_
    rintro u H3⟨hu,hx⟩
    cases hu
    have hx:Ext H2 H3:=hx
    have hd:=hx.get hd
    have lc:=aY hd
    have au:=au.trans (aB (F:=fun _=>False) hx) (fun _ h=>h.elim)
    have dc:aZ di[k]! di[k-1]! = decide (dJ di[k]! di[k-1]!<0):=rfl
    by_cases c1:dJ di[k]! di[k-1]!<0
    ·simp -implicitDefEqProofs (maxSteps:=1000000) (disch:=omega) only[aa,aR,aS,aU,aV,aW,aX,wA,a7,wS,a6,wM,S2,op,ef,cl,sq,reduceIte,j2,j3,j4,j5,j6,j7,j8,j9,y1,S1,h0,h1,h2,h3,h9,aF,bL,c1]
     rw[scanSorted,if_neg (dU (by rw[dc,cn c1];rfl))]at hk
     subst hk
     exact⟨.i ⟨hd,au⟩,rfl,rI,BK⟩
    ·simp -implicitDefEqProofs (maxSteps:=1000000) (disch:=omega) only[aa,aR,aS,aU,aV,aW,aX,wA,a7,wS,a6,wM,S2,op,ef,cl,sq,reduceIte,j2,j3,j4,j5,j6,j7,j8,j9,y1,S1,h0,h1,h2,h3,h9,aF,bL,c1]
     rw[scanSorted,if_pos (fN (cn bL) (fp (dc.trans (cj c1))))]at hk
     exact⟨k+1,by omega,.i ⟨hd,au⟩,rfl,by omega,by omega,hk⟩
   ·simp -implicitDefEqProofs only[op,ef,cl,sq,reduceIte,j2,j3,j4,j5,j6,j7,j8,j9,y1,S1,h0,h1,h2,h3,h9,aF,bL]
    rw[scanSorted,if_neg (dt (cj bL))]at hk
    subst hk
    exact⟨.i ⟨hd,au⟩,rfl,rI,BK⟩
  ·rintro R H2⟨⟨hd,au⟩,h0,h1,h2,h3,h9,aF,zi,aam⟩
   have lc:=aY hd
   by_cases kO:si=b
   ·rw[if_pos kO]at hP
    have e1:((si:Int)==(b:Int))=true:=by rw[kO];simp
    simp -implicitDefEqProofs (maxSteps:=1000000) (disch:=omega) only[aa,aR,aS,aU,aV,aW,aX,wA,a7,wS,a6,wM,S2,op,ef,cl,sq,reduceIte,j2,j3,j4,j5,j6,j7,j8,j9,y1,S1,h0,h1,h2,h3,h9,aF,e1]
    rw[←hP]
    exact⟨rfl,di,hd,a9,rfl,au⟩
   rw[if_neg kO]at hP
   have e1:((si:Int)==(b:Int))=false:=by simp;omega
   by_cases vA:b-a<50
   ·rw[if_pos vA]at hP
    simp -implicitDefEqProofs (maxSteps:=1000000) (disch:=omega) only[aa,aR,aS,aU,aV,aW,aX,wA,a7,wS,a6,wM,S2,op,ef,cl,sq,reduceIte,j2,j3,j4,j5,j6,j7,j8,j9,y1,S1,h0,h1,h2,h3,h9,aF,e1,vA]
    rw[←hP]
    exact⟨rfl,di,hd,a9,rfl,au⟩
   rw[if_neg vA]at hP
   simp -implicitDefEqProofs (maxSteps:=1000000) (disch:=omega) only[aa,aR,aS,aU,aV,aW,aX,wA,a7,wS,a6,wM,S2,op,ef,cl,sq,reduceIte,j2,j3,j4,j5,j6,j7,j8,j9,y1,S1,h0,h1,h2,h3,h9,aF,e1,vA,hd,lc]
   obtain⟨d3,oh⟩:∃d3,d3=if si-a≥2 then shiftDown aZ (si-1) (swp di si (si-1))else swp di si (si-1):=⟨_,rfl⟩
   obtain⟨d4,rJ⟩:∃d4,d4=if b-si≥2 then shiftUp aZ b (si+1) d3 else d3:=⟨_,rfl⟩
   have hP:partialIns aZ a b s si d4=r:=by rw[rJ,oh];exact hP
   obtain⟨d2,cr,ir,e2,ea⟩:=SC.swp (n:=n) (P:=fun x=>x=swp di si (si-1)) (x:=.cells (aE eN (di.toList.set si di[si-1]!))) hd (by rw[swp_size];exact a9) rfl au
   subst e2
   generalize ((H2.set c (.cells (aE eN (di.toList.set si di[si-1]!)))).set c (.cells (aE eN (swp di si (si-1)).toList)))=H5 at *
   by_cases hA:2≤si-a
   ·rw[if_pos hA]at oh
    simp -implicitDefEqProofs (maxSteps:=1000000) (disch:=omega) only[aa,aR,aS,aU,aV,aW,aX,wA,a7,wS,a6,wM,S2,op,ef,cl,sq,reduceIte,j2,j3,j4,j5,j6,j7,j8,j9,y1,S1,h0,h1,h2,h3,h9,aF,hA]
    refine W.cP 4 (fun (k:Nat) R H'=>At H' (fun H'=>SC c n H (fun dx=>shiftDown aZ k dx=d3) H')∧R 0=.ax c 0 n 2∧R 1=.int .i64 a∧R 2=.int .i64 b∧R 3=.fn 61 []∧R 9=.int .i64 si∧R 10=.int .i64 j∧R 11=.int .i64 k∧k<b) (fun k=>k) (si-1)
     (fun R H'=>At H' (fun H'=>SC c n H (fun dx=>dx=d3) H')∧R 0=.ax c 0 n 2∧R 1=.int .i64 a∧R 2=.int .i64 b∧R 3=.fn 61 []∧R 9=.int .i64 si∧R 10=.int .i64 j) ⟨.i ⟨_,cr,ir,oh.symm,ea⟩,?_,?_,?_,?_,?_,?_,?_,by omega⟩ ?_ ?_
    ·simp -implicitDefEqProofs only[op,ef,cl,sq,reduceIte,j2,j3,j4,j5,j6,j7,j8,j9,y1,S1,h0]
    ·simp -implicitDefEqProofs only[op,ef,cl,sq,reduceIte,j2,j3,j4,j5,j6,j7,j8,j9,y1,S1,h1]
    ·simp -implicitDefEqProofs only[op,ef,cl,sq,reduceIte,j2,j3,j4,j5,j6,j7,j8,j9,y1,S1,h2]
    ·simp -implicitDefEqProofs only[op,ef,cl,sq,reduceIte,j2,j3,j4,j5,j6,j7,j8,j9,y1,S1,h3]
    ·simp -implicitDefEqProofs only[op,ef,cl,sq,reduceIte,j2,j3,j4,j5,j6,j7,j8,j9,y1,S1,h9]
    ·simp -implicitDefEqProofs only[op,ef,cl,sq,reduceIte,j2,j3,j4,j5,j6,j7,j8,j9,y1,S1,aF]
    ·simp -implicitDefEqProofs only[op,ef,cl,sq,reduceIte,j2,j3,j4,j5,j6,j7,j8,j9,y1,S1]
    ·rintro k R H2⟨⟨dx,hd,a9,hk,au⟩,h0,h1,h2,h3,h9,aF,ba,BK⟩
     have lc:=aY hd
     by_cases oW:1≤k
     ·simp -implicitDefEqProofs (maxSteps:=1000000) (disch:=omega) only[aa,aR,aS,aU,aV,aW,aX,wA,a7,wS,a6,wM,S2,op,ef,cl,sq,reduceIte,j2,j3,j4,j5,j6,j7,j8,j9,y1,S1,h0,h1,h2,h3,h9,aF,ba,oW,hd,lc]
      refine lF _ _ _ _ _ _ _ (by simp -implicitDefEqProofs (maxSteps:=1000000) (disch:=omega) only[aa,aR,aS,aU,aV,aW,aX,wA,a7,wS,a6,wM,S2,op,ef,cl,sq,reduceIte,j2,j3,j4,j5,j6,j7,j8,j9,y1,S1,h0,h1,h2,h3,h9,aF,ba,oW,hd,lc]) ?_
      simp -implicitDefEqProofs (maxSteps:=1000000) (disch:=omega) only[aa,aR,aS,aU,aV,aW,aX,wA,a7,wS,a6,wM,S2,op,ef,cl,sq,reduceIte,j2,j3,j4,j5,j6,j7,j8,j9,y1,S1,cz,h0,h1,h2,h3,h9,aF,ba,oW,hd,lc,List.append_nil]
      refine ae _ _ _ _ _ _ _ _ (cg dx[k]! dx[k-1]! _) ?_
      rintro u H3⟨hu,hx⟩
      cases hu
      have hx:Ext H2 H3:=hx
      have hd:=hx.get hd
      have lc:=aY hd
      have au:=au.trans (aB (F:=fun _=>False) hx) (fun _ h=>h.elim)
      have dc:aZ dx[k]! dx[k-1]! = decide (dJ dx[k]! dx[k-1]!<0):=rfl
      rw[shiftDown_eq oW]at hk
      by_cases c1:dJ dx[k]! dx[k-1]!<0
      ·simp -implicitDefEqProofs (maxSteps:=1000000) (disch:=omega) only[aa,aR,aS,aU,aV,aW,aX,wA,a7,wS,a6,wM,S2,op,ef,cl,sq,reduceIte,j2,j3,j4,j5,j6,j7,j8,j9,y1,S1,h0,h1,h2,h3,h9,aF,ba,oW,hd,lc,c1]
       rw[if_neg (kC (dc.trans (cn c1)))]at hk
       exact⟨k-1,by omega,.i (.swp hd (by rw[swp_size];exact a9) hk au),rfl,by omega⟩
      ·simp -implicitDefEqProofs (maxSteps:=1000000) (disch:=omega) only[aa,aR,aS,aU,aV,aW,aX,wA,a7,wS,a6,wM,S2,op,ef,cl,sq,reduceIte,j2,j3,j4,j5,j6,j7,j8,j9,y1,S1,h0,h1,h2,h3,h9,aF,ba,oW,hd,lc,c1]
       rw[if_pos (fp (dc.trans (cj c1)))]at hk
       exact .i ⟨dx,hd,a9,hk,au⟩
     ·have Rn:k=0:=by omega
      subst Rn
      simp -implicitDefEqProofs only[op,ef,cl,sq,reduceIte,j2,j3,j4,j5,j6,j7,j8,j9,y1,S1,h0,h1,h2,h3,h9,aF,ba,oW]
      rw[shiftDown]at hk
      exact .i ⟨dx,hd,a9,hk,au⟩
    ·rintro R H2⟨⟨dx,hd,pB,rfl,au⟩,h0,h1,h2,h3,h9,aF⟩
     have lc:=aY hd
     by_cases hB:2≤b-si
     ·simp -implicitDefEqProofs (maxSteps:=1000000) (disch:=omega) only[aa,aR,aS,aU,aV,aW,aX,wA,a7,wS,a6,wM,S2,op,ef,cl,sq,reduceIte,j2,j3,j4,j5,j6,j7,j8,j9,y1,S1,h0,h1,h2,h3,h9,aF,hB]
      rw[if_pos hB]at rJ
      refine W.cP 6 (fun (k:Nat) R H'=>At H' (fun H'=>SC c n H (fun dx=>shiftUp aZ b k dx=d4) H')∧R 0=.ax c 0 n 2∧R 1=.int .i64 a∧R 2=.int .i64 b∧R 3=.fn 61 []∧R 9=.int .i64 si∧R 10=.int .i64 j∧R 12=.int .i64 k∧1≤k∧k≤b) (fun k=>b-k) (si+1)
       (fun R H'=>At H' (fun H'=>SC c n H (fun dx=>dx=d4) H')∧R 0=.ax c 0 n 2∧R 1=.int .i64 a∧R 2=.int .i64 b∧R 3=.fn 61 []∧R 9=.int .i64 si∧R 10=.int .i64 j) ⟨.i ⟨dx,hd,pB,rJ.symm,au⟩,?_,?_,?_,?_,?_,?_,?_,by omega,by omega⟩ ?_ ?_
      ·simp -implicitDefEqProofs only[op,ef,cl,sq,reduceIte,j2,j3,j4,j5,j6,j7,j8,j9,y1,S1,h0]
      ·simp -implicitDefEqProofs only[op,ef,cl,sq,reduceIte,j2,j3,j4,j5,j6,j7,j8,j9,y1,S1,h1]
      ·simp -implicitDefEqProofs only[op,ef,cl,sq,reduceIte,j2,j3,j4,j5,j6,j7,j8,j9,y1,S1,h2]
      ·simp -implicitDefEqProofs only[op,ef,cl,sq,reduceIte,j2,j3,j4,j5,j6,j7,j8,j9,y1,S1,h3]
      ·simp -implicitDefEqProofs only[op,ef,cl,sq,reduceIte,j2,j3,j4,j5,j6,j7,j8,j9,y1,S1,h9]
      ·simp -implicitDefEqProofs only[op,ef,cl,sq,reduceIte,j2,j3,j4,j5,j6,j7,j8,j9,y1,S1,aF]
      ·simp -implicitDefEqProofs only[op,ef,cl,sq,reduceIte,j2,j3,j4,j5,j6,j7,j8,j9,y1,S1]
      ·rintro k R H2⟨⟨dx,hd,a9,hk,au⟩,h0,h1,h2,h3,h9,aF,aD,oW,BK⟩
       have lc:=aY hd
       by_cases bL:k<b
       ·simp -implicitDefEqProofs (maxSteps:=1000000) (disch:=omega) only[aa,aR,aS,aU,aV,aW,aX,wA,a7,wS,a6,wM,S2,op,ef,cl,sq,reduceIte,j2,j3,j4,j5,j6,j7,j8,j9,y1,S1,h0,h1,h2,h3,h9,aF,aD,bL,hd,lc]
        refine lF _ _ _ _ _ _ _ (by simp -implicitDefEqProofs (maxSteps:=1000000) (disch:=omega) only[aa,aR,aS,aU,aV,aW,aX,wA,a7,wS,a6,wM,S2,op,ef,cl,sq,reduceIte,j2,j3,j4,j5,j6,j7,j8,j9,y1,S1,h0,h1,h2,h3,h9,aF,aD,bL,hd,lc]) ?_
        simp -implicitDefEqProofs (maxSteps:=1000000) (disch:=omega) only[aa,aR,aS,aU,aV,aW,aX,wA,a7,wS,a6,wM,S2,op,ef,cl,sq,reduceIte,j2,j3,j4,j5,j6,j7,j8,j9,y1,S1,cz,h0,h1,h2,h3,h9,aF,aD,bL,hd,lc,List.append_nil]
        refine ae _ _ _ _ _ _ _ _ (cg dx[k]! dx[k-1]! _) ?_
        rintro u H3⟨hu,hx⟩
        cases hu
        have hx:Ext H2 H3:=hx
        have hd:=hx.get hd
        have lc:=aY hd
        have au:=au.trans (aB (F:=fun _=>False) hx) (fun _ h=>h.elim)
        have dc:aZ dx[k]! dx[k-1]! = decide (dJ dx[k]! dx[k-1]!<0):=rfl
        rw[shiftUp,if_pos bL]at hk
        by_cases c1:dJ dx[k]! dx[k-1]!<0
        ·simp -implicitDefEqProofs (maxSteps:=1000000) (disch:=omega) only[aa,aR,aS,aU,aV,aW,aX,wA,a7,wS,a6,wM,S2,op,ef,cl,sq,reduceIte,j2,j3,j4,j5,j6,j7,j8,j9,y1,S1,h0,h1,h2,h3,h9,aF,aD,bL,hd,lc,c1]
         rw[if_neg (kC (dc.trans (cn c1)))]at hk
         exact⟨k+1,by omega,.i (.swp hd (by rw[swp_size];exact a9) hk au),rfl,by omega,by omega⟩
        ·simp -implicitDefEqProofs (maxSteps:=1000000) (disch:=omega) only[aa,aR,aS,aU,aV,aW,aX,wA,a7,wS,a6,wM,S2,op,ef,cl,sq,reduceIte,j2,j3,j4,j5,j6,j7,j8,j9,y1,S1,h0,h1,h2,h3,h9,aF,aD,bL,hd,lc,c1]
         rw[if_pos (fp (dc.trans (cj c1)))]at hk
         exact .i ⟨dx,hd,a9,hk,au⟩
       ·simp -implicitDefEqProofs only[op,ef,cl,sq,reduceIte,j2,j3,j4,j5,j6,j7,j8,j9,y1,S1,h0,h1,h2,h3,h9,aF,aD,bL]
        rw[shiftUp,if_neg bL]at hk
        exact .i ⟨dx,hd,a9,hk,au⟩
      ·rintro R H2⟨⟨dx,hd,a9,rfl,au⟩,h0,h1,h2,h3,h9,aF⟩
       simp -implicitDefEqProofs (maxSteps:=1000000) (disch:=omega) only[aa,aR,aS,aU,aV,aW,aX,wA,a7,wS,a6,wM,S2,op,ef,cl,sq,reduceIte,j2,j3,j4,j5,j6,j7,j8,j9,y1,S1,h0,h1,h2,h3,h9,aF]
       exact⟨j+1,by omega,.i ⟨si,rfl,by omega,by omega,dx,hd,a9,by rw[vB];exact hP,au⟩,rfl,by omega⟩
     ·rw[if_neg hB]at rJ
      subst rJ
      simp -implicitDefEqProofs (maxSteps:=1000000) (disch:=omega) only[aa,aR,aS,aU,aV,aW,aX,wA,a7,wS,a6,wM,S2,op,ef,cl,sq,reduceIte,j2,j3,j4,j5,j6,j7,j8,j9,y1,S1,h0,h1,h2,h3,h9,aF,hB]
      exact⟨j+1,by omega,.i ⟨si,rfl,by omega,by omega,d4,hd,pB,by rw[vB];exact hP,au⟩,rfl,by omega⟩
   ·rw[if_neg hA]at oh
    simp -implicitDefEqProofs (maxSteps:=1000000) (disch:=omega) only[aa,aR,aS,aU,aV,aW,aX,wA,a7,wS,a6,wM,S2,op,ef,cl,sq,reduceIte,j2,j3,j4,j5,j6,j7,j8,j9,y1,S1,h0,h1,h2,h3,h9,aF,hA]
    have hd:=cr
    have pB:=ir
    have au:=ea
    rw[←oh]at hd pB
    by_cases hB:2≤b-si
    ·simp -implicitDefEqProofs (maxSteps:=1000000) (disch:=omega) only[aa,aR,aS,aU,aV,aW,aX,wA,a7,wS,a6,wM,S2,op,ef,cl,sq,reduceIte,j2,j3,j4,j5,j6,j7,j8,j9,y1,S1,h0,h1,h2,h3,h9,aF,hB]
     rw[if_pos hB]at rJ
     refine W.cP 6 (fun (k:Nat) R H'=>At H' (fun H'=>SC c n H (fun dx=>shiftUp aZ b k dx=d4) H')∧R 0=.ax c 0 n 2∧R 1=.int .i64 a∧R 2=.int .i64 b∧R 3=.fn 61 []∧R 9=.int .i64 si∧R 10=.int .i64 j∧R 12=.int .i64 k∧1≤k∧k≤b) (fun k=>b-k) (si+1)
      (fun R H'=>At H' (fun H'=>SC c n H (fun dx=>dx=d4) H')∧R 0=.ax c 0 n 2∧R 1=.int .i64 a∧R 2=.int .i64 b∧R 3=.fn 61 []∧R 9=.int .i64 si∧R 10=.int .i64 j) ⟨.i ⟨d3,hd,pB,rJ.symm,au⟩,?_,?_,?_,?_,?_,?_,?_,by omega,by omega⟩ ?_ ?_
     ·simp -implicitDefEqProofs only[op,ef,cl,sq,reduceIte,j2,j3,j4,j5,j6,j7,j8,j9,y1,S1,h0]
     ·simp -implicitDefEqProofs only[op,ef,cl,sq,reduceIte,j2,j3,j4,j5,j6,j7,j8,j9,y1,S1,h1]
     ·simp -implicitDefEqProofs only[op,ef,cl,sq,reduceIte,j2,j3,j4,j5,j6,j7,j8,j9,y1,S1,h2]
     ·simp -implicitDefEqProofs only[op,ef,cl,sq,reduceIte,j2,j3,j4,j5,j6,j7,j8,j9,y1,S1,h3]
     ·simp -implicitDefEqProofs only[op,ef,cl,sq,reduceIte,j2,j3,j4,j5,j6,j7,j8,j9,y1,S1,h9]
     ·simp -implicitDefEqProofs only[op,ef,cl,sq,reduceIte,j2,j3,j4,j5,j6,j7,j8,j9,y1,S1,aF]
     ·simp -implicitDefEqProofs only[op,ef,cl,sq,reduceIte,j2,j3,j4,j5,j6,j7,j8,j9,y1,S1]
     ·rintro k R H2⟨⟨dx,hd,a9,hk,au⟩,h0,h1,h2,h3,h9,aF,aD,oW,BK⟩
      have lc:=aY hd
      by_cases bL:k<b
      ·simp -implicitDefEqProofs (maxSteps:=1000000) (disch:=omega) only[aa,aR,aS,aU,aV,aW,aX,wA,a7,wS,a6,wM,S2,op,ef,cl,sq,reduceIte,j2,j3,j4,j5,j6,j7,j8,j9,y1,S1,h0,h1,h2,h3,h9,aF,aD,bL,hd,lc]
       refine lF _ _ _ _ _ _ _ (by simp -implicitDefEqProofs (maxSteps:=1000000) (disch:=omega) only[aa,aR,aS,aU,aV,aW,aX,wA,a7,wS,a6,wM,S2,op,ef,cl,sq,reduceIte,j2,j3,j4,j5,j6,j7,j8,j9,y1,S1,h0,h1,h2,h3,h9,aF,aD,bL,hd,lc]) ?_
       simp -implicitDefEqProofs (maxSteps:=1000000) (disch:=omega) only[aa,aR,aS,aU,aV,aW,aX,wA,a7,wS,a6,wM,S2,op,ef,cl,sq,reduceIte,j2,j3,j4,j5,j6,j7,j8,j9,y1,S1,cz,h0,h1,h2,h3,h9,aF,aD,bL,hd,lc,List.append_nil]
       refine ae _ _ _ _ _ _ _ _ (cg dx[k]! dx[k-1]! _) ?_
       rintro u H3⟨hu,hx⟩
       cases hu
       have hx:Ext H2 H3:=hx
       have hd:=hx.get hd
       have lc:=aY hd
       have au:=au.trans (aB (F:=fun _=>False) hx) (fun _ h=>h.elim)
       have dc:aZ dx[k]! dx[k-1]! = decide (dJ dx[k]! dx[k-1]!<0):=rfl
       rw[shiftUp,if_pos bL]at hk
       by_cases c1:dJ dx[k]! dx[k-1]!<0
       ·simp -implicitDefEqProofs (maxSteps:=1000000) (disch:=omega) only[aa,aR,aS,aU,aV,aW,aX,wA,a7,wS,a6,wM,S2,op,ef,cl,sq,reduceIte,j2,j3,j4,j5,j6,j7,j8,j9,y1,S1,h0,h1,h2,h3,h9,aF,aD,bL,hd,lc,c1]
        rw[if_neg (kC (dc.trans (cn c1)))]at hk
        exact⟨k+1,by omega,.i (.swp hd (by rw[swp_size];exact a9) hk au),rfl,by omega,by omega⟩
       ·simp -implicitDefEqProofs (maxSteps:=1000000) (disch:=omega) only[aa,aR,aS,aU,aV,aW,aX,wA,a7,wS,a6,wM,S2,op,ef,cl,sq,reduceIte,j2,j3,j4,j5,j6,j7,j8,j9,y1,S1,h0,h1,h2,h3,h9,aF,aD,bL,hd,lc,c1]
        rw[if_pos (fp (dc.trans (cj c1)))]at hk
        exact .i ⟨dx,hd,a9,hk,au⟩
      ·simp -implicitDefEqProofs only[op,ef,cl,sq,reduceIte,j2,j3,j4,j5,j6,j7,j8,j9,y1,S1,h0,h1,h2,h3,h9,aF,aD,bL]
       rw[shiftUp,if_neg bL]at hk
       exact .i ⟨dx,hd,a9,hk,au⟩
     ·rintro R H2⟨⟨dx,hd,a9,rfl,au⟩,h0,h1,h2,h3,h9,aF⟩
      simp -implicitDefEqProofs (maxSteps:=1000000) (disch:=omega) only[aa,aR,aS,aU,aV,aW,aX,wA,a7,wS,a6,wM,S2,op,ef,cl,sq,reduceIte,j2,j3,j4,j5,j6,j7,j8,j9,y1,S1,h0,h1,h2,h3,h9,aF]
      exact⟨j+1,by omega,.i ⟨si,rfl,by omega,by omega,dx,hd,a9,by rw[vB];exact hP,au⟩,rfl,by omega⟩
    ·rw[if_neg hB]at rJ
     subst rJ
     simp -implicitDefEqProofs (maxSteps:=1000000) (disch:=omega) only[aa,aR,aS,aU,aV,aW,aX,wA,a7,wS,a6,wM,S2,op,ef,cl,sq,reduceIte,j2,j3,j4,j5,j6,j7,j8,j9,y1,S1,h0,h1,h2,h3,h9,aF,hB]
     exact⟨j+1,by omega,.i ⟨si,rfl,by omega,by omega,d4,hd,pB,by rw[vB];exact hP,au⟩,rfl,by omega⟩
 ·rintro R H1⟨di,hd,a9,hP,au⟩
  simp -implicitDefEqProofs only[op,ef,cl,sq,reduceIte,j2,j3,j4,j5,j6,j7,j8,j9,y1,S1]
  rw[←hP]
  exact⟨rfl,di,hd,a9,rfl,au⟩
theorem oj (a b:Nm):aZ a b=true↔strLt a.1 b.1=true∨(a.1=b.1∧a.2<b.2):=by
 unfold aZ dJ QE Cb Cc
 rw[decide_eq_true_eq]
 cases h1:strLt a.1 b.1
 ·cases h2:strLt b.1 a.1
  ·have e:=rq h1 h2
   simp -implicitDefEqProofs only[Bool.false_eq_true,if_false,if_true,false_or,e,true_and]
   split
   ·simp[*]
   ·split<;>simp[*]
  ·have bK:a.1≠b.1:=by intro e;rw[e,fk]at h2;cases h2
   simp[bK]
 ·simp
theorem me (a:Nm):aZ a a=false:=by
 cases h:aZ a a with
 | false=>rfl
 | true=>rcases(oj a a).1 h with h|h;rw[fk]at h;cases h;omega
theorem mg {a b c:Nm}(h1:aZ a b=true)(h2:aZ b c=true):aZ a c=true:=by
 rw[oj]at h1 h2 ⊢
 rcases h1 with h1|⟨e1,h1⟩<;>rcases h2 with h2|⟨e2,h2⟩
 ·exact .inl (eF h1 h2)
 ·exact .inl (e2▸h1)
 ·exact .inl (e1▸h2)
 ·exact .inr ⟨e1.trans e2,by omega⟩
theorem AM {a b:Nm}(h1:aZ a b=false)(h2:aZ b a=false):a=b:=by
 have n1:¬(strLt a.1 b.1=true∨(a.1=b.1∧a.2<b.2)):=fun h=>by rw[(oj a b).2 h]at h1;cases h1
 have n2:¬(strLt b.1 a.1=true∨(b.1=a.1∧b.2<a.2)):=fun h=>by rw[(oj b a).2 h]at h2;cases h2
 have e1:a.1=b.1:=rq (by cases h:strLt a.1 b.1 with|false=>rfl|true=>exact absurd (.inl h) n1) (by cases h:strLt b.1 a.1 with|false=>rfl|true=>exact absurd (.inl h) n2)
 have q1:¬a.2<b.2:=fun h=>n1 (.inr ⟨e1,h⟩)
 have q2:¬b.2<a.2:=fun h=>n2 (.inr ⟨e1.symm,h⟩)
 exact Prod.ext e1 (by omega)
theorem qx:Go.Sort.SWO aZ where
 irrefl:=me
 trans _ _ _ h1 h2:=mg h1 h2
 ntrans x y z h1 h2:=by
  cases h:aZ x z with
  | false=>rfl
  | true =>
   cases h3:aZ y x with
   | true=>rw[mg h3 h]at h2;cases h2
   | false=>have:=AM h1 h3;subst this;rw[h]at h2;cases h2
theorem O7 (H:af):W env (.call 132 [.sl .nil [],.int .i64 0,.int .i64 0,.fn 61 []]) H (oL (.bJ []) H):=by
 refine W.bU rfl rfl rfl ?_
 have wa:IntKind.i64.wrap ((0:Int)+1)=1:=by decide
 simp -implicitDefEqProofs only[AA,op,ef,cl,sq,reduceIte,j2,j3,j4,j5,j6,j7,j8,j9,y1,S1,wa]
 refine W.cH (fun (_:Nat) R H'=>H'=H∧R 2=.int .i64 0∧R 8=.int .i64 1) (fun _=>0) 0 ⟨rfl,rfl,rfl⟩ ?_
 rintro _ R _⟨rfl,h2,h8⟩
 have l0:¬((1:Int)<0):=by decide
 simp -implicitDefEqProofs only[op,ef,cl,sq,reduceIte,j2,j3,j4,j5,j6,j7,j8,j9,y1,S1,h2,h8,l0]
 trivial
theorem aan (m:Nat)(H:af):W env (.call 117 [.sl .nil [],.int .i64 0,.int .i64 0,.int .i64 m,.fn 61 []]) H (oL (.bJ []) H):=by
 refine W.bU rfl rfl rfl ?_
 have w1:IntKind.i64.wrap ((0:Int)-0)=0:=by decide
 simp -implicitDefEqProofs only[eG,op,ef,cl,sq,reduceIte,j2,j3,j4,j5,j6,j7,j8,j9,y1,S1]
 refine W.cH (fun (_:Nat) R H'=>H'=H∧R 0=.sl .nil []∧R 1=.int .i64 0∧R 2=.int .i64 0∧R 4=.fn 61 []) (fun _=>0) 0 ⟨rfl,rfl,rfl,rfl,rfl⟩ ?_
 rintro _ R _⟨rfl,h0,h1,h2,h4⟩
 have l0:(0:Int)≤12:=by decide
 simp -implicitDefEqProofs only[op,ef,cl,sq,reduceIte,j2,j3,j4,j5,j6,j7,j8,j9,y1,S1,h0,h1,h2,h4,w1,l0]
 refine ae _ _ _ _ _ _ _ _ (O7 _) ?_
 rintro u H2⟨hu,rfl⟩
 cases hu
 simp -implicitDefEqProofs only[op,ef,cl,sq,reduceIte,j2,j3,j4,j5,j6,j7,j8,j9,y1,S1]
 trivial
theorem T9 (H:af):W env (.call 93 [.sl .nil [],.fn 61 []]) H (oL (.bJ []) H):=by
 refine W.bU rfl rfl rfl ?_
 have w1:IntKind.u64.wrap ((0:Nat):Int)=((0:Nat):Int):=by decide
 have e0:((0:Nat):Int)=0:=rfl
 simp -implicitDefEqProofs only[J4,op,ef,cl,sq,reduceIte,j2,j3,j4,j5,j6,j7,j8,j9,y1,S1,w1]
 refine ae _ _ _ _ _ _ _ _ (TX 0 (by omega) _) ?_
 rintro u H1⟨rfl,m,hu⟩
 cases hu
 simp -implicitDefEqProofs only[op,ef,cl,sq,reduceIte,j2,j3,j4,j5,j6,j7,j8,j9,y1,S1,e0]
 refine ae _ _ _ _ _ _ _ _ (aan m _) ?_
 rintro u H2⟨hu,rfl⟩
 cases hu
 simp -implicitDefEqProofs only[op,ef,cl,sq,reduceIte,j2,j3,j4,j5,j6,j7,j8,j9,y1,S1]
 trivial
def Ua (es:List (Nm×T))(H:af):Out→af→Prop:=fun o H'=>Ext H H'∧∃t l,o=.val t∧pS eN 2 H.length H' t l∧l.Perm (es.map (·.1))∧l.Pairwise (fun a b=>aZ a b=true)
set_option maxHeartbeats 8000000
def dg:C→Nat→Option C
 | .block id a,n=>if id=n then some a else dg a n
 | .seq a b,n=>match dg a n with|some c=>some c | .none=>dg b n
 | .cond _ a b,n=>match dg a n with|some c=>some c | .none=>dg b n
 | .loop a,n=>dg a n
 | _,_=>.none
def eQ:C→Nat→C
 | .seq a _,0=>a
 | .seq _ b,k+1=>eQ b k
 | c,_=>c
structure PR (R:av)(c n a b b9:Nat)(wb wp:Bool):Prop where
 r0:R 0=.ax c 0 n 2
 r1:R 1=.int .i64 a
 r2:R 2=.int .i64 b
 r3:R 3=.int .i64 b9
 r4:R 4=.fn 61 []
 r10:R 10=.bool wb
 r11:R 11=.bool wp
 Ub:R 12=.int .i64 (b-a:Nat)
open Go.Sort in
theorem aaq (A:C)(hA:(dg eG.body 1).map (eQ · 3)=some A)(c n a b b9:Nat)(wb wp:Bool)(d:Array Nm)(R:av)(H0 H:af)(K:Out→af→Prop)(hp:PR R c n a b b9 wb wp)(hd:SC c n H0 (fun x=>x=d) H)(hb:b≤n)(gy:a+12<b)(hs:n<16777216)(hl:1≤b9∧b9<1000)
  (rest:∀R' H',PR R' c n a b (if (!wb)=true then b9-1 else b9) wb wp→SC c n H0 (fun x=>x=if (!wb)=true then breakPatterns d a b else d) H'→K (.ex .normal R') H'):eV env A R H K:=by
 simp[eG,dg,eQ,sq]at hA
 subst hA
 obtain⟨h0,h1,h2,h3,h4,aF,ba,aD⟩:=hp
 obtain⟨di,hc,hn,rfl,au⟩:=hd
 cases wb with
 | true =>
  simp -implicitDefEqProofs (maxSteps:=1000000) (disch:=omega) only[op,ef,cl,sq,reduceIte,j2,j3,j4,j5,j6,j7,j8,j9,y1,S1,h0,h1,h2,h3,h4,aF,ba,aD]
  exact rest _ _ ⟨by simp -implicitDefEqProofs only[op,ef,cl,sq,reduceIte,j2,j3,j4,j5,j6,j7,j8,j9,y1,S1,h0],by simp -implicitDefEqProofs only[op,ef,cl,sq,reduceIte,j2,j3,j4,j5,j6,j7,j8,j9,y1,S1,h1],by simp -implicitDefEqProofs only[op,ef,cl,sq,reduceIte,j2,j3,j4,j5,j6,j7,j8,j9,y1,S1,h2],by simp -implicitDefEqProofs only[op,ef,cl,sq,reduceIte,j2,j3,j4,j5,j6,j7,j8,j9,y1,S1,h3],by simp -implicitDefEqProofs only[op,ef,cl,sq,reduceIte,j2,j3,j4,j5,j6,j7,j8,j9,y1,S1,h4],by simp -implicitDefEqProofs only[op,ef,cl,sq,reduceIte,j2,j3,j4,j5,j6,j7,j8,j9,y1,S1,aF],by simp -implicitDefEqProofs only[op,ef,cl,sq,reduceIte,j2,j3,j4,j5,j6,j7,j8,j9,y1,S1,ba],by simp -implicitDefEqProofs only[op,ef,cl,sq,reduceIte,j2,j3,j4,j5,j6,j7,j8,j9,y1,S1,aD]⟩ ⟨di,hc,hn,rfl,au⟩
 | false =>
  simp -implicitDefEqProofs (maxSteps:=1000000) (disch:=omega) only[op,ef,cl,sq,reduceIte,j2,j3,j4,j5,j6,j7,j8,j9,y1,S1,h0,h1,h2,h3,h4,aF,ba,aD]
  refine ae _ _ _ _ _ _ _ _ (Ko c n di a b _ hn hc hb gy hs) ?_
  rintro u H2⟨hu,d2,cr,ir,e2,ea⟩
  cases hu
  simp -implicitDefEqProofs (maxSteps:=1000000) (disch:=omega) only[aa,aR,aS,aU,aV,aW,aX,wA,a7,wS,a6,wM,S2,op,ef,cl,sq,reduceIte,j2,j3,j4,j5,j6,j7,j8,j9,y1,S1,h0,h1,h2,h3,h4,aF,ba,aD]
  exact rest _ _ ⟨by simp -implicitDefEqProofs only[op,ef,cl,sq,reduceIte,j2,j3,j4,j5,j6,j7,j8,j9,y1,S1,h0],by simp -implicitDefEqProofs only[op,ef,cl,sq,reduceIte,j2,j3,j4,j5,j6,j7,j8,j9,y1,S1,h1],by simp -implicitDefEqProofs only[op,ef,cl,sq,reduceIte,j2,j3,j4,j5,j6,j7,j8,j9,y1,S1,h2],by simp -implicitDefEqProofs only[op,ef,cl,sq,reduceIte,j2,j3,j4,j5,j6,j7,j8,j9,y1,S1],by simp -implicitDefEqProofs only[op,ef,cl,sq,reduceIte,j2,j3,j4,j5,j6,j7,j8,j9,y1,S1,h4],by simp -implicitDefEqProofs only[op,ef,cl,sq,reduceIte,j2,j3,j4,j5,j6,j7,j8,j9,y1,S1,aF],by simp -implicitDefEqProofs only[op,ef,cl,sq,reduceIte,j2,j3,j4,j5,j6,j7,j8,j9,y1,S1,ba],by simp -implicitDefEqProofs only[op,ef,cl,sq,reduceIte,j2,j3,j4,j5,j6,j7,j8,j9,y1,S1,aD]⟩ ⟨d2,cr,ir,e2,au.trans ea fun _ h=>.inl h⟩
open Go.Sort in
theorem aar (A:C)(hA:(dg eG.body 1).map (eQ · 5)=some A)(c n a b b9:Nat)(wb wp:Bool)(d:Array Nm)(pv:Nat)(hi:Hint)(R:av)(H0 H:af)(K:Out→af→Prop)(hp:PR R c n a b b9 wb wp)(bn:R 13=.int .i64 pv)(nk:R 14=.int .i64 (gK hi))(hd:SC c n H0 (fun x=>x=d) H)(hb:b≤n)(gy:a+12<b)(hs:n<16777216)(mD:a≤pv∧pv<b)
  (rest:∀R' H',PR R' c n a b b9 wb wp→R' 13=.int .i64 (if hi=.decreasing then(b-1)-(pv-a)else pv:Nat)→R' 14=.int .i64 (gK (if hi=.decreasing then Hint.increasing else hi))→SC c n H0 (fun x=>x=if hi=.decreasing then reverseRange d a b else d) H'→K (.ex .normal R') H'):eV env A R H K:=by
 simp[eG,dg,eQ,sq]at hA
 subst hA
 obtain⟨h0,h1,h2,h3,h4,aF,ba,aD⟩:=hp
 obtain⟨di,hc,hn,rfl,au⟩:=hd
 have e:((gK hi)==2)=decide (hi=.decreasing):=by cases hi<;>decide
 by_cases hh:hi=.decreasing
 ·rw[decide_eq_true hh]at e
  simp -implicitDefEqProofs (maxSteps:=1000000) (disch:=omega) only[op,ef,cl,sq,reduceIte,j2,j3,j4,j5,j6,j7,j8,j9,y1,S1,h0,h1,h2,h3,h4,aF,ba,aD,bn,nk,e]
  refine ae _ _ _ _ _ _ _ _ (TY c n di a b _ hn hc hb (by omega) (by omega)) ?_
  rintro u H2⟨hu,d2,cr,ir,e2,ea⟩
  cases hu
  simp -implicitDefEqProofs (maxSteps:=1000000) (disch:=omega) only[aa,aR,aS,aU,aV,aW,aX,wA,a7,wS,a6,wM,S2,op,ef,cl,sq,reduceIte,j2,j3,j4,j5,j6,j7,j8,j9,y1,S1,h0,h1,h2,h3,h4,aF,ba,aD,bn,nk]
  refine rest _ _ ⟨?_,?_,?_,?_,?_,?_,?_,?_⟩ ?_ ?_ ⟨d2,cr,ir,?_,au.trans ea fun _ h=>.inl h⟩
  all_goals simp -implicitDefEqProofs only[op,ef,cl,sq,reduceIte,j2,j3,j4,j5,j6,j7,j8,j9,y1,S1,h0,h1,h2,h3,h4,aF,ba,aD,if_pos hh,gK]
  exact e2
 ·rw[decide_eq_false hh]at e
  simp -implicitDefEqProofs (maxSteps:=1000000) (disch:=omega) only[op,ef,cl,sq,reduceIte,j2,j3,j4,j5,j6,j7,j8,j9,y1,S1,h0,h1,h2,h3,h4,aF,ba,aD,bn,nk,e]
  refine rest _ _ ⟨?_,?_,?_,?_,?_,?_,?_,?_⟩ ?_ ?_ ⟨di,hc,hn,?_,au⟩
  all_goals simp -implicitDefEqProofs only[op,ef,cl,sq,reduceIte,j2,j3,j4,j5,j6,j7,j8,j9,y1,S1,h0,h1,h2,h3,h4,aF,ba,aD,bn,nk,if_neg hh]
open Go.Sort in
theorem aas (A:C)(hA:(dg eG.body 1).map (eQ · 6)=some A)(c n a b b9:Nat)(wb wp:Bool)(d:Array Nm)(pv:Nat)(hi:Hint)(R:av)(H0 H:af)(K:Out→af→Prop)(hp:PR R c n a b b9 wb wp)(bn:R 13=.int .i64 pv)(nk:R 14=.int .i64 (gK hi))(hd:SC c n H0 (fun x=>x=d) H)(hb:b≤n)(gy:a+12<b)(hs:n<16777216)
  (pi:Array Nm×Bool) (GF:pi=if (wb&&wp&&hi=.increasing)=true then partialInsertionSort aZ d a b else(d,false))
  (iu:∀R' H',pi.2=true→SC c n H0 (fun x=>x=pi.1) H'→K (.ex .ret R') H')
  (fq:∀R' H',pi.2=false→PR R' c n a b b9 wb wp→R' 13=.int .i64 pv→SC c n H0 (fun x=>x=pi.1) H'→K (.ex .normal R') H'):eV env A R H K:=by
 simp[eG,dg,eQ,sq]at hA
 subst hA
 obtain⟨h0,h1,h2,h3,h4,aF,ba,aD⟩:=hp
 obtain⟨di,hc,hn,rfl,au⟩:=hd
 have e:((gK hi)==1)=decide (hi=.increasing):=by cases hi<;>decide
 have no:(wb&&wp&&decide (hi=.increasing))=false→∀R',PR R' c n a b b9 wb wp→R' 13=.int .i64 pv→K (.ex .normal R') H:=fun h R' q q'=>fq R' H (by rw[GF,h];rfl) q q' ⟨di,hc,hn,by rw[GF,h];rfl,au⟩
 cases wb with
 | false =>
  simp -implicitDefEqProofs only[op,ef,cl,sq,reduceIte,j2,j3,j4,j5,j6,j7,j8,j9,y1,S1,h0,h1,h2,h3,h4,aF,ba,aD,bn,nk]
  refine no rfl _ ⟨?_,?_,?_,?_,?_,?_,?_,?_⟩ ?_
  all_goals simp -implicitDefEqProofs only[op,ef,cl,sq,reduceIte,j2,j3,j4,j5,j6,j7,j8,j9,y1,S1,h0,h1,h2,h3,h4,aF,ba,aD,bn]
 | true =>
  cases wp with
  | false =>
   simp -implicitDefEqProofs only[op,ef,cl,sq,reduceIte,j2,j3,j4,j5,j6,j7,j8,j9,y1,S1,h0,h1,h2,h3,h4,aF,ba,aD,bn,nk]
   refine no rfl _ ⟨?_,?_,?_,?_,?_,?_,?_,?_⟩ ?_
   all_goals simp -implicitDefEqProofs only[op,ef,cl,sq,reduceIte,j2,j3,j4,j5,j6,j7,j8,j9,y1,S1,h0,h1,h2,h3,h4,aF,ba,aD,bn]
  | true =>
   by_cases hh:hi=.increasing
   ·rw[decide_eq_true hh]at e
    rw[decide_eq_true hh]at GF
    simp -implicitDefEqProofs only[op,ef,cl,sq,reduceIte,j2,j3,j4,j5,j6,j7,j8,j9,y1,S1,h0,h1,h2,h3,h4,aF,ba,aD,bn,nk,e]
    refine ae _ _ _ _ _ _ _ _ (O5 c n di a b _ hn hc hb (by omega) (by omega)) ?_
    rintro u H2⟨hu,d2,cr,ir,e2,ea⟩
    cases hu
    rw[if_pos (show(true&&true&&true)=true from rfl)]at GF
    rw[←GF]at e2 ⊢
    cases kQ:pi.2 with
    | true =>
     simp -implicitDefEqProofs only[op,ef,cl,sq,reduceIte,j2,j3,j4,j5,j6,j7,j8,j9,y1,S1]
     exact iu _ _ kQ ⟨d2,cr,ir,e2,au.trans ea fun _ h=>.inl h⟩
    | false =>
     simp -implicitDefEqProofs only[op,ef,cl,sq,reduceIte,j2,j3,j4,j5,j6,j7,j8,j9,y1,S1]
     refine fq _ _ kQ ⟨?_,?_,?_,?_,?_,?_,?_,?_⟩ ?_ ⟨d2,cr,ir,e2,au.trans ea fun _ h=>.inl h⟩
     all_goals simp -implicitDefEqProofs only[op,ef,cl,sq,reduceIte,j2,j3,j4,j5,j6,j7,j8,j9,y1,S1,h0,h1,h2,h3,h4,aF,ba,aD,bn]
   ·rw[decide_eq_false hh]at e
    simp -implicitDefEqProofs only[op,ef,cl,sq,reduceIte,j2,j3,j4,j5,j6,j7,j8,j9,y1,S1,h0,h1,h2,h3,h4,aF,ba,aD,bn,nk,e]
    refine no (by rw[decide_eq_false hh];rfl) _ ⟨?_,?_,?_,?_,?_,?_,?_,?_⟩ ?_
    all_goals simp -implicitDefEqProofs only[op,ef,cl,sq,reduceIte,j2,j3,j4,j5,j6,j7,j8,j9,y1,S1,h0,h1,h2,h3,h4,aF,ba,aD,bn]
open Go.Sort in
theorem aat (A:C)(hA:(dg eG.body 1).map (eQ · 7)=some A)(c n a b b9:Nat)(wb wp:Bool)(d:Array Nm)(pv:Nat)(R:av)(H0 H:af)(K:Out→af→Prop)(hp:PR R c n a b b9 wb wp)(bn:R 13=.int .i64 pv)(hd:SC c n H0 (fun x=>x=d) H)(hb:b≤n)(gy:a+12<b)(hs:n<16777216)(mD:a≤pv∧pv<b)
  (iu:∀R' H',(a>0&&!aZ d[a-1]! d[pv]!)=true→R' 0=.ax c 0 n 2→R' 1=.int .i64 (partitionEqual aZ d a b pv).1→R' 2=.int .i64 b→R' 3=.int .i64 b9→R' 4=.fn 61 []→R' 10=.bool wb→R' 11=.bool wp→SC c n H0 (fun x=>x=(partitionEqual aZ d a b pv).2) H'→K (.ex (.exit 1) R') H')
  (fq:∀R' H',(a>0&&!aZ d[a-1]! d[pv]!)=false→PR R' c n a b b9 wb wp→R' 13=.int .i64 pv→SC c n H0 (fun x=>x=d) H'→K (.ex .normal R') H'):eV env A R H K:=by
 simp[eG,dg,eQ,sq]at hA
 subst hA
 obtain⟨h0,h1,h2,h3,h4,aF,ba,aD⟩:=hp
 obtain⟨di,hd,hn,rfl,au⟩:=hd
 have lc:=aY hd
 by_cases ha:0<a
 ·simp -implicitDefEqProofs (maxSteps:=1000000) (disch:=omega) only[aa,aR,aS,aU,aV,aW,aX,wA,a7,wS,a6,wM,S2,op,ef,cl,sq,reduceIte,j2,j3,j4,j5,j6,j7,j8,j9,y1,S1,h0,h1,h2,h3,h4,aF,ba,aD,bn,ha,hd,lc]
  refine lF _ _ _ _ _ _ _ (by simp -implicitDefEqProofs (maxSteps:=1000000) (disch:=omega) only[aa,aR,aS,aU,aV,aW,aX,wA,a7,wS,a6,wM,S2,op,ef,cl,sq,reduceIte,j2,j3,j4,j5,j6,j7,j8,j9,y1,S1,h0,h1,h2,h3,h4,aF,ba,aD,bn,ha,hd,lc]) ?_
  simp -implicitDefEqProofs (maxSteps:=1000000) (disch:=omega) only[aa,aR,aS,aU,aV,aW,aX,wA,a7,wS,a6,wM,S2,op,ef,cl,sq,reduceIte,j2,j3,j4,j5,j6,j7,j8,j9,y1,S1,cz,h0,h1,h2,h3,h4,aF,ba,aD,bn,ha,hd,lc,List.append_nil]
  refine ae _ _ _ _ _ _ _ _ (cg di[a-1]! di[pv]! _) ?_
  rintro u H3⟨hu,hx⟩
  cases hu
  have hx:Ext H H3:=hx
  have hd:=hx.get hd
  have lc:=aY hd
  have au:=au.trans (aB (F:=fun _=>False) hx) (fun _ h=>h.elim)
  have dc:aZ di[a-1]! di[pv]! = decide (dJ di[a-1]! di[pv]!<0):=rfl
  by_cases c1:dJ di[a-1]! di[pv]!<0
  ·simp -implicitDefEqProofs (maxSteps:=1000000) (disch:=omega) only[aa,aR,aS,aU,aV,aW,aX,wA,a7,wS,a6,wM,S2,op,ef,cl,sq,reduceIte,j2,j3,j4,j5,j6,j7,j8,j9,y1,S1,h0,h1,h2,h3,h4,aF,ba,aD,bn,ha,hd,lc,c1]
   refine fq _ _ (by rw[dc,cn c1];simp) ⟨?_,?_,?_,?_,?_,?_,?_,?_⟩ ?_ ⟨di,hd,hn,rfl,au⟩
   all_goals simp -implicitDefEqProofs only[op,ef,cl,sq,reduceIte,j2,j3,j4,j5,j6,j7,j8,j9,y1,S1,h0,h1,h2,h3,h4,aF,ba,aD,bn]
  ·simp -implicitDefEqProofs (maxSteps:=1000000) (disch:=omega) only[aa,aR,aS,aU,aV,aW,aX,wA,a7,wS,a6,wM,S2,op,ef,cl,sq,reduceIte,j2,j3,j4,j5,j6,j7,j8,j9,y1,S1,h0,h1,h2,h3,h4,aF,ba,aD,bn,ha,hd,lc,c1]
   refine ae _ _ _ _ _ _ _ _ (T8 c n di a b pv _ hn hd hb (by omega) (by omega) (by omega)) ?_
   rintro u H4⟨hu,d2,cr,ir,e2,ea⟩
   cases hu
   simp -implicitDefEqProofs only[op,ef,cl,sq,reduceIte,j2,j3,j4,j5,j6,j7,j8,j9,y1,S1]
   refine iu _ _ (by rw[dc,cj c1];simp;exact ha) ?_ ?_ ?_ ?_ ?_ ?_ ?_ ⟨d2,cr,ir,e2,au.trans ea fun _ h=>.inl h⟩
   all_goals simp -implicitDefEqProofs only[op,ef,cl,sq,reduceIte,j2,j3,j4,j5,j6,j7,j8,j9,y1,S1,h0,h1,h2,h3,h4,aF,ba,aD,bn]
 ·simp -implicitDefEqProofs only[op,ef,cl,sq,reduceIte,j2,j3,j4,j5,j6,j7,j8,j9,y1,S1,h0,h1,h2,h3,h4,aF,ba,aD,bn,ha]
  refine fq _ _ (by rw[decide_eq_false ha];rfl) ⟨?_,?_,?_,?_,?_,?_,?_,?_⟩ ?_ ⟨di,hd,hn,rfl,au⟩
  all_goals simp -implicitDefEqProofs only[op,ef,cl,sq,reduceIte,j2,j3,j4,j5,j6,j7,j8,j9,y1,S1,h0,h1,h2,h3,h4,aF,ba,aD,bn]
set_option maxHeartbeats 8000000
def GG:C→Nat→C
 | c,0=>c
 | .seq _ b,k+1=>GG b k
 | c,_=>c
open Go.Sort in
theorem GH {d d1 d2:Array Nm}{a b b9 eR pv:Nat}{wb wp:Bool}{cp:Nat×Hint}{hi:Hint}{pi:Array Nm×Bool}(aD:¬b-a≤12)(hl:¬b9=0)
  (e1:d1=if (!wb)=true then breakPatterns d a b else d) (el:eR=if (!wb)=true then b9-1 else b9) (ec:cp=choosePivot aZ d1 a b) (e2:d2=if cp.2=.decreasing then reverseRange d1 a b else d1)
  (ep:pv=if cp.2=.decreasing then(b-1)-(cp.1-a)else cp.1) (eh:hi=if cp.2=.decreasing then .increasing else cp.2) (Kt:pi=if (wb&&wp&&hi=.increasing)=true then partialInsertionSort aZ d2 a b else(d2,false)) :
  pdq aZ d a b b9 wb wp=if pi.2=true then pi.1 else if (a>0&&!aZ pi.1[a-1]! pi.1[pv]!)=true then(if a<(partitionEqual aZ pi.1 a b pv).1∧(partitionEqual aZ pi.1 a b pv).1≤b then pdq aZ (partitionEqual aZ pi.1 a b pv).2 (partitionEqual aZ pi.1 a b pv).1 b eR wb wp else(partitionEqual aZ pi.1 a b pv).2)
   else(if a≤(partition aZ pi.1 a b pv).1∧(partition aZ pi.1 a b pv).1<b then if (partition aZ pi.1 a b pv).1-a<b-(partition aZ pi.1 a b pv).1 then pdq aZ (pdq aZ (partition aZ pi.1 a b pv).2.2 a (partition aZ pi.1 a b pv).1 eR true true) ((partition aZ pi.1 a b pv).1+1) b eR (decide ((partition aZ pi.1 a b pv).1-a≥(b-a)/8)) (partition aZ pi.1 a b pv).2.1
    else pdq aZ (pdq aZ (partition aZ pi.1 a b pv).2.2 ((partition aZ pi.1 a b pv).1+1) b eR true true) a (partition aZ pi.1 a b pv).1 eR (decide (b-(partition aZ pi.1 a b pv).1≥(b-a)/8)) (partition aZ pi.1 a b pv).2.1 else(partition aZ pi.1 a b pv).2.2):=by
 subst Kt eh ep e2 ec el e1
 rw[pdq,if_neg aD,if_neg hl]
 rfl
open Go.Sort in
theorem Co (d:Array Nm){a b pv:Nat}(h1:a≤pv)(h2:pv<b)(hb:b≤d.size):a<(partitionEqual aZ d a b pv).1∧(partitionEqual aZ d a b pv).1≤b:=by
 have:=partEqLoop_spec (lt:=aZ) a b b (a+1) (b-1) (swp d a pv) (by omega) (by omega) (by omega) (by omega) (by rw[swp_size];exact hb) (fun t h h'=>by omega) (fun t h h'=>by omega)
 exact⟨this.1,this.2.1⟩
theorem aau (A:C)(hA:(dg eG.body 1).map (eQ · 0)=some A)(c n a b b9:Nat)(wb wp:Bool)(R:av)(H:af)(K:Out→af→Prop)(h0:R 0=.ax c 0 n 2)(h1:R 1=.int .i64 a)(h2:R 2=.int .i64 b)(h3:R 3=.int .i64 b9)(h4:R 4=.fn 61 [])(aF:R 10=.bool wb)(ba:R 11=.bool wp)(gy:a≤b)(hb:b<16777216)
  (rest:∀R',PR R' c n a b b9 wb wp→K (.ex .normal R') H):eV env A R H K:=by
 simp[eG,dg,eQ,sq]at hA
 subst hA
 simp -implicitDefEqProofs (maxSteps:=1000000) (disch:=omega) only[aa,aR,aS,aU,aV,aW,aX,wA,a7,wS,a6,wM,S2,op,ef,cl,sq,reduceIte,j2,j3,j4,j5,j6,j7,j8,j9,y1,S1,h0,h1,h2,h3,h4,aF,ba]
 refine rest _ ⟨?_,?_,?_,?_,?_,?_,?_,?_⟩
 all_goals simp -implicitDefEqProofs only[op,ef,cl,sq,reduceIte,j2,j3,j4,j5,j6,j7,j8,j9,y1,S1,h0,h1,h2,h3,h4,aF,ba]
open Go.Sort in
theorem aav (A:C)(hA:(dg eG.body 1).map (eQ · 1)=some A)(c n a b b9:Nat)(wb wp:Bool)(d:Array Nm)(R:av)(H0 H:af)(K:Out→af→Prop)(hp:PR R c n a b b9 wb wp)(hd:SC c n H0 (fun x=>x=d) H)(hb:b≤n)(gy:a≤b)(hs:n<16777216)
  (iu:∀R' H',b-a≤12→SC c n H0 (fun x=>x=insertionSort aZ d a b) H'→K (.ex .ret R') H')
  (fq:∀R',¬b-a≤12→PR R' c n a b b9 wb wp→K (.ex .normal R') H):eV env A R H K:=by
 simp[eG,dg,eQ,sq]at hA
 subst hA
 obtain⟨h0,h1,h2,h3,h4,aF,ba,aD⟩:=hp
 obtain⟨di,hc,hn,rfl,au⟩:=hd
 by_cases hle:b-a≤12
 ·simp -implicitDefEqProofs only[op,ef,cl,sq,reduceIte,j2,j3,j4,j5,j6,j7,j8,j9,y1,S1,h0,h1,h2,h3,h4,aF,ba,aD,hle]
  have hi:=TV c di a b H hc (by omega) gy (by omega)
  rw[hn]at hi
  refine ae _ _ _ _ _ _ _ _ hi ?_
  rintro u H2⟨hu,cr,ea⟩
  cases hu
  simp -implicitDefEqProofs only[op,ef,cl,sq,reduceIte,j2,j3,j4,j5,j6,j7,j8,j9,y1,S1]
  exact iu _ _ hle ⟨_,cr,by rw[(insertionSort_holds qx di a b gy (by omega)).1.1];exact hn,rfl,au.trans ea fun _ h=>.inl h⟩
 ·simp -implicitDefEqProofs only[op,ef,cl,sq,reduceIte,j2,j3,j4,j5,j6,j7,j8,j9,y1,S1,h0,h1,h2,h3,h4,aF,ba,aD,hle]
  refine fq _ hle ⟨?_,?_,?_,?_,?_,?_,?_,?_⟩
  all_goals simp -implicitDefEqProofs only[op,ef,cl,sq,reduceIte,j2,j3,j4,j5,j6,j7,j8,j9,y1,S1,h0,h1,h2,h3,h4,aF,ba,aD]
open Go.Sort in
theorem aaw (A:C)(hA:(dg eG.body 1).map (eQ · 2)=some A)(c n a b b9:Nat)(wb wp:Bool)(d:Array Nm)(R:av)(H0 H:af)(K:Out→af→Prop)(hp:PR R c n a b b9 wb wp)(hd:SC c n H0 (fun x=>x=d) H)(hb:b≤n)(gy:a+12<b)(hs:n<16777216)
  (iu:∀R' H',b9=0→SC c n H0 (fun x=>x=heapSort aZ d a b) H'→K (.ex .ret R') H')
  (fq:∀R',¬b9=0→PR R' c n a b b9 wb wp→K (.ex .normal R') H):eV env A R H K:=by
 simp[eG,dg,eQ,sq]at hA
 subst hA
 obtain⟨h0,h1,h2,h3,h4,aF,ba,aD⟩:=hp
 obtain⟨di,hc,hn,rfl,au⟩:=hd
 by_cases hl:b9=0
 ·subst hl
  have e:(((0:Nat):Int)==0)=true:=rfl
  simp -implicitDefEqProofs only[op,ef,cl,sq,reduceIte,j2,j3,j4,j5,j6,j7,j8,j9,y1,S1,h0,h1,h2,h3,h4,aF,ba,aD,e]
  refine ae _ _ _ _ _ _ _ _ (O0 c n di a b _ hn hc hb (by omega) (by omega)) ?_
  rintro u H2⟨hu,d2,cr,ir,e2,ea⟩
  cases hu
  simp -implicitDefEqProofs only[op,ef,cl,sq,reduceIte,j2,j3,j4,j5,j6,j7,j8,j9,y1,S1]
  exact iu _ _ rfl ⟨_,cr,ir,e2,au.trans ea fun _ h=>.inl h⟩
 ·have e:((b9:Int)==0)=false:=by simp;omega
  simp -implicitDefEqProofs only[op,ef,cl,sq,reduceIte,j2,j3,j4,j5,j6,j7,j8,j9,y1,S1,h0,h1,h2,h3,h4,aF,ba,aD,e]
  refine fq _ hl ⟨?_,?_,?_,?_,?_,?_,?_,?_⟩
  all_goals simp -implicitDefEqProofs only[op,ef,cl,sq,reduceIte,j2,j3,j4,j5,j6,j7,j8,j9,y1,S1,h0,h1,h2,h3,h4,aF,ba,aD]
open Go.Sort in
theorem aax (A:C)(hA:(dg eG.body 1).map (eQ · 4)=some A)(c n a b b9:Nat)(wb wp:Bool)(d:Array Nm)(R:av)(H0 H:af)(K:Out→af→Prop)(hp:PR R c n a b b9 wb wp)(hd:SC c n H0 (fun x=>x=d) H)(hb:b≤n)(gy:a+12<b)(hs:n<16777216)
  (rest:∀R' H',PR R' c n a b b9 wb wp→R' 13=.int .i64 (choosePivot aZ d a b).1→R' 14=.int .i64 (gK (choosePivot aZ d a b).2)→SC c n H0 (fun x=>x=d) H'→K (.ex .normal R') H'):eV env A R H K:=by
 simp[eG,dg,eQ,sq]at hA
 subst hA
 obtain⟨h0,h1,h2,h3,h4,aF,ba,aD⟩:=hp
 obtain⟨di,hc,hn,rfl,au⟩:=hd
 simp -implicitDefEqProofs only[op,ef,cl,sq,reduceIte,j2,j3,j4,j5,j6,j7,j8,j9,y1,S1,h0,h1,h2,h3,h4,aF,ba,aD]
 refine ae _ _ _ _ _ _ _ _ (Gy c n di a b _ hn hc hb gy (by omega)) ?_
 rintro u H2⟨hu,hx⟩
 cases hu
 simp -implicitDefEqProofs only[op,ef,cl,sq,reduceIte,j2,j3,j4,j5,j6,j7,j8,j9,y1,S1]
 refine rest _ _ ⟨?_,?_,?_,?_,?_,?_,?_,?_⟩ ?_ ?_ ⟨di,hx.get hc,hn,rfl,au.trans (aB (F:=fun _=>False) hx) (fun _ h=>h.elim)⟩
 all_goals simp -implicitDefEqProofs only[op,ef,cl,sq,reduceIte,j2,j3,j4,j5,j6,j7,j8,j9,y1,S1,h0,h1,h2,h3,h4,aF,ba,aD]
theorem Wx {a:Nat}(h:a<9223372036854775808):IntKind.i64.wrap ((a:Int).tdiv 8)=((a/8:Nat):Int):=by rw[Int.tdiv_eq_ediv_of_nonneg (by omega),wrap64 (by omega)];omega
open Go.Sort in
theorem aay (A:C)(hA:(dg eG.body 1).map (GG · 8)=some A)(c n a b b9:Nat)(wb wp:Bool)(d:Array Nm)(pv:Nat)(R:av)(H0 H:af)(K:Out→af→Prop)(hp:PR R c n a b b9 wb wp)(bn:R 13=.int .i64 pv)(hd:SC c n H0 (fun x=>x=d) H)(hb:b≤n)(gy:a+12<b)(hs:n<16777216)(mD:a≤pv∧pv<b)
  (ih:∀a' b' (d':Array Nm) H',b'-a'<b-a→a'≤b'→b'≤n→d'.size=n→H'[c]?=some (.cells (aE eN d'.toList))→W env (.call 117 [.ax c 0 n 2,.int .i64 a',.int .i64 b',.int .i64 b9,.fn 61 []]) H' (y9 c n (pdq aZ d' a' b' b9 true true) H'))
  (rest:∀R' H' a' b' (d':Array Nm) (Ku:Bool),a≤a'→a'≤b'→b'≤b→b'-a'<b-a→R' 0=.ax c 0 n 2→R' 1=.int .i64 (a':Nat)→R' 2=.int .i64 (b':Nat)→R' 3=.int .i64 b9→R' 4=.fn 61 []→R' 10=.bool Ku→R' 11=.bool (partition aZ d a b pv).2.1 →
   pdq aZ d' a' b' b9 Ku (partition aZ d a b pv).2.1=(if (partition aZ d a b pv).1-a<b-(partition aZ d a b pv).1 then pdq aZ (pdq aZ (partition aZ d a b pv).2.2 a (partition aZ d a b pv).1 b9 true true) ((partition aZ d a b pv).1+1) b b9 (decide ((partition aZ d a b pv).1-a≥(b-a)/8)) (partition aZ d a b pv).2.1
    else pdq aZ (pdq aZ (partition aZ d a b pv).2.2 ((partition aZ d a b pv).1+1) b b9 true true) a (partition aZ d a b pv).1 b9 (decide (b-(partition aZ d a b pv).1≥(b-a)/8)) (partition aZ d a b pv).2.1) →
   SC c n H0 (fun x=>x=d') H'→K (.ex .normal R') H'):eV env A R H K:=by
 simp[eG,dg,GG,sq]at hA
 subst hA
 obtain⟨h0,h1,h2,h3,h4,aF,ba,aD⟩:=hp
 obtain⟨di,hc,hn,rfl,au⟩:=hd
 have pQ:=partition_holds aZ qx di a b pv mD.1 mD.2 (by omega)
 simp -implicitDefEqProofs only[op,ef,cl,sq,reduceIte,j2,j3,j4,j5,j6,j7,j8,j9,y1,S1,h0,h1,h2,h3,h4,aF,ba,aD,bn]
 refine ae _ _ _ _ _ _ _ _ (O4 c n di a b pv _ hn hc hb (by omega) (by omega) (by omega)) ?_
 rintro u H2⟨hu,d2,cr,ir,e2,ea⟩
 cases hu
 generalize partition aZ di a b pv=r at *
 obtain⟨mid,ap,d4⟩:=r
 simp only at pQ e2 rest ⊢
 subst e2
 obtain⟨m1,m2,_⟩:=pQ
 have kf:=au.trans ea fun _ h=>.inl h
 by_cases aw:mid-a<b-mid
 ·rw[if_pos aw]at rest
  simp -implicitDefEqProofs (maxSteps:=1000000) (disch:=omega) only[aa,aR,aS,aU,aV,aW,aX,wA,a7,wS,a6,wM,S2,op,ef,cl,sq,reduceIte,j2,j3,j4,j5,j6,j7,j8,j9,y1,S1,Wx,h0,h1,h2,h3,h4,aF,ba,aD,bn,aw]
  refine ae _ _ _ _ _ _ _ _ (ih a mid d2 _ (by omega) m1 (by omega) ir cr) ?_
  rintro u H3⟨hu,d3,oh,zG,e3,py⟩
  cases hu
  simp -implicitDefEqProofs (maxSteps:=1000000) (disch:=omega) only[aa,aR,aS,aU,aV,aW,aX,wA,a7,wS,a6,wM,S2,op,ef,cl,sq,reduceIte,j2,j3,j4,j5,j6,j7,j8,j9,y1,S1,h0,h1,h2,h3,h4,aF,ba,aD,bn]
  refine rest _ _ (mid+1) b d3 (decide ((b-a)/8≤mid-a)) (by omega) (by omega) (Nat.le_refl _) (by omega) ?_ ?_ ?_ ?_ ?_ ?_ ?_ (by rw[e3]) ⟨d3,oh,zG,rfl,kf.trans py fun _ h=>.inl h⟩
  all_goals simp -implicitDefEqProofs only[op,ef,cl,sq,reduceIte,j2,j3,j4,j5,j6,j7,j8,j9,y1,S1,h0,h1,h2,h3,h4,aF,ba,aD]
 ·rw[if_neg aw]at rest
  simp -implicitDefEqProofs (maxSteps:=1000000) (disch:=omega) only[aa,aR,aS,aU,aV,aW,aX,wA,a7,wS,a6,wM,S2,op,ef,cl,sq,reduceIte,j2,j3,j4,j5,j6,j7,j8,j9,y1,S1,Wx,h0,h1,h2,h3,h4,aF,ba,aD,bn,aw]
  refine ae _ _ _ _ _ _ _ _ (ih (mid+1) b d2 _ (by omega) m2 (by omega) ir cr) ?_
  rintro u H3⟨hu,d3,oh,zG,e3,py⟩
  cases hu
  simp -implicitDefEqProofs (maxSteps:=1000000) (disch:=omega) only[aa,aR,aS,aU,aV,aW,aX,wA,a7,wS,a6,wM,S2,op,ef,cl,sq,reduceIte,j2,j3,j4,j5,j6,j7,j8,j9,y1,S1,h0,h1,h2,h3,h4,aF,ba,aD,bn]
  refine rest _ _ a mid d3 (decide ((b-a)/8≤b-mid)) (by omega) (by omega) (by omega) (by omega) ?_ ?_ ?_ ?_ ?_ ?_ ?_ (by rw[e3]) ⟨d3,oh,zG,rfl,kf.trans py fun _ h=>.inl h⟩
  all_goals simp -implicitDefEqProofs only[op,ef,cl,sq,reduceIte,j2,j3,j4,j5,j6,j7,j8,j9,y1,S1,h0,h1,h2,h3,h4,aF,ba,aD]
set_option maxHeartbeats 8000000
open Go.Sort in
theorem Uc (c n:Nat)(hs:n<16777216):∀m a b b9 (d:Array Nm) H,b-a=m→a≤b→b≤n→b9<1000→d.size=n→H[c]?=some (.cells (aE eN d.toList)) →
  W env (.call 117 [.ax c 0 n 2,.int .i64 (a:Nat),.int .i64 (b:Nat),.int .i64 (b9:Nat),.fn 61 []]) H (y9 c n (pdq aZ d a b b9 true true) H):=by
 intro m
 induction m using Nat.strongRecOn with
 | _ m ih =>
 intro a b b9 d H hm gy hb aaz hn hc
 subst hm
 refine W.bU rfl rfl rfl ?_
 simp -implicitDefEqProofs only[eG,op,ef,cl,sq,reduceIte,j2,j3,j4,j5,j6,j7,j8,j9,y1,S1]
 refine W.cH (fun (q:Nat×Nat×Nat×Bool×Bool) R H'=>At H' (fun H'=>SC c n H (fun di=>pdq aZ di q.1 q.2.1 q.2.2.1 q.2.2.2.1 q.2.2.2.2=pdq aZ d a b b9 true true) H')∧R 0=.ax c 0 n 2∧R 1=.int .i64 q.1∧R 2=.int .i64 q.2.1∧R 3=.int .i64 q.2.2.1∧R 4=.fn 61 []∧R 10=.bool q.2.2.2.1∧R 11=.bool q.2.2.2.2∧a≤q.1∧q.1≤q.2.1∧q.2.1≤b∧q.2.2.1≤b9) (fun q=>q.2.1-q.1) (a,b,b9,true,true) ⟨.i ⟨d,hc,hn,rfl,bm.refl _ _⟩,rfl,rfl,rfl,rfl,rfl,rfl,rfl,Nat.le_refl _,gy,Nat.le_refl _,Nat.le_refl _⟩ ?_
 rintro⟨a1,b1,l1,wb,wp⟩ R H1 ⟨⟨di,hd,a9,hP,au⟩,h0,h1,h2,h3,h4,aF,ba,q1,q2,q3,q4⟩
 simp only at hP h1 h2 h3 aF ba q1 q2 q3 q4 ⊢
 rw[qp,fK]
 refine aau _ rfl c n a1 b1 l1 wb wp R H1 _ h0 h1 h2 h3 h4 aF ba q2 (by omega) ?_
 intro R1 p1
 rw[dR,cR,fK]
 refine aav _ rfl c n a1 b1 l1 wb wp di R1 H H1 _ p1 ⟨di,hd,a9,rfl,au⟩ (by omega) q2 hs ?_ ?_
 ·rintro R' H' hle⟨d',gM,ft,rfl,ql⟩
  rw[pdq,if_pos hle]at hP
  simp -implicitDefEqProofs only[op,ef,cl,sq,reduceIte,j2,j3,j4,j5,j6,j7,j8,j9,y1,S1]
  exact⟨rfl,_,gM,ft,hP,ql⟩
 intro R2 aD p2
 rw[dR,cR,fK]
 refine aaw _ rfl c n a1 b1 l1 wb wp di R2 H H1 _ p2 ⟨di,hd,a9,rfl,au⟩ (by omega) (by omega) hs ?_ ?_
 ·rintro R' H' ya⟨d',gM,ft,rfl,ql⟩
  rw[pdq,if_neg aD,if_pos ya]at hP
  simp -implicitDefEqProofs only[op,ef,cl,sq,reduceIte,j2,j3,j4,j5,j6,j7,j8,j9,y1,S1]
  exact⟨rfl,_,gM,ft,hP,ql⟩
 intro R3 ya p3
 rw[dR,cR,fK]
 refine aaq _ rfl c n a1 b1 l1 wb wp di R3 H H1 _ p3 ⟨di,hd,a9,rfl,au⟩ (by omega) (by omega) hs (by omega) ?_
 rintro R4 H4 p4⟨d1,rJ,CP,e1,yg⟩
 obtain⟨eR,el⟩:∃l,l=if (!wb)=true then l1-1 else l1:=⟨_,rfl⟩
 have qR:eR≤l1:=by rw[el];split<;>omega
 rw[←el]at p4
 rw[dR,cR,fK]
 refine aax _ rfl c n a1 b1 eR wb wp d1 R4 H H4 _ p4 ⟨d1,rJ,CP,rfl,yg⟩ (by omega) (by omega) hs ?_
 rintro R5 H5 p5 bn nk⟨Kv,hd5,O6,MP,Ud⟩
 subst MP
 have Ue:=choosePivot_holds aZ Kv a1 b1 (by omega)
 obtain⟨cp,ec⟩:∃x,x=choosePivot aZ Kv a1 b1:=⟨_,rfl⟩
 rw[←ec]at bn nk Ue
 rw[dR,cR,fK]
 refine aar _ rfl c n a1 b1 eR wb wp Kv cp.1 cp.2 R5 H H5 _ p5 bn nk ⟨Kv,hd5,O6,rfl,Ud⟩ (by omega) (by omega) hs Ue ?_
 rintro R6 H6 p6 bn nk⟨d2,hd6,hs6,e2,hf6⟩
 obtain⟨pv,ep⟩:∃x,x=if cp.2=.decreasing then(b1-1)-(cp.1-a1)else cp.1:=⟨_,rfl⟩
 obtain⟨hi,eh⟩:∃x,x=if cp.2=.decreasing then Hint.increasing else cp.2:=⟨_,rfl⟩
 rw[←ep]at bn
 rw[←eh]at nk
 have mD:a1≤pv∧pv<b1:=by rw[ep];split<;>omega
 rw[dR,cR,fK]
 obtain⟨pi,Kt⟩:∃x,x=if (wb&&wp&&hi=.increasing)=true then partialInsertionSort aZ d2 a1 b1 else(d2,false):=⟨_,rfl⟩
 rw[GH aD ya e1 el ec e2 ep eh Kt]at hP
 refine aas _ rfl c n a1 b1 eR wb wp d2 pv hi R6 H H6 _ p6 bn nk ⟨d2,hd6,hs6,rfl,hf6⟩ (by omega) (by omega) hs pi Kt ?_ ?_
 ·rintro R' H' Ih⟨d',gM,ft,rfl,ql⟩
  rw[if_pos Ih]at hP
  simp -implicitDefEqProofs only[op,ef,cl,sq,reduceIte,j2,j3,j4,j5,j6,j7,j8,j9,y1,S1]
  exact⟨rfl,_,gM,ft,hP,ql⟩
 rintro R7 H7 Gu p7 bn⟨d3,hd7,Kw,e3,hf7⟩
 rw[if_neg (by rw[Gu];simp),←e3]at hP
 rw[dR,cR,fK]
 refine aat _ rfl c n a1 b1 eR wb wp d3 pv R7 H H7 _ p7 bn ⟨d3,hd7,Kw,rfl,hf7⟩ (by omega) (by omega) hs mD ?_ ?_
 ·rintro R' H' kJ g0 g1 g2 g3 g4 O8 Ii⟨d',gM,ft,e',ql⟩
  have hr:=Co d3 mD.1 mD.2 (by omega)
  rw[if_pos kJ,if_pos hr,←e']at hP
  simp -implicitDefEqProofs only[op,ef,cl,sq,reduceIte,j2,j3,j4,j5,j6,j7,j8,j9,y1,S1]
  exact⟨((partitionEqual aZ d3 a1 b1 pv).1,b1,eR,wb,wp),by simp only;omega,.i ⟨_,gM,ft,hP,ql⟩,g0,g1,g2,g3,g4,O8,Ii,by simp only;omega,by simp only;omega,by simp only;omega,by simp only;omega⟩
 rintro R8 H8 kJ p8 bn⟨AN,Ru,hs8,e3',Ij⟩
 subst e3'
 have hr:=partition_holds aZ qx AN a1 b1 pv mD.1 mD.2 (by omega)
 rw[if_neg (by rw[kJ];simp),if_pos ⟨hr.1,hr.2.1⟩]at hP
 rw[dR,cR]
 refine aay _ rfl c n a1 b1 eR wb wp AN pv R8 H H8 _ p8 bn ⟨AN,Ru,hs8,rfl,Ij⟩ (by omega) (by omega) hs mD (fun a' b' d' H' aw O9 jt ft iS=>ih _ (by omega) a' b' eR d' H' rfl O9 jt (by omega) ft iS) ?_
 rintro R' H' a' b' d' Ku O9 Pa jt aw g0 g1 g2 g3 g4 O8 Ii e'⟨d'',gM,ft,rfl,ql⟩
 simp -implicitDefEqProofs only[op,ef,cl,sq,reduceIte,j2,j3,j4,j5,j6,j7,j8,j9,y1,S1]
 exact⟨(a',b',eR,Ku,(partition aZ AN a1 b1 pv).2.1),by simp only;omega,.i ⟨_,gM,ft,by simp only;rw[e'];exact hP,ql⟩,g0,g1,g2,g3,g4,O8,Ii,by simp only;omega,Pa,by simp only;omega,by simp only;omega⟩
open Go.Sort in
theorem Kx (c:Nat)(d:Array Nm)(H:af)(hc:H[c]?=some (.cells (aE eN d.toList)))(hs:d.size<16777216) :
  W env (.call 93 [.ax c 0 d.size 2,.fn 61 []]) H (y9 c d.size (sort aZ d) H):=by
 refine W.bU rfl rfl rfl ?_
 have w1:IntKind.u64.wrap (d.size:Int)=(d.size:Int):=pU (by omega)
 simp -implicitDefEqProofs only[J4,op,ef,cl,sq,reduceIte,j2,j3,j4,j5,j6,j7,j8,j9,y1,S1,w1]
 refine ae _ _ _ _ _ _ _ _ (GA d.size hs _) ?_
 rintro u H1⟨hu,rfl⟩
 cases hu
 have hb:=qw (n:=d.size) (k:=24) hs
 simp -implicitDefEqProofs only[op,ef,cl,sq,reduceIte,j2,j3,j4,j5,j6,j7,j8,j9,y1,S1]
 refine ae _ _ _ _ _ _ _ _ (Uc c d.size hs _ 0 d.size (bitsLen d.size) d _ rfl (Nat.zero_le _) (Nat.le_refl _) (by omega) rfl hc) ?_
 rintro u H2⟨hu,h2⟩
 cases hu
 simp -implicitDefEqProofs only[op,ef,cl,sq,reduceIte,j2,j3,j4,j5,j6,j7,j8,j9,y1,S1]
 exact⟨rfl,h2⟩
theorem om {d:Array Nm}(hn:d.toList.Nodup):(Go.Sort.sort aZ d).toList.Perm d.toList∧(Go.Sort.sort aZ d).toList.Pairwise (fun a b=>aZ a b=true):=by
 obtain⟨⟨hs,_,hp⟩,GI⟩:=Go.Sort.sort_sorts aZ qx d
 have e1:(Go.Sort.sort aZ d).extract 0 d.size=Go.Sort.sort aZ d:=by
  conv=>lhs;arg 3;rw[←hs]
  simp
 have fD:(Go.Sort.sort aZ d).toList.Perm d.toList:=by
  rw[e1]at hp
  simpa using hp
 refine⟨fD,?_⟩
 have Jf:(Go.Sort.sort aZ d).toList.Nodup:=fD.nodup_iff.2 hn
 rw[List.pairwise_iff_getElem]
 intro i j hi hj rC
 have h1:=GI i j (Nat.zero_le _) rC (by rw[←hs];simpa using hj)
 have gi:=jb (d:=Go.Sort.sort aZ d) (i:=i) (by simpa using hi)
 have gj:=jb (d:=Go.Sort.sort aZ d) (i:=j) (by simpa using hj)
 rw[List.getElem?_eq_getElem hi]at gi
 rw[List.getElem?_eq_getElem hj]at gj
 rw[Option.some.inj gi,Option.some.inj gj]
 cases h:aZ (Go.Sort.sort aZ d)[i]! (Go.Sort.sort aZ d)[j]! with
 | true=>rfl
 | false =>
  have e:=AM h h1
  rw[←Option.some.inj gi,←Option.some.inj gj]at e
  have:=(List.getElem_inj Jf).1 e
  omega
theorem Cp (es:List (Nm×T))(c mb:Nat)(H:af)(fz:(es.map (·.1)).Nodup)(iE:es.length≤8000000)(hc:H[c]?=some (.cells [.map mb]))(hm:H[mb]?=some (.map (bh kN es))) :
  W env (.call 59 [.fn 94 [.ptr c 0],.fn 61 []]) H (Ua es H):=by
 refine W.bU rfl rfl rfl ?_
 simp -implicitDefEqProofs only[Ol,op,ef,cl,sq,reduceIte,j2,j3,j4,j5,j6,j7,j8,j9,y1,S1]
 refine ae _ _ _ _ _ _ _ _ (OW es c mb H fz (by omega) hc hm) ?_
 rintro u H1⟨hx,t,b7,hu,AH,mc⟩
 cases hu
 have fD:b7.Perm (es.map (·.1)):=(List.perm_ext_iff_of_nodup mc.Gt fz).2 fun k=>mc.Cd k
 have nw:b7.length=es.length:=by have:=mc.len;simpa using this
 rcases AH with⟨rfl,rfl⟩|⟨d,rfl,hd,HT⟩
 ·simp -implicitDefEqProofs only[op,ef,cl,sq,reduceIte,j2,j3,j4,j5,j6,j7,j8,j9,y1,S1]
  refine ae _ _ _ _ _ _ _ _ (T9 _) ?_
  rintro u H2⟨hu,rfl⟩
  cases hu
  simp -implicitDefEqProofs only[op,ef,cl,sq,reduceIte,j2,j3,j4,j5,j6,j7,j8,j9,y1,S1]
  exact⟨hx,_,[],rfl,nX _ _ _ _,fD,List.Pairwise.nil⟩
 ·simp -implicitDefEqProofs only[op,ef,cl,sq,reduceIte,j2,j3,j4,j5,j6,j7,j8,j9,y1,S1]
  have:=Kx d b7.toArray H1 (by simpa using hd) (by simpa using (by omega:b7.length<16777216))
  simp -implicitDefEqProofs only[List.size_toArray]at this
  refine ae _ _ _ _ _ _ _ _ this ?_
  rintro u H2⟨hu,d2,h2,qe,rfl,au⟩
  cases hu
  simp -implicitDefEqProofs only[op,ef,cl,sq,reduceIte,j2,j3,j4,j5,j6,j7,j8,j9,y1,S1]
  have hs:=om (d:=b7.toArray) (by simpa using mc.Gt)
  simp -implicitDefEqProofs only[List.size_toArray]at hs
  refine⟨nj fun a x Uf=>au.get (hx.get Uf) (by have:=aY Uf;omega),_,_,rfl,.inr ⟨d,?_,h2,HT⟩,hs.1.trans fD,hs.2⟩
  rw[hs.1.length_eq]
theorem Mm {α:Type}{enc:α→List T}{n:Nat}(hn:∀x,(enc x).length=n)(h0:n≠0){n0:Nat}{H:af}{t:T}{l:List α}(hm:pS enc n n0 H t l){i:Nat}{x:α}(hx:l[i]?=some x):∃b,H[b]?=some (.cells (aE enc l))∧dw n i t=some (.ptr b (i*n))∧ph n (i*n) (some (.cells (aE enc l)))=some (enc x):=by
 have hi:=(List.getElem?_eq_some_iff.1 hx).1
 rcases hm with⟨rfl,_⟩|⟨b,rfl,hb,_⟩
 ·simp at hi
 ·refine⟨b,hb,by rw[fL];simp[hi,h0],?_⟩
  have:=gb hn hx 0 n (by omega)
  simp -implicitDefEqProofs only[Nat.add_zero,List.drop_zero]at this
  rw[this,List.take_of_length_le (by rw[hn];omega)]
def eK (x:Nm×Hd):List T:=[.str x.1.1,.int .u64 x.1.2,.str x.2.value,.sl .arg (x.2.keys.map eS),.int .i64 x.2.bg]
def pV (s:dy)(l:List Nm):List (Nm×Hd):=l.map fun n=>(n,qd (ai s.vs n))
def Ug (s:dy)(H:af):Out→af→Prop:=fun o H'=>Ext H H'∧∃k l,iD k l∧o=.val (.sl k ((pV s l).map eK))∧l.Perm (s.vs.map (·.1))∧l.Pairwise (fun a b=>aZ a b=true)
theorem Pb (b:Bk)(s:dy)(F:Nat→Prop)(H:af)(hs:SH H b s F)(hi:gv s)(hn:s.vs.length≤8000000):W env (.call 18 [.ptr b.s 0]) H (Ug s H):=by
 obtain⟨im,pm,sa⟩:=hs
 refine W.bU rfl rfl rfl ?_
 simp -implicitDefEqProofs only[NW,op,ef,cl,sq,reduceIte,j2,j3,j4,j5,j6,j7,j8,j9,y1,S1,sa.hs]
 refine ae _ _ _ _ _ _ _ (fun o H'=>o=.val (.fn 94 [.ptr H.length 0])∧H'=H++[.cells [.map b.v]]) ?_ ?_
 ·refine W.bU rfl rfl rfl ?_
  simp -implicitDefEqProofs only[Om,op,ef,cl,sq,reduceIte,j2,j3,j4,j5,j6,j7,j8,j9,y1,S1]
  exact rfl
 rintro u H1⟨hu,rfl⟩
 cases hu
 have lv:=aY sa.hv
 have xN:(dZ s.vs).map (·.1)=s.vs.map (·.1):=by simp[dZ]
 simp -implicitDefEqProofs only[op,ef,cl,sq,reduceIte,j2,j3,j4,j5,j6,j7,j8,j9,y1,S1]
 refine ae _ _ _ _ _ _ _ _ (Cp (dZ s.vs) H.length b.v _ (by rw[xN];exact hi.nd) (by simpa[dZ]using hn) (aO rfl) (by rw[aQ lv];exact sa.hv)) ?_
 rintro t H2⟨v9,_,l,hu,AH,fD,Ky⟩
 cases hu
 rw[xN]at fD
 have qR:l.length≤8000000:=by rw[fD.length_eq];simpa using hn
 have hlen:=AH.len
 have jM:Ext H H2:=(Ext.rfl'.app _).trans v9
 simp -implicitDefEqProofs only[op,ef,cl,sq,reduceIte,j2,j3,j4,j5,j6,j7,j8,j9,y1,S1,hlen]
 have acB:∀Hx,iH Hx .sl t=some l.length:=fun Hx=>by
  rcases AH with⟨e,rfl⟩|⟨c,rfl,_,_⟩
  ·rw[e];rfl
  ·rfl
 refine W.cH (fun (i:Nat) R H'=>At H' (fun H'=>∃kw,R 3=.sl kw ((pV s (l.take i)).map eK)∧Ext H H'∧Ext H2 H'∧mO H2.length H' kw∧iD kw (l.take i))∧R 0=.ptr b.s 0∧R 11=t∧R 12=.int .i64 l.length∧R 13=.int .i64 i∧i≤l.length) (fun i=>l.length-i) 0 ⟨.i ⟨.nil,rfl,jM,Ext.rfl',l4 _ _,fun _=>rfl⟩,rfl,rfl,rfl,rfl,Nat.zero_le _⟩ ?_
 rintro i R H3⟨⟨kw,h3,sn,zj,ob,pq⟩,h0,ba,aD,bn,lx⟩
 by_cases aw:i<l.length
 ·obtain⟨m,hm⟩:=cw aw
  have ws:=aC (show i<9223372036854775807 by omega)
  obtain⟨c,g1,g2,g3⟩:=Mm (enc:=eN) (n:=2) (fun _=>rfl) (by decide) (AH.ext zj) hm
  have AJ:=sa.jv (aB (F:=fun _=>False) sn) (fun _ _ _ h=>h)
  have l0:=aY AJ.hs
  have lv3:=aY AJ.hv
  have iG:=fun Hx z ok=>lG vu z ok Hx (dZ s.vs) m
  simp -implicitDefEqProofs only[kN,eN]at iG
  have hh:=yY s.vs m
  simp -implicitDefEqProofs only[op,ef,cl,sq,reduceIte,j2,j3,j4,j5,j6,j7,j8,j9,y1,S1,S2,S3,List.length_set,h0,ba,aD,bn,aw,aa,g1,g2,g3,eN,AJ.hs,AJ.hv,l0,lv3,iG,hh,fo]
  refine ae _ _ _ _ _ _ _ _ (Cj b s F m.1 m.2 _ ⟨im,pm,AJ.jv (aB (F:=fun _=>False) (Ext.rfl'.app _)) (fun _ _ _ h=>h)⟩ hi) ?_
  rintro u H4⟨um,kk,bL,hu⟩
  cases hu
  have c0:H4[H3.length]?=some (.cells [.str m.1,.int .u64 m.2]):=um.get (by rw[aO rfl])
  have Cq:Ext H3 H4:=(Ext.rfl'.app _).trans um
  have s4:=Cq.get AJ.hs
  have v4:=Cq.get AJ.hv
  obtain⟨hd,pr⟩:∃hd,hd=qd (ai s.vs m):=⟨_,rfl⟩
  rw[←pr]at hh bL
  have cJ:=all_map (enc:=eK) (n:=5) (fun _=>rfl) (pV s (l.take i))
  have V5:((pV s (l.take i)).map eK).length≤8000000:=by simp -implicitDefEqProofs only[pV,List.length_map,List.length_take];omega
  obtain⟨k',H5,ha,Pc,dD⟩:=lJ (bytes:=72) ((pV s (l.take i)).map eK) [[T.str m.1,.int .u64 m.2,.str hd.value,.sl .arg (hd.keys.map eS),.int .i64 hd.bg]] (ob.ext Cq) (Nat.le_trans zj.len Cq.len) (by simp) (iY (by simp -implicitDefEqProofs only[List.length_cons,List.length_nil];omega))
  have uJ:=vt ha (by simp)
  simp -implicitDefEqProofs only[op,ef,cl,sq,reduceIte,j2,j3,j4,j5,j6,j7,j8,j9,y1,S1]at ha
  simp -implicitDefEqProofs only[op,ef,cl,sq,reduceIte,j2,j3,j4,j5,j6,j7,j8,j9,y1,S1,TI,h3,c0,s4,v4,iG,hh,fo,←pr,cJ,ha,h0,ba,aD,bn,ws]
  refine⟨i+1,by omega,.i ⟨k',?_,dD.ext H (by have:=jM.len;omega) (sn.trans Cq),dD.ext H2 (Nat.le_refl _) (zj.trans Cq),Pc,fun h=>absurd h uJ⟩,rfl,by omega⟩
  rw[cE hm]
  simp -implicitDefEqProofs only[pV,List.map_append,List.map_cons,List.map_nil,eK,←pr]
 ·have ni:i=l.length:=by omega
  subst ni
  rw[List.take_length]at h3 pq
  simp -implicitDefEqProofs only[op,ef,cl,sq,reduceIte,j2,j3,j4,j5,j6,j7,j8,j9,y1,S1,h3,aD,bn,aw]
  exact⟨sn,kw,l,pq,rfl,fD,Ky⟩
theorem uo:∀(l l':List Nm),l.Pairwise (fun a b=>aZ a b=true)→l'.Pairwise (fun a b=>aZ a b=true)→(∀x,x∈l↔x∈l')→l=l'
 | [],[],_,_,_=>rfl
 | [],b :: l',_,_,h=>by have:=(h b).2 (by simp);simp at this
 | a :: l,[],_,_,h=>by have:=(h a).1 (by simp);simp at this
 | a :: l,b :: l',h1,h2,h=>by
  rw[List.pairwise_cons]at h1 h2
  have e:a=b:=by
   rcases List.mem_cons.1 ((h a).1 (by simp))with e|e
   ·exact e
   ·rcases List.mem_cons.1 ((h b).2 (by simp))with e2|e2
    ·exact e2.symm
    ·have q1:=h2.1 a e
     have q2:=h1.1 b e2
     have:=mg q1 q2
     rw[me]at this;cases this
  subst e
  rw[uo l l' h1.2 h2.2 fun x=>?_]
  have hx:=h x
  simp -implicitDefEqProofs only[List.mem_cons]at hx
  constructor
  ·intro hm
   rcases hx.1 (.inr hm)with e|e
   ·subst e;have:=h1.1 x hm;rw[me]at this;cases this
   ·exact e
  ·intro hm
   rcases hx.2 (.inr hm)with e|e
   ·subst e;have:=h2.1 x hm;rw[me]at this;cases this
   ·exact e
theorem mem_keys {α β:Type}[DecidableEq α]{es:List (α×β)}{k:α}:k∈es.map (·.1)↔(ai es k).isSome=true:=by
 cases h:ai es k with
 | none=>simp[cA.1 h]
 | some v =>
  simp -implicitDefEqProofs only[Option.isSome_some,iff_true]
  exact List.mem_map.2 ⟨_,Cg h,rfl⟩
theorem Pd {α:Type}{l l':List α}(h1:l.Nodup)(h2:l'.Nodup)(h:∀x,x∈l↔x∈l'):l.length=l'.length:=((List.perm_ext_iff_of_nodup h1 h2).2 h).length_eq
def tA:ByteArray:=⟨#[97]⟩
def tB:ByteArray:=⟨#[98]⟩
def tX:ByteArray:=⟨#[120]⟩
def tY:ByteArray:=⟨#[121]⟩
def tZ:ByteArray:=⟨#[122]⟩
abbrev l1:List (ByteArray×ByteArray):=[(tA,tX),(tB,tY)]
abbrev l2:List (ByteArray×ByteArray):=[(tA,tZ)]
theorem SH.ext {H H':af}{b:Bk}{s:dy}{F:Nat→Prop}(h:SH H b s F)(hx:Ext H H'):SH H' b s F:=by
 obtain⟨im,pm,sa⟩:=h
 exact⟨im,pm,sa.jv (aB (F:=fun _=>False) hx) (fun _ _ _ h=>h)⟩
theorem bm.more {H H' wC:af}{G:Nat→Prop}(h:bm (fun _=>False) H H')(h':bm G H' wC)(hg:∀c,G c→H.length≤c):bm (fun _=>False) H wC:=h.trans h' fun c hc=>.inr (hg c hc)
theorem bm.ext {H H' wC:af}{F:Nat→Prop}(h:bm F H H')(h':Ext H' wC):bm F H wC:=h.trans (aB (F:=fun _=>False) h') fun c hc=>hc.elim
theorem gg {H H':af}(h:bm (fun _=>False) H H'):Ext H H':=nj fun c x hx=>h.get hx id
theorem li0 {k:SK}{a b c:List T}(h:a.length=5):dw 5 0 (.sl k [a,b,c])=some (.dk a):=by simp[dw,h]
theorem Z7 {k:SK}{a b c:List T}(h:b.length=5):dw 5 1 (.sl k [a,b,c])=some (.dk b):=by simp[dw,h]
end Go.Proofs.YtdcpehdijdllpaaGreat.St
end

section
namespace Go.Proofs.YtdcpehdijdllpaaGreat.St
open Go.Rmp Go.Proofs.YtdcpehdijdllpaaGreat.Ir
set_option maxRecDepth 10000
def aaI (c:Nat)(d':Array ByteArray)(H:af):Out→af→Prop:=fun o H'=>o=.val (.bJ [])∧H'[c]?=some (.cells (aE eS d'.toList))∧bm (fun x=>x=c) H H'
theorem rK {Hx:af}{c:Nat}(d:Array ByteArray){i j:Nat}(hi:i<d.size)(hj:j<d.size) :
  nV Hx c [.str d[j]!] (i*1) (some (.cells (aE eS d.toList)))=some (Hx.set c (.cells (aE eS (d.toList.set i d[j]!)))) ∧
  ∀Hy,nV Hy c [.str d[i]!] (j*1) (some (.cells (aE eS (d.toList.set i d[j]!))))=some (Hy.set c (.cells (aE eS (Go.Sort.swp d i j).toList))):=by
 have g1:=ke (enc:=eS) (n:=1) (y:=d[j]!) (fun _=>rfl) (jb hi) Hx c (eS d[j]!) 0 (by simp[eS]) (by simp[eS])
 obtain⟨z,hz⟩:=cw (l:=d.toList.set i d[j]!) (i:=j) (by simpa using hj)
 have g2:=fun Hy=>ke (enc:=eS) (n:=1) (y:=d[i]!) (fun _=>rfl) hz Hy c (eS d[i]!) 0 (by simp[eS]) (by simp[eS])
 refine⟨by simpa[eS]using g1,fun Hy=>?_⟩
 rw[xJ]
 simpa[eS]using g2 Hy
theorem zk {d:Array ByteArray}{i:Nat}(h:i<d.size):ph 1 (i*1) (some (.cells (aE eS d.toList)))=some [.str d[i]!]:=by
 have:=gb (enc:=eS) (n:=1) (fun _=>rfl) (jb h) 0 1 (by decide)
 simpa[eS]using this
open Go.Sort in
theorem Uh (c:Nat)(d:Array ByteArray)(a b:Nat)(H:af)(hc:H[c]?=some (.cells (aE eS d.toList)))(hb:b≤d.size)(gy:a≤b)(hs:d.size<4611686018427387903) :
  W env (.call 142 [.ax c 0 d.size 1,.int .i64 a,.int .i64 b]) H (aaI c (insertionSort strLt d a b) H):=by
 refine W.bU rfl rfl rfl ?_
 have wa:=aC (show a<9223372036854775807 by omega)
 simp -implicitDefEqProofs only[AD,op,ef,cl,sq,reduceIte,j2,j3,j4,j5,j6,j7,j8,j9,y1,S1,wa]
 refine W.cH (fun (i:Nat) R H'=>At H' (fun H'=>∃di:Array ByteArray,H'[c]?=some (.cells (aE eS di.toList))∧di.size=d.size∧insOuter strLt a b i di=insertionSort strLt d a b∧bm (fun x=>x=c) H H')∧R 0=.ax c 0 d.size 1∧R 1=.int .i64 a∧R 2=.int .i64 b∧R 6=.int .i64 i∧a+1≤i) (fun i=>b-i) (a+1) ⟨.i ⟨d,hc,rfl,rfl,bm.refl _ _⟩,rfl,rfl,rfl,rfl,Nat.le_refl _⟩ ?_
 rintro i R H1⟨⟨di,hd,a9,y8,au⟩,h0,h1,h2,h6,we⟩
 by_cases aw:i<b
 ·have wi:=aC (show i<9223372036854775807 by omega)
  simp -implicitDefEqProofs only[op,ef,cl,sq,reduceIte,j2,j3,j4,j5,j6,j7,j8,j9,y1,S1,h0,h1,h2,h6,aw]
  refine W.cP 2 (fun (j:Nat) R H'=>At H' (fun H'=>∃dj:Array ByteArray,H'[c]?=some (.cells (aE eS dj.toList))∧dj.size=d.size∧insInner strLt a j dj=insInner strLt a i di∧bm (fun x=>x=c) H H')∧R 0=.ax c 0 d.size 1∧R 1=.int .i64 a∧R 2=.int .i64 b∧R 6=.int .i64 i∧R 7=.int .i64 j∧j≤i) (fun j=>j) i
   (fun R H'=>At H' (fun H'=>∃dj:Array ByteArray,H'[c]?=some (.cells (aE eS dj.toList))∧dj.size=d.size∧dj=insInner strLt a i di∧bm (fun x=>x=c) H H')∧R 0=.ax c 0 d.size 1∧R 1=.int .i64 a∧R 2=.int .i64 b∧R 6=.int .i64 i) ?_ ?_ ?_
  ·refine⟨.i ⟨di,hd,a9,rfl,au⟩,?_,?_,?_,?_,?_,Nat.le_refl _⟩
   all_goals (simp -implicitDefEqProofs only[op,ef,cl,sq,reduceIte,j2,j3,j4,j5,j6,j7,j8,j9,y1,S1,h0,h1,h2,h6])
  ·rintro j R H2⟨⟨dj,cr,qe,rG,kf⟩,q0,q1,q2,q6,q7,Rt⟩
   by_cases OY:a<j
   ·obtain⟨j',rfl⟩:∃j',j=j'+1:=⟨j-1,by omega⟩
    have wp:IntKind.i64.wrap (((j'+1:Nat):Int)-1)=(j':Int):=by rw[wrap64 (by omega)];omega
    have j1:j'+1<d.size:=by omega
    have j0:j'<d.size:=by omega
    have i1:dw 1 (j'+1) (.ax c 0 d.size 1)=some (.ptr c ((j'+1)*1)):=by rw[fL];simp[j1]
    have i0:dw 1 j' (.ax c 0 d.size 1)=some (.ptr c (j'*1)):=by rw[fL];simp[j0]
    have v1:=zk (d:=dj) (i:=j'+1) (by omega)
    have v0:=zk (d:=dj) (i:=j') (by omega)
    simp -implicitDefEqProofs only[op,ef,cl,sq,reduceIte,j2,j3,j4,j5,j6,j7,j8,j9,y1,S1,q0,q1,q2,q6,q7,OY,aa,i1,i0,wp,cr,v1,v0]
    refine ae _ _ _ _ _ _ _ _ (dS dj[j'+1]! dj[j']! _) ?_
    rintro u H3⟨hu,rfl⟩
    cases hu
    have oh:=cr
    obtain⟨s1,s2⟩:=rK (Hx:=H3) (c:=c) dj (i:=j'+1) (j:=j') (by omega) (by omega)
    cases mV:strLt dj[j'+1]! dj[j']! with
    | true =>
     simp -implicitDefEqProofs only[op,ef,cl,sq,reduceIte,j2,j3,j4,j5,j6,j7,j8,j9,y1,S1,q0,q1,q2,q6,q7,aa,i1,i0,wp,oh,v1,v0,s1,S2,s2,aY oh]
     exact⟨j',by omega,.i ⟨swp dj (j'+1) j',bX (by rw[List.length_set];exact aY oh),by rw[swp_size];exact qe,by rw[←rG];conv=>{ rhs;rw[insInner,if_pos (by simp -implicitDefEqProofs only[Bool.and_eq_true,decide_eq_true_eq];exact⟨OY,mV⟩)] },(kf.set (.inl rfl) _).set (.inl rfl) _⟩,rfl,by omega⟩
    | false =>
     simp -implicitDefEqProofs only[op,ef,cl,sq,reduceIte,j2,j3,j4,j5,j6,j7,j8,j9,y1,S1,q0,q1,q2,q6,q7]
     exact .i ⟨dj,oh,qe,by rw[←rG,insInner];simp[mV],kf⟩
   ·simp -implicitDefEqProofs only[op,ef,cl,sq,reduceIte,j2,j3,j4,j5,j6,j7,j8,j9,y1,S1,q0,q1,q2,q6,q7,OY]
    refine .i ⟨dj,cr,qe,?_,kf⟩
    rw[←rG]
    cases j with
    | zero=>rfl
    | succ j=>rw[insInner,if_neg (by simp -implicitDefEqProofs only[Bool.and_eq_true,decide_eq_true_eq];omega)]
  ·rintro R H2⟨⟨dj,cr,qe,rG,kf⟩,q0,q1,q2,q6⟩
   simp -implicitDefEqProofs only[op,ef,cl,sq,reduceIte,j2,j3,j4,j5,j6,j7,j8,j9,y1,S1,q0,q1,q2,q6,wi]
   refine⟨i+1,by omega,.i ⟨dj,cr,qe,?_,kf⟩,rfl,by omega⟩
   rw[←y8,rG]
   conv=>rhs;rw[insOuter,if_pos aw]
 ·simp -implicitDefEqProofs only[op,ef,cl,sq,reduceIte,j2,j3,j4,j5,j6,j7,j8,j9,y1,S1,h0,h1,h2,h6,aw]
  rw[insOuter,if_neg aw]at y8
  subst y8
  exact⟨rfl,hd,au⟩
theorem mh:Go.Sort.SWO strLt where
 irrefl:=fk
 trans _ _ _ h1 h2:=eF h1 h2
 ntrans x y z h1 h2:=by
  cases h:strLt x z with
  | false=>rfl
  | true =>
   cases h3:strLt y x with
   | true=>rw[eF h3 h]at h2;cases h2
   | false=>have:=rq h1 h3;subst this;rw[h]at h2;cases h2
theorem Pe (H:af):W env (.call 142 [.sl .nil [],.int .i64 0,.int .i64 0]) H (oL (.bJ []) H):=by
 refine W.bU rfl rfl rfl ?_
 have wa:IntKind.i64.wrap ((0:Int)+1)=1:=by decide
 simp -implicitDefEqProofs only[AD,op,ef,cl,sq,reduceIte,j2,j3,j4,j5,j6,j7,j8,j9,y1,S1,wa]
 refine W.cH (fun (_:Nat) R H'=>H'=H∧R 2=.int .i64 0∧R 6=.int .i64 1) (fun _=>0) 0 ⟨rfl,rfl,rfl⟩ ?_
 rintro _ R _⟨rfl,h2,h6⟩
 have l0:¬((1:Int)<0):=by decide
 simp -implicitDefEqProofs only[op,ef,cl,sq,reduceIte,j2,j3,j4,j5,j6,j7,j8,j9,y1,S1,h2,h6,l0]
 trivial
theorem Pf (m:Nat)(H:af):W env (.call 122 [.sl .nil [],.int .i64 0,.int .i64 0,.int .i64 m]) H (oL (.bJ []) H):=by
 refine W.bU rfl rfl rfl ?_
 have w1:IntKind.i64.wrap ((0:Int)-0)=0:=by decide
 simp -implicitDefEqProofs only[eH,op,ef,cl,sq,reduceIte,j2,j3,j4,j5,j6,j7,j8,j9,y1,S1]
 refine W.cH (fun (_:Nat) R H'=>H'=H∧R 0=.sl .nil []∧R 1=.int .i64 0∧R 2=.int .i64 0) (fun _=>0) 0 ⟨rfl,rfl,rfl,rfl⟩ ?_
 rintro _ R _⟨rfl,h0,h1,h2⟩
 have l0:(0:Int)≤12:=by decide
 simp -implicitDefEqProofs only[op,ef,cl,sq,reduceIte,j2,j3,j4,j5,j6,j7,j8,j9,y1,S1,h0,h1,h2,w1,l0]
 refine ae _ _ _ _ _ _ _ _ (Pe _) ?_
 rintro u H2⟨hu,rfl⟩
 cases hu
 simp -implicitDefEqProofs only[op,ef,cl,sq,reduceIte,j2,j3,j4,j5,j6,j7,j8,j9,y1,S1]
 trivial
theorem Kz (H:af):W env (.call 99 [.sl .nil []]) H (oL (.bJ []) H):=by
 refine W.bU rfl rfl rfl ?_
 have w1:IntKind.u64.wrap ((0:Nat):Int)=((0:Nat):Int):=by decide
 have e0:((0:Nat):Int)=0:=rfl
 simp -implicitDefEqProofs only[J5,op,ef,cl,sq,reduceIte,j2,j3,j4,j5,j6,j7,j8,j9,y1,S1,w1]
 refine ae _ _ _ _ _ _ _ _ (TX 0 (by omega) _) ?_
 rintro u H1⟨rfl,m,hu⟩
 cases hu
 simp -implicitDefEqProofs only[op,ef,cl,sq,reduceIte,j2,j3,j4,j5,j6,j7,j8,j9,y1,S1,e0]
 refine ae _ _ _ _ _ _ _ _ (Pf m _) ?_
 rintro u H2⟨hu,rfl⟩
 cases hu
 simp -implicitDefEqProofs only[op,ef,cl,sq,reduceIte,j2,j3,j4,j5,j6,j7,j8,j9,y1,S1]
 trivial
def Pg (es:List (ByteArray×T))(H:af):Out→af→Prop:=fun o H'=>Ext H H'∧∃t l,o=.val t∧pS eS 1 H.length H' t l∧l.Perm (es.map (·.1))∧l.Pairwise (fun a b=>strLt a b=true)
def eL (x:ByteArray×Nat):List T:=[.str x.1,.int .u64 x.2]
def pW (s:dy)(l:List ByteArray):List (ByteArray×Nat):=l.map fun k=>(k,bN s k)
def Ph (s:dy)(H:af):Out→af→Prop:=fun o H'=>Ext H H'∧∃k l,iD k l∧o=.val (.sl k ((pW s l).map eL))∧l.Perm (s.ls.map (·.1))∧l.Pairwise (fun a b=>strLt a b=true)
end Go.Proofs.YtdcpehdijdllpaaGreat.St
end
