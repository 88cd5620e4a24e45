/- Part of a proof of a law of this seat: the machine of plain values, its simulation, and the contracts of the functions that the law reaches. Conditions: none beyond the given row. -/
import Derived.Test.YtdcpehdijdllpaaGreatM2
import Derived.Sort.AssemblyPlain
open Int renaming reduceLT → j2, reduceLE → j3, reduceBEq → j4, reduceBNe → j5, reduceEq → j6
open Nat renaming reduceAdd → j7, reduceLeDiff → j8, reduceLT → j9, reduceEqDiff → y1
set_option linter.unusedSimpArgs false
set_option linter.unusedVariables false
set_option linter.unnecessarySimpa false
set_option maxHeartbeats 4000000
section
namespace Go.Proofs.YtdcpehdijdllpaaGreat.St
open Go.Rmp Go.Proofs.YtdcpehdijdllpaaGreat.Ir
set_option maxRecDepth 10000
def dA.emp:dA:=⟨[],[],fun _=>[],fun _=>[],0⟩
theorem gQ.emp:gQ dA.emp:=⟨fun _ i j a b _ h=>by simp[dA.emp]at h,fun k n=>by simp[dA.emp,cN],fun _=>by simp[dA.emp],fun n k=>by simp[dA.emp,cN],by simp[dA.emp],fun m h hm=>by simp[dA.emp,cN]at hm,fun _=>by simp[dA.emp],fun _=>by simp[dA.emp],by simp[dA.emp]⟩
theorem abV (H:af):W env (.call 28 []) H (fun o H'=>Ext H H'∧∃b F,o=.val (.ptr b.s 0)∧SH H' b dA.emp F∧∀c,F c→H.length≤c∧c<H'.length):=by
 refine W.bu rfl rfl rfl ?_
 simp -implicitDefEqProofs only[Pn,op,ef,cl,sq,reduceIte,j2,j3,j4,j5,j6,j7,j8,j9,y1,S1,S3]
 refine⟨(((((Ext.rfl'.app _).app _).app _).app _).app _),⟨H.length+4,H.length,H.length+1,H.length+2,H.length+3⟩,fun c=>H.length≤c∧c<H.length+5,rfl,⟨[],[],?_⟩,fun c h=>⟨h.1,by have:=h.2;simp;omega⟩⟩
 refine⟨?_,?_,?_,?_,?_,by simp,by simp,by simp,by simp,by simp,by simp,by simp,fun _=>rfl,fun _=>rfl,fun k k' c h=>by simp[cN,eG]at h,fun k k' c h=>by simp[cN,eG]at h,fun k k' c h=>by simp[cN,eG]at h,by simp⟩
 ·rw[aK (by simp)]
 ·rw[aP (by simp<;>omega),aP (by simp<;>omega),aP (by simp<;>omega),aP (by simp),aK (by simp)];rfl
 ·rw[aP (by simp),aP (by simp),aP (by simp),aK (by simp)];rfl
 ·rw[aP (by simp),aP (by simp),aK (by simp)];rfl
 ·rw[aP (by simp),aK (by simp)];rfl
def qK (o:Option Hd):Hd:=o.getD ⟨⟨#[]⟩,.nil,[],0⟩
theorem zO (vs:List (Nm×Hd))(n:Nm):jI (aj (eE vs) n) (.agg [.str ⟨#[]⟩,.sl .nil [],.int .i64 0]) false=fD (qK (aj vs n)):=by
 unfold eE;rw[gv]
 cases aj vs n<;>rfl
def Vp (k:ByteArray)(n:Nat)(v:ByteArray)(kk:SK)(keys:List ByteArray):List T:=[.str k,.int .u64 n,.str v,.sl kk (keys.map eS)]
def abW (H:af)(k:ByteArray)(n:Nat)(h:Hd):Out→af→Prop:=fun o H'=>Ext H H'∧∃kk,gy kk h.keys∧o=.val (.agg (Vp k n h.value kk h.keys))
theorem C2 (b:Bk)(s:dA)(F:Nat→Prop)(k:ByteArray)(n:Nat)(H:af)(hs:SH H b s F)(hi:gQ s):W env (.call 62 [.ptr b.s 0,kN (k,n)]) H (abW H k n (qK (aj s.vs (k,n)))):=by
 obtain⟨im,pm,sa⟩:=hs
 have l0:=aM sa.hs
 have lv:=aM sa.hv
 have ke:=fun Hx z ok=>mh wh z ok Hx (eE s.vs) (k,n)
 simp -implicitDefEqProofs only[kN,eN]at ke
 have hh:=zO s.vs (k,n)
 obtain⟨h,uk⟩:∃h,h=qK (aj s.vs (k,n)):=⟨_,rfl⟩
 have jO:gy h.kk h.keys∧h.keys.length≤1024:=by
  rw[uk]
  cases e:aj s.vs (k,n)with
  | none=>exact⟨fun _=>rfl,by simp[qK]⟩
  | some h=>exact hi.Vl _ _ e
 rw[←uk]at hh ⊢
 refine W.bu rfl rfl rfl ?_
 simp -implicitDefEqProofs only[PS,kN,eN,op,ef,cl,sq,reduceIte,j2,j3,j4,j5,j6,j7,j8,j9,y1,S1,S2,S3,List.length_set,sa.hs,sa.hv,l0,lv,ke,hh,fD]
 refine ae _ _ _ _ _ _ _ _ (rh h.kk h.keys _ jO.1 (by omega)) ?_
 rintro u H2⟨hx,kk,bO,hu⟩
 cases hu
 have c0:H2[H.length]?=some (.cells [.str k,.int .u64 n]):=hx.get (by rw[aP (by simp<;>omega),aP (by simp),aK rfl])
 have c1:H2[H.length+1]?=some (.cells [.str ⟨#[]⟩,.int .u64 0,.str ⟨#[]⟩,.sl .nil []]):=hx.get (by rw[aP (by simp),aK (by simp)])
 have c2:H2[H.length+2]?=some (.cells [.str h.value,.sl h.kk (h.keys.map eS),.int .i64 h.aZ]):=hx.get (by rw[aK (by simp)])
 have k1:=aM c1
 simp -implicitDefEqProofs only[op,ef,cl,sq,reduceIte,j2,j3,j4,j5,j6,j7,j8,j9,y1,S1,c0,c1,c2,S2,k1]
 exact⟨((((Ext.rfl'.app _).app _).app _).trans hx).set (by omega) _,kk,bO,rfl⟩
theorem zP (ls:List (ByteArray×Nat))(k:ByteArray):aj (lF ls) k=(aj ls k).map fun n:Nat=>T.int .u64 n:=gv (fun n:Nat=>T.int .u64 n) ls k
def bT (s:dA)(k:ByteArray):Nat:=(aj s.ls k).getD 0
theorem oX (s:dA)(k:ByteArray):jI (aj (lF s.ls) k) (.int .u64 0) false=.int .u64 (bT s k):=by
 unfold bT;rw[zP]
 cases aj s.ls k<;>rfl
structure lH (s s':dA)(n:Nat)(l:List (ByteArray×ByteArray))(ks:List ByteArray)(now:Int)(fr:Bool):Prop where
 other:∀m:Nm,(m.2≠n∨m.1∉l.map (·.1))→aj s'.vs m=aj s.vs m
 kz:∀p∈l,∀h,aj s.vs (p.1,n)=some h→aj s'.vs (p.1,n)=some h
 new:∀p∈l,aj s.vs (p.1,n)=none→∃kk,gy kk ks∧aj s'.vs (p.1,n)=some ⟨p.2,kk,ks,if n<bT s p.1 then now else -1⟩
 fresh:fr=true↔∃p∈l,aj s.vs (p.1,n)=none
 ls:s'.ls=s.ls
theorem lH.nil (s:dA)(n:Nat)(ks:List ByteArray)(now:Int):lH s s n [] ks now false:=⟨fun _ _=>rfl,by simp,by simp,by simp,rfl⟩
theorem lH.there {s s':dA}{n:Nat}{l:List (ByteArray×ByteArray)}{ks:List ByteArray}{now:Int}{fr:Bool}(h:lH s s' n l ks now fr){p:ByteArray×ByteArray}{hd:Hd}(hp:p.1∉l.map (·.1))(ht:aj s'.vs (p.1,n)=some hd):lH s s' n (l++[p]) ks now fr:=by
 have e:=h.other (p.1,n) (.inr hp)
 rw[ht]at e
 refine⟨fun m hm=>h.other m ?_,fun q hq h' hh=>?_,fun q hq hn=>?_,?_,h.ls⟩
 ·simp -implicitDefEqProofs only[List.map_append,List.mem_append,not_or]at hm
  exact hm.imp id (·.1)
 ·rcases List.mem_append.1 hq with hq|hq
  ·exact h.kz q hq h' hh
  ·simp at hq;subst hq;rw[←e]at hh;rw[ht];exact hh
 ·rcases List.mem_append.1 hq with hq|hq
  ·exact h.new q hq hn
  ·simp at hq;subst hq;rw[←e]at hn;cases hn
 ·rw[h.fresh]
  constructor
  ·rintro⟨q,hq,hn⟩;exact⟨q,List.mem_append_left _ hq,hn⟩
  ·rintro⟨q,hq,hn⟩
   rcases List.mem_append.1 hq with hq|hq
   ·exact⟨q,hq,hn⟩
   ·simp at hq;subst hq;rw[←e]at hn;cases hn
theorem lH.add {s s' s2:dA}{n:Nat}{l:List (ByteArray×ByteArray)}{ks:List ByteArray}{now:Int}{fr:Bool}(h:lH s s' n l ks now fr){p:ByteArray×ByteArray}{kk:SK}(hp:p.1∉l.map (·.1))(bO:gy kk ks)(ht:aj s'.vs (p.1,n)=none)
  (hv:s2.vs=cy s'.vs (p.1,n) ⟨p.2,kk,ks,if n<bT s p.1 then now else -1⟩) (hl:s2.ls=s'.ls):lH s s2 n (l++[p]) ks now true:=by
 have e:=h.other (p.1,n) (.inr hp)
 rw[ht]at e
 have key:∀q∈l,(q.1,n)≠(p.1,n):=fun q hq hh=>hp (List.mem_map.2 ⟨q,hq,(Prod.mk.inj hh).1⟩)
 refine⟨fun m hm=>?_,fun q hq h' hh=>?_,fun q hq hn=>?_,⟨fun _=>⟨p,by simp,e.symm⟩,fun _=>rfl⟩,hl.trans h.ls⟩
 ·simp -implicitDefEqProofs only[List.map_append,List.mem_append,not_or]at hm
  rw[hv,br,if_neg]
  ·exact h.other m (hm.imp id (·.1))
  ·rintro rfl
   rcases hm with hm|hm
   ·exact hm rfl
   ·exact hm.2 (by simp)
 ·rw[hv,br]
  rcases List.mem_append.1 hq with hq|hq
  ·rw[if_neg (key q hq)];exact h.kz q hq h' hh
  ·simp at hq;subst hq;rw[←e]at hh;cases hh
 ·rw[hv,br]
  rcases List.mem_append.1 hq with hq|hq
  ·rw[if_neg (key q hq)];exact h.new q hq hn
  ·simp at hq;subst hq;rw[if_pos rfl];exact⟨kk,bO,rfl⟩
theorem sI {n:Nat}{l:List (ByteArray×ByteArray)}{ks:List ByteArray}(h:ja n l ks):∀(i j:Nat) p q,i<j→l[i]?=some p→l[j]?=some q→strLt p.1 q.1=true
 | i,0,_,_,sH,_,_=>by omega
 | i,j+1,p,q,sH,hp,hq=>by
  have hj:=(List.getElem?_eq_some_iff.1 hq).1
  obtain⟨r,hr⟩:=bK (l:=l) (i:=j) (by omega)
  have h1:=(h.2.2.2 (j+1) hj q hq).1 (by omega) r (by simpa using hr)
  by_cases e:i=j
  ·subst e;rw[hp]at hr;cases hr;exact h1
  ·exact dS (sI h i j p r (by omega) hp hr) h1
def ba (n:Int):Prop:=0≤n∧n≤1099511627776
def abX (b:Bk)(s:dA)(F:Nat→Prop)(n:Nat)(l:List (ByteArray×ByteArray))(ks:List ByteArray)(now:Int)(H:af):Out→af→Prop:=fun o H' =>
 ∃s' F' fr,o=.val (.bJ [.bool fr,.int .i64 0])∧SH H' b s' F'∧gQ s'∧lH s s' n l ks now fr∧s'.n≤s.n+l.length∧a9 F H H'∧∀c,F' c→F c∨(H.length≤c∧c<H'.length)
theorem Vq (b:Bk)(s:dA)(F:Nat→Prop)(n:Nat)(k k':SK)(l:List (ByteArray×ByteArray))(ks:List ByteArray)(now:Int)(H:af)(hs:SH H b s F)(hi:gQ s)(hn:s.n+l.length≤8000000)(jO:gy k' ks)(hm:ja n l ks)(ht:ba now) :
  W env (.call 23 [.ptr b.s 0,.int .u64 n,.sl k (l.map eP),.sl k' (ks.map eS),.int .i64 now]) H (abX b s F n l ks now H):=by
 have En:=hm.2.1.2.2
 refine W.bu rfl rfl rfl ?_
 simp -implicitDefEqProofs only[K7,op,ef,cl,sq,reduceIte,j2,j3,j4,j5,j6,j7,j8,j9,y1,S1]
 refine ae _ _ _ _ _ _ _ _ (Ny n k k' l ks _ (by omega) (by omega)) ?_
 rintro u H1⟨dr,bb,hu,hb⟩
 have K3:bb=true:=hb.2 hm
 subst K3
 cases hu
 simp -implicitDefEqProofs only[op,ef,cl,sq,reduceIte,j2,j3,j4,j5,j6,j7,j8,j9,y1,S1]
 refine ae _ _ _ _ _ _ _ _ (sG now _) ?_
 rintro u H1⟨hu,rfl⟩
 have zQ:(decide (0≤now)&&decide (now≤1099511627776))=true:=by simp[ht.1,ht.2]
 rw[zQ]at hu
 cases hu
 simp -implicitDefEqProofs only[op,ef,cl,sq,reduceIte,j2,j3,j4,j5,j6,j7,j8,j9,y1,S1,List.length_map]
 refine W.cK (fun (i:Nat) R H'=>At H' (fun H'=>∃s' F' fr,R 12=.bool fr∧SH H' b s' F'∧gQ s'∧lH s s' n (l.take i) ks now fr∧s'.n≤s.n+i∧a9 F H H'∧∀c,F' c→F c∨(H.length≤c∧c<H'.length))∧R 0=.ptr b.s 0∧R 1=.int .u64 n∧R 3=.sl k' (ks.map eS)∧R 4=.int .i64 now∧R 29=.sl k (l.map eP)∧R 30=.int .i64 l.length∧R 31=.int .i64 i∧i≤l.length) (fun i=>l.length-i) 0 ?_ ?_
 ·obtain⟨im,pm,sa⟩:=hs
  refine⟨.i ⟨s,F,false,rfl,⟨im,pm,sa.jL (ax (F:=fun _=>False) dr) (fun _ _ _ h=>h)⟩,hi,by rw[List.take_zero];exact lH.nil s n ks now,Nat.le_refl _,ax dr,fun c h=>.inl h⟩,rfl,rfl,rfl,rfl,rfl,rfl,rfl,Nat.zero_le _⟩
 rintro i R H2⟨⟨s',F',fr,aB,KP,hiv,ni,tF,ar,hF⟩,h0,h1,h3,h4,h29,X2,X3,l3⟩
 by_cases al:i<l.length
 ·obtain⟨p,hp⟩:=bK al
  have ws:=av (show i<9223372036854775807 by omega)
  have xi:=fj (e:=eP) (n:=2) (fun _=>rfl) (by decide) (k:=k) hp
  have XU:p.1∉(l.take i).map (·.1):=fun hh=>by
   obtain⟨q,hq,e⟩:=List.mem_map.1 hh
   obtain⟨j,hj,e2⟩:=List.getElem_of_mem hq
   have Ln:j<i∧j<l.length:=by simp -implicitDefEqProofs only[List.length_take]at hj;omega
   have hqj:l[j]?=some q:=by rw[←e2];simp[List.getElem?_eq_getElem Ln.2]
   have:=sI hm j i q p Ln.1 hqj hp
   rw[e,dY]at this;cases this
  obtain⟨im,pm,sa⟩:=KP
  have l0:=aM sa.hs
  have lv:=aM sa.hv
  have ll:=aM sa.hl
  have NC:b.s<H2.length+1:=by omega
  have X4:b.s<H2.length+2:=by omega
  have X5:b.l<H2.length+1:=by omega
  have X6:b.l<H2.length+2:=by omega
  have lv1:b.v<H2.length+1:=by omega
  have ke:=fun Hx z ok=>mh wh z ok Hx (eE s'.vs) (p.1,n)
  simp -implicitDefEqProofs only[kN,eN]at ke
  have qd:jI (aj (eE s'.vs) (p.1,n)) (.agg [.str ⟨#[]⟩,.sl .nil [],.int .i64 0]) true=.bJ [fD (qK (aj s'.vs (p.1,n))),.bool (aj s'.vs (p.1,n)).isSome]:=by
   unfold eE;rw[gv]
   cases aj s'.vs (p.1,n)<;>rfl
  have tn:=oX s' p.1
  have C3:∀k,bT s' k=bT s k:=fun k=>by simp -implicitDefEqProofs only[bT,ni.ls]
  rw[C3]at tn
  cases e:aj s'.vs (p.1,n)with
  | some h =>
   rw[e]at qd
   simp -implicitDefEqProofs only[Option.isSome_some]at qd
   simp -implicitDefEqProofs only[op,ef,cl,sq,reduceIte,j2,j3,j4,j5,j6,j7,j8,j9,y1,S1,S2,S3,List.length_set,h0,h1,h3,h4,h29,X2,X3,al,aa,xi,eP,sa.hs,sa.hv,l0,lv,ke,qd,fD,ws]
   exact⟨i+1,by omega,.i ⟨s',F',fr,aB,⟨im,pm,sa.jL (ax (F:=fun _=>False) (((Ext.rfl'.app _).app _).app _)) (fun _ _ _ h=>h)⟩,hiv,by rw[bN hp];exact ni.there XU e,by omega,((ar.app _).app _).app _,fun c h=>(hF c h).imp id fun h=>⟨h.1,by have:=h.2;simp;omega⟩⟩,rfl,by omega⟩
  | none =>
   rw[e]at qd
   simp -implicitDefEqProofs only[Option.isSome_none]at qd
   by_cases eQ:n<bT s p.1
   all_goals
    simp -implicitDefEqProofs only[op,ef,cl,sq,reduceIte,j2,j3,j4,j5,j6,j7,j8,j9,y1,S1,S2,S3,List.length_set,h0,h1,h3,h4,h29,X2,X3,al,aa,xi,eP,sa.hs,sa.hv,sa.hl,l0,NC,X4,lv,lv1,ll,X5,X6,ke,qd,fD,fQ,tn,eQ]
    refine ae _ _ _ _ _ _ _ _ (rh k' ks _ jO (by omega)) ?_
    rintro u H3⟨hx,kk,bO,hu⟩
    cases hu
    have c0:H3[H2.length]?=some (.cells [.str p.1,.str p.2]):=hx.get (by rw[aP (by simp<;>omega),aP (by simp),aK rfl])
    have c1:H3[H2.length+1]?=some (.cells [.str p.1,.int .u64 n]):=hx.get (by rw[aP (by simp),aK (by simp)])
    have Bx:Ext H2 H3:=((((Ext.rfl'.app _).app _).app _).trans hx)
    simp -implicitDefEqProofs only[op,ef,cl,sq,reduceIte,j2,j3,j4,j5,j6,j7,j8,j9,y1,S1,c0,c1]
    refine ae _ _ _ _ _ _ _ _ (NA b s' F' p.1 n ⟨p.2,kk,ks,_⟩ _ ⟨im,pm,sa.jL (ax (F:=fun _=>False) Bx) (fun _ _ _ h=>h)⟩ hiv e (by omega) ⟨bO,by omega⟩) ?_
    rintro u H4⟨hu,s2,F2,ab0,ab1,jk,Jt,DI,kZ,hF2⟩
    cases hu
    have hpa:lH s s2 n (l.take i++[p]) ks now true:=ni.add (kk:=kk) XU bO e (by first|rw[if_pos eQ];exact jk|rw[if_neg eQ];exact jk) Jt
    rw[←bN hp]at hpa
    simp -implicitDefEqProofs only[op,ef,cl,sq,reduceIte,j2,j3,j4,j5,j6,j7,j8,j9,y1,S1,h0,h1,h3,h4,h29,X2,X3,ws]
    exact⟨i+1,by omega,.i ⟨s2,F2,true,rfl,ab0,ab1,hpa,by omega,(ar.trans (ax (F:=fun _=>False) Bx) (fun c h=>h.elim)).trans kZ (fun c h=>(hF c h).imp id (·.1)),fun c h=>by
     have q1:=ar.1
     have q2:=Bx.len
     have q3:=kZ.1
     rcases hF2 c h with h|h
     ·rcases hF c h with h|h
      ·exact .inl h
      ·exact .inr ⟨h.1,by omega⟩
     ·exact .inr ⟨by omega,h.2⟩⟩,rfl,by omega⟩
 ·have nU:i=l.length:=by omega
  subst nU
  rw[List.take_length]at ni
  simp -implicitDefEqProofs only[op,ef,cl,sq,reduceIte,j2,j3,j4,j5,j6,j7,j8,j9,y1,S1,aB,X2,X3,al]
  exact⟨s',F',fr,rfl,KP,hiv,ni,tF,ar,hF⟩
theorem u3.ab2 {H:af}{b:Bk}{im:List (ByteArray×T)}{pm:List (Nat×T)}{s:dA}{F:Nat→Prop}(h:u3 H b im pm s F)(vs:List (Nm×Hd)):u3 (H.set b.v (.map (bh kN (eE vs)))) b im pm { s with vs:=vs } F:=by
 obtain⟨n1,n2,n3,n4⟩:=h.ne
 have k:∀{c x},c≠b.v→H[c]?=some x→(H.set b.v (.map (bh kN (eE vs))))[c]?=some x:=fun hc hx=>by rw[bl (Ne.symm hc)];exact hx
 exact⟨k (Ne.symm n1) h.hs,bR (aM h.hv),k (Ne.symm h.vi) h.hi,k (Ne.symm h.vp) h.hp,k (Ne.symm h.vl) h.hl,h.vi,h.vp,h.vl,h.ip,h.il,h.pl,h.F0,
  fun q=>(h.oi q).dV (fun c x hc hx=>k (h.jK hc).2.1 hx) (fun _ _ h=>h),fun q=>(h.op q).dV (fun c x hc hx=>k (h.lG hc).2.1 hx) (fun _ _ h=>h),h.si,h.sp,h.sx,h.np⟩
theorem u3.Vr {H:af}{b:Bk}{im:List (ByteArray×T)}{pm:List (Nat×T)}{s:dA}{F:Nat→Prop}(h:u3 H b im pm s F)(ls:List (ByteArray×Nat)):u3 (H.set b.l (.map (bh T.str (lF ls)))) b im pm { s with ls:=ls } F:=by
 obtain⟨n1,n2,n3,n4⟩:=h.ne
 have k:∀{c x},c≠b.l→H[c]?=some x→(H.set b.l (.map (bh T.str (lF ls))))[c]?=some x:=fun hc hx=>by rw[bl (Ne.symm hc)];exact hx
 exact⟨k (Ne.symm n4) h.hs,k h.vl h.hv,k h.il h.hi,k h.pl h.hp,bR (aM h.hl),h.vi,h.vp,h.vl,h.ip,h.il,h.pl,h.F0,
  fun q=>(h.oi q).dV (fun c x hc hx=>k (h.jK hc).2.2.2.2.1 hx) (fun _ _ h=>h),fun q=>(h.op q).dV (fun c x hc hx=>k (h.lG hc).2.2.2.2.1 hx) (fun _ _ h=>h),h.si,h.sp,h.sx,h.np⟩
def stamped (h:Hd)(now:Int):Hd:={ h with aZ:=now }
def VS (v v':List (Nm×Hd))(now:Int)(S:Nm→Prop):Prop:=(v'.map (·.1)).Nodup∧∀m,(aj v m=none→aj v' m=none)∧∀h,aj v m=some h→(S m∧h.aZ=-1→aj v' m=some (stamped h now))∧(¬(S m∧h.aZ=-1)→aj v' m=some h)
theorem VS.some {v v':List (Nm×Hd)}{now:Int}{S:Nm→Prop}(h:VS v v' now S)(m:Nm):(aj v' m).isSome=(aj v m).isSome:=by
 obtain⟨h1,h2⟩:=h.2 m
 cases e:aj v m with
 | none=>rw[h1 e]
 | some x =>
  by_cases hc:S m∧x.aZ=-1
  ·rw[(h2 x e).1 hc];rfl
  ·rw[(h2 x e).2 hc]
theorem VS.inv {s:dA}(hi:gQ s){v':List (Nm×Hd)}{now:Int}{S:Nm→Prop}(h:VS s.vs v' now S)(ls:List (ByteArray×Nat))(Jt:(ls.map (·.1)).Nodup):gQ { s with vs:=v',ls:=ls }:=by
 refine⟨hi.yq,fun k n=>?_,hi.Qm,fun n k=>?_,h.1,fun m x hm=>?_,hi.bi,hi.bp,Jt⟩
 ·show n∈s.ids k↔(aj v' (k,n)).isSome=true
  rw[h.some];exact hi.Jq k n
 ·show k∈s.dc n↔(aj v' (k,n)).isSome=true
  rw[h.some];exact hi.Lk n k
 ·have hm:aj v' m=.some x:=hm
  obtain⟨h1,h2⟩:=h.2 m
  cases e:aj s.vs m with
  | none=>rw[h1 e]at hm;cases hm
  | some y =>
   have hy:=hi.Vl m y e
   by_cases hc:S m∧y.aZ=-1
   ·rw[(h2 y e).1 hc]at hm;cases hm;exact hy
   ·rw[(h2 y e).2 hc]at hm;cases hm;exact hy
theorem VS.nil {v:List (Nm×Hd)}(hn:(v.map (·.1)).Nodup){now:Int}:VS v v now (fun _=>False):=⟨hn,fun m=>⟨id,fun h e=>⟨fun hh=>hh.1.elim,fun _=>e⟩⟩⟩
theorem VS.mono {v v':List (Nm×Hd)}{now:Int}{S S':Nm→Prop}(h:VS v v' now S)(hs:∀m,(aj v m).isSome=true→(S m↔S' m)):VS v v' now S':=⟨h.1,fun m=>⟨(h.2 m).1,fun x e=>by
 have:=hs m (by rw[e];rfl)
 rw[←this];exact(h.2 m).2 x e⟩⟩
theorem VS.add {v v':List (Nm×Hd)}{now:Int}{S:Nm→Prop}(h:VS v v' now S){m:Nm}{x:Hd}(hx:aj v' m=.some x)(hc:x.aZ=-1)(hS:¬S m):VS v (cy v' m (stamped x now)) now (fun m'=>S m'∨m'=m):=by
 refine⟨dn h.1 _ _,fun m'=>?_⟩
 rw[br]
 by_cases e:m'=m
 ·subst e
  simp -implicitDefEqProofs only[if_true]
  have e2:=h.some m'
  rw[hx]at e2
  refine⟨fun hn=>(by rw[hn]at e2;cases e2),fun y hy=>?_⟩
  have:y=x:=by
   have:=((h.2 m').2 y hy).2 fun hh=>hS hh.1
   rw[hx]at this;exact(Option.some.inj this).symm
  subst this
  exact⟨fun _=>rfl,fun hh=>absurd ⟨.inr trivial,hc⟩ hh⟩
 ·simp -implicitDefEqProofs only[e,if_false,or_false]
  exact h.2 m'
theorem VS.skip {v v':List (Nm×Hd)}{now:Int}{S:Nm→Prop}(h:VS v v' now S){m:Nm}{x:Hd}(hx:aj v' m=.some x)(hc:x.aZ≠-1)(hS:¬S m):VS v v' now (fun m'=>S m'∨m'=m):=by
 refine⟨h.1,fun m'=>⟨(h.2 m').1,fun y hy=>?_⟩⟩
 by_cases e:m'=m
 ·subst e
  have:=((h.2 m').2 y hy).2 fun hh=>hS hh.1
  have e2:y=x:=by rw[hx]at this;exact(Option.some.inj this).symm
  subst e2
  exact⟨fun hh=>absurd hh.2 hc,fun _=>hx⟩
 ·simp -implicitDefEqProofs only[e,or_false]
  exact(h.2 m').2 y hy
structure tV (s s':dA)(n:Nat)(now:Int)(D:List ByteArray):Prop where
 vs:VS s.vs s'.vs now (fun m=>m.1∈D∧bT s m.1<n∧m.2<n)
 on:∀k,k∈D→bT s k<n→aj s'.ls k=.some n
 off:∀k,¬(k∈D∧bT s k<n)→aj s'.ls k=aj s.ls k
 zN:(s.ls.map (·.1)).Nodup→(s'.ls.map (·.1)).Nodup
def ab3 (b:Bk)(s:dA)(F:Nat→Prop)(n:Nat)(now:Int)(H:af):Out→af→Prop:=fun o H'=>∃s',o=.val (.bJ [.int .i64 (s.dc n).length,.int .i64 0])∧SH H' b s' F∧gQ s'∧tV s s' n now (s.dc n)∧s'.n=s.n∧s'.dc=s.dc∧s'.ids=s.ids∧a9 F H H'
theorem tV.skip {s s':dA}{n:Nat}{now:Int}{D:List ByteArray}(h:tV s s' n now D){k:ByteArray}(hk:n≤bT s k):tV s s' n now (D++[k]):=by
 have key:∀k',k'∈D++[k]∧bT s k'<n→k'∈D:=fun k' hh=>by
  rcases List.mem_append.1 hh.1 with h|h
  ·exact h
  ·simp at h;subst h;omega
 exact⟨h.vs.mono fun m _=>⟨fun hh=>⟨List.mem_append_left _ hh.1,hh.2⟩,fun hh=>⟨key _ ⟨hh.1,hh.2.1⟩,hh.2⟩⟩,fun k' h1 h2=>h.on k' (key _ ⟨h1,h2⟩) h2,fun k' hh=>h.off k' fun h'=>hh ⟨List.mem_append_left _ h'.1,h'.2⟩,h.zN⟩
theorem tV.add {s s' s2:dA}{n:Nat}{now:Int}{D:List ByteArray}(h:tV s s' n now D){k:ByteArray}(hk:bT s k<n)(hl:s2.ls=cy s'.ls k n)
  (hv:VS s.vs s2.vs now (fun m=>(m.1∈D∧bT s m.1<n∧m.2<n)∨(m.1=k∧m.2<n))):tV s s2 n now (D++[k]):=by
 refine⟨hv.mono fun m _=>?_,fun k' h1 h2=>?_,fun k' hh=>?_,fun hh=>by rw[hl];exact dn (h.zN hh) _ _⟩
 ·simp -implicitDefEqProofs only[List.mem_append,List.mem_singleton]
  constructor
  ·rintro (⟨a,b,c⟩|⟨a,c⟩)
   ·exact⟨.inl a,b,c⟩
   ·exact⟨.inr a,by rw[a];exact hk,c⟩
  ·rintro⟨a|a,b,c⟩
   ·exact .inl ⟨a,b,c⟩
   ·exact .inr ⟨a,c⟩
 ·rw[hl,br]
  by_cases e:k'=k
  ·rw[if_pos e]
  ·rw[if_neg e];exact h.on k' (by simpa[e]using h1) h2
 ·rw[hl,br,if_neg]
  ·exact h.off k' fun h'=>hh ⟨List.mem_append_left _ h'.1,h'.2⟩
  ·rintro rfl;exact hh ⟨by simp,hk⟩
theorem Ho (b:Bk)(s:dA)(F:Nat→Prop)(n:Nat)(now:Int)(H:af)(hs:SH H b s F)(hi:gQ s)(hn:s.n≤8000000)(Qn:65536≤n)(ht:ba now) :
  W env (.call 24 [.ptr b.s 0,.int .u64 n,.int .i64 now]) H (ab3 b s F n now H):=by
 obtain⟨im,pm,sa⟩:=hs
 have ab4:¬(n<65536):=by omega
 obtain⟨t,zQ⟩:∃t,jI (aj pm n) (.sl .nil []) false=t:=⟨_,rfl⟩
 have al:=((sa.op n).mut).len
 rw[zQ]at al
 have hbp:=hi.bp n
 refine W.bu rfl rfl rfl ?_
 simp -implicitDefEqProofs only[Gq,op,ef,cl,sq,reduceIte,j2,j3,j4,j5,j6,j7,j8,j9,y1,S1,ab4]
 refine ae _ _ _ _ _ _ _ _ (sG now _) ?_
 rintro u H⟨hu,rfl⟩
 have zL:(decide (0≤now)&&decide (now≤1099511627776))=true:=by simp[ht.1,ht.2]
 rw[zL]at hu
 cases hu
 simp -implicitDefEqProofs only[op,ef,cl,sq,reduceIte,j2,j3,j4,j5,j6,j7,j8,j9,y1,S1,sa.hs,sa.hp,mj,zQ]
 have hl:=fun Hx (h:iA eS 1 0 Hx t (s.dc n))=>h.len
 have hlH:∀Hx,jE Hx .sl t=some (s.dc n).length:=fun Hx=>by
  have:=(sa.op n).mut
  rw[zQ]at this
  rcases this with⟨e,rfl⟩|⟨c,rfl,_,_⟩
  ·rw[e];rfl
  ·rfl
 simp -implicitDefEqProofs only[op,ef,cl,sq,reduceIte,j2,j3,j4,j5,j6,j7,j8,j9,y1,S1,hlH]
 refine W.cK (fun (i:Nat) R H'=>At H' (fun H'=>∃s',u3 H' b im pm s' F∧s'.n=s.n∧s'.dc=s.dc∧s'.ids=s.ids∧tV s s' n now ((s.dc n).take i)∧a9 F H H')∧R 0=.ptr b.s 0∧R 1=.int .u64 n∧R 2=.int .i64 now∧R 25=t∧R 26=.int .i64 (s.dc n).length∧R 27=.int .i64 i∧i≤(s.dc n).length) (fun i=>(s.dc n).length-i) 0 ?_ ?_
 ·refine⟨.i ⟨s,sa,rfl,rfl,rfl,⟨(VS.nil hi.nd).mono fun m _=>⟨fun h=>h.elim,fun h=>by simp at h⟩,by simp,fun _ _=>rfl,id⟩,a9.refl _ _⟩,?_,?_,?_,?_,?_,?_,Nat.zero_le _⟩
  all_goals (simp -implicitDefEqProofs only[op,ef,cl,sq,reduceIte,j2,j3,j4,j5,j6,j7,j8,j9,y1,S1];try rfl)
 rintro i R H2⟨⟨s',Ju,y0,y7,Lo,tM,ar⟩,h0,h1,h2,h25,X7,X8,l3⟩
 by_cases al:i<(s.dc n).length
 ·obtain⟨k,hk⟩:=bK al
  have ws:=av (show i<9223372036854775807 by omega)
  have BB:iA eS 1 0 H2 t (s.dc n):=by
   have:=(Ju.op n).mut
   rwa[zQ,y7]at this
  obtain⟨c,g1,g2,g3⟩:=qc (enc:=eS) (fun _=>rfl) BB hk
  have qe:k∉(s.dc n).take i:=fun hh=>by
   obtain⟨j,hj,e2⟩:=List.getElem_of_mem hh
   have Ln:j<i∧j<(s.dc n).length:=by simp -implicitDefEqProofs only[List.length_take]at hj;omega
   have T2:(s.dc n)[j]?=some k:=by rw[←e2];simp[List.getElem?_eq_getElem Ln.2]
   have:=(List.getElem?_inj Ln.2 (hi.Qm n)).1 (T2.trans hk.symm)
   omega
  have ke:=oX s' k
  have Jt:bT s' k=bT s k:=by unfold bT;rw[tM.off k fun h=>qe h.1]
  rw[Jt]at ke
  by_cases dJ:n≤bT s k
  ·simp -implicitDefEqProofs only[op,ef,cl,sq,reduceIte,j2,j3,j4,j5,j6,j7,j8,j9,y1,S1,h0,h1,h2,h25,X7,X8,al,aa,g1,g2,g3,eS,Ju.hs,Ju.hl,fQ,ke,dJ,ws]
   exact⟨i+1,by omega,.i ⟨s',Ju,y0,y7,Lo,by rw[bN hk];exact tM.skip dJ,ar⟩,rfl,by omega⟩
  ·have ab6:bT s k<n:=by omega
   have ab7:∀Hx,x8 (.sc .str) Hx b.l (some (.map (bh T.str (lF s'.ls)))) (.str k) (.int .u64 n)=some (b7,Hx.set b.l (.map (bh T.str (lF (cy s'.ls k n))))):=fun Hx=>by
    rw[nT];congr 4;exact congrArg (bh T.str) (oV (fun n:Nat=>T.int .u64 n) s'.ls k n)
   have BD:=Ju.Vr (cy s'.ls k n)
   obtain⟨t2,Qo⟩:∃t2,jI (aj im k) (.sl .nil []) false=t2:=⟨_,rfl⟩
   have Vs:∀Hx,jE Hx .sl t2=some (s.ids k).length:=fun Hx=>by
    have:=(sa.oi k).mut
    rw[Qo]at this
    rcases this with⟨e,rfl⟩|⟨c,rfl,_,_⟩
    ·rw[e];rfl
    ·rfl
   simp -implicitDefEqProofs only[op,ef,cl,sq,reduceIte,j2,j3,j4,j5,j6,j7,j8,j9,y1,S1,h0,h1,h2,h25,X7,X8,al,aa,g1,g2,g3,eS,Ju.hs,Ju.hl,fQ,ke,dJ,ab7,BD.hs,BD.hi,Qo,Vs]
   refine W.cT 2 (fun (j:Nat) R H'=>At H' (fun H'=>∃v',u3 H' b im pm { s' with vs:=v',ls:=cy s'.ls k n } F∧VS s.vs v' now (fun m=>(m.1∈(s.dc n).take i∧bT s m.1<n∧m.2<n)∨(m.1=k∧m.2∈(s.ids k).take j))∧a9 F H H')∧R 0=.ptr b.s 0∧R 1=.int .u64 n∧R 2=.int .i64 now∧R 9=.str k∧R 25=t∧R 26=.int .i64 (s.dc n).length∧R 27=.int .i64 i∧R 50=t2∧R 51=.int .i64 (s.ids k).length∧R 52=.int .i64 j∧j≤(s.ids k).length∧∀p a,p<j→(s.ids k)[p]?=some a→a<n) (fun j=>(s.ids k).length-j) 0
    (fun R H'=>At H' (fun H'=>∃v',u3 H' b im pm { s' with vs:=v',ls:=cy s'.ls k n } F∧VS s.vs v' now (fun m=>(m.1∈(s.dc n).take i∧bT s m.1<n∧m.2<n)∨(m.1=k∧m.2<n))∧a9 F H H')∧R 0=.ptr b.s 0∧R 1=.int .u64 n∧R 2=.int .i64 now∧R 25=t∧R 26=.int .i64 (s.dc n).length∧R 27=.int .i64 i) ?_ ?_ ?_
   ·refine⟨.i ⟨s'.vs,BD,tM.vs.mono fun m _=>⟨.inl,fun h=>h.elim id fun h=>by simp at h⟩,ar.set (.inl sa.F0.2.2.2.2) _⟩,?_,?_,?_,?_,?_,?_,?_,?_,?_,?_,Nat.zero_le _,fun p a h=>by omega⟩
    all_goals (simp -implicitDefEqProofs only[op,ef,cl,sq,reduceIte,j2,j3,j4,j5,j6,j7,j8,j9,y1,S1,h0,h1,h2,h25,X7,X8,Vs];try rfl)
   ·rintro j R H3⟨⟨v',C4,jk,C5⟩,q0,q1,q2,q9,SA,SB,SD,X9,Ya,Yb,Sg,bB⟩
    by_cases hj:j<(s.ids k).length
    ·obtain⟨o,ho⟩:=bK hj
     have wj:=av (show j<9223372036854775807 by have:=hi.bi k;omega)
     have Lm:iA eU 1 0 H3 t2 (s.ids k):=by
      have:=(C4.oi k).mut
      simp -implicitDefEqProofs only[Lo]at this
      rwa[Qo]at this
     obtain⟨c2,e1,e2,e3⟩:=qc (enc:=eU) (fun _=>rfl) Lm ho
     by_cases Si:n≤o
     ·simp -implicitDefEqProofs only[op,ef,cl,sq,reduceIte,j2,j3,j4,j5,j6,j7,j8,j9,y1,S1,q0,q1,q2,q9,SA,SB,SD,X9,Ya,Yb,hj,aa,e1,e2,e3,eU,Si]
      refine⟨v',C4,jk.mono fun m hm=>?_,C5⟩
      refine or_congr Iff.rfl ⟨fun ⟨a1,a2⟩=>⟨a1,?_⟩,fun ⟨a1,a2⟩=>⟨a1,?_⟩⟩
      ·obtain⟨p,hp,e⟩:=List.getElem_of_mem a2
       have tI:p<j∧p<(s.ids k).length:=by simp -implicitDefEqProofs only[List.length_take]at hp;omega
       exact bB p m.2 tI.1 (by rw[←e];simp[List.getElem?_eq_getElem tI.2])
      ·have iP:=(hi.Jq k m.2).2 (by rw[←a1];exact hm)
       obtain⟨p,hp,e⟩:=List.getElem_of_mem iP
       have SE:(s.ids k)[p]?=some m.2:=by rw[List.getElem?_eq_getElem hp,e]
       rcases Nat.lt_trichotomy p j with h|h|h
       ·exact List.mem_of_getElem? (i:=p) (by rw[List.getElem?_take,if_pos h];exact SE)
       ·subst h;rw[ho]at SE;cases SE;omega
       ·have:=hi.yq k j p o m.2 h ho SE;omega
     ·have uC:=(hi.Jq k o).1 (List.mem_of_getElem? ho)
      rw[←jk.some]at uC
      obtain⟨x,hx⟩:=Option.isSome_iff_exists.1 uC
      have qd:=zO v' (k,o)
      rw[hx]at qd
      have Qp:=fun Hx z ok=>mh wh z ok Hx (eE v') (k,o)
      simp -implicitDefEqProofs only[kN,eN]at Qp
      have hnS:¬(((k,o):Nm).1∈(s.dc n).take i∧bT s ((k,o):Nm).1<n∧((k,o):Nm).2<n∨((k,o):Nm).1=k∧((k,o):Nm).2∈(s.ids k).take j):=by
       rintro (hh|⟨_,hh⟩)
       ·exact qe hh.1
       ·obtain⟨p,hp,e⟩:=List.getElem_of_mem hh
        have tI:p<j∧p<(s.ids k).length:=by simp -implicitDefEqProofs only[List.length_take]at hp;omega
        have e:((s.ids k).take j)[p]=o:=e
        have SE:(s.ids k)[p]?=some o:=by rw[←e];simp[List.getElem?_eq_getElem tI.2]
        have:=hi.yq k p j o o tI.1 SE ho;omega
      have hSS:∀m:Nm,(((m.1∈(s.dc n).take i∧bT s m.1<n∧m.2<n)∨(m.1=k∧m.2∈(s.ids k).take j))∨m=(k,o))↔((m.1∈(s.dc n).take i∧bT s m.1<n∧m.2<n)∨(m.1=k∧m.2∈(s.ids k).take (j+1))):=fun m=>by
       rw[bN ho,List.mem_append,List.mem_singleton,or_assoc]
       refine or_congr Iff.rfl ?_
       constructor
       ·rintro (⟨a1,a2⟩|rfl)
        ·exact⟨a1,.inl a2⟩
        ·exact⟨rfl,.inr rfl⟩
       ·rintro⟨a1,a2|a2⟩
        ·exact .inl ⟨a1,a2⟩
        ·exact .inr (Prod.ext a1 a2)
      have nq:∀p a,p<j+1→(s.ids k)[p]?=some a→a<n:=fun p a hp ha=>by
       by_cases e:p=j
       ·subst e;rw[ho]at ha;cases ha;omega
       ·exact bB p a (by omega) ha
      have l0:=aM C4.hs
      have lv:=aM C4.hv
      have BC:=fun Hx v=>vY wh Hx b.v (eE v') (k,o) v
      simp -implicitDefEqProofs only[kN,eN]at BC
      by_cases cO:x.aZ=-1
      ·simp -implicitDefEqProofs only[op,ef,cl,sq,reduceIte,j2,j3,j4,j5,j6,j7,j8,j9,y1,S1,S2,S3,List.length_set,q0,q1,q2,q9,SA,SB,SD,X9,Ya,Yb,hj,aa,e1,e2,e3,eU,Si,C4.hs,C4.hv,Qp,qd,qK,Option.getD_some,fD,cO,l0,lv,BC,wj]
       have e:cy (eE v') (k,o) (T.agg [T.str x.value,T.sl x.kk (x.keys.map eS),T.int IntKind.i64 now])=eE (cy v' (k,o) (stamped x now)):=oV fD v' (k,o) (stamped x now)
       rw[e]
       exact⟨j+1,by omega,.i ⟨_,(C4.ab2 (cy v' (k,o) (stamped x now))).jL (ax (F:=fun _=>False) (Ext.rfl'.app _)) (fun _ _ _ h=>h),(jk.add hx cO hnS).mono fun m _=>hSS m,(C5.set (.inl sa.F0.2.1) _).app _⟩,rfl,by omega,nq⟩
      ·have Qq:(x.aZ==-1)=false:=by simpa using cO
       simp -implicitDefEqProofs only[op,ef,cl,sq,reduceIte,j2,j3,j4,j5,j6,j7,j8,j9,y1,S1,S2,S3,List.length_set,q0,q1,q2,q9,SA,SB,SD,X9,Ya,Yb,hj,aa,e1,e2,e3,eU,Si,C4.hs,C4.hv,Qp,qd,qK,Option.getD_some,fD,Qq,l0,lv,wj]
       exact⟨j+1,by omega,.i ⟨v',C4.jL (ax (F:=fun _=>False) (Ext.rfl'.app _)) (fun _ _ _ h=>h),(jk.skip hx cO hnS).mono fun m _=>hSS m,C5.app _⟩,rfl,by omega,nq⟩
    ·have Lp:j=(s.ids k).length:=by omega
     subst Lp
     simp -implicitDefEqProofs only[op,ef,cl,sq,reduceIte,j2,j3,j4,j5,j6,j7,j8,j9,y1,S1,q0,q1,q2,q9,SA,SB,SD,X9,Ya,Yb,hj]
     refine⟨v',C4,jk.mono fun m hm=>?_,C5⟩
     rw[List.take_length]
     refine or_congr Iff.rfl ⟨fun ⟨a1,a2⟩=>⟨a1,?_⟩,fun ⟨a1,a2⟩=>⟨a1,(hi.Jq k m.2).2 (by rw[←a1];exact hm)⟩⟩
     obtain⟨p,hp,e⟩:=List.getElem_of_mem a2
     exact bB p m.2 hp (by rw[List.getElem?_eq_getElem hp,e])
   ·rintro R H3⟨⟨v',C4,jk,C5⟩,q0,q1,q2,SA,SB,SD⟩
    simp -implicitDefEqProofs only[op,ef,cl,sq,reduceIte,j2,j3,j4,j5,j6,j7,j8,j9,y1,S1,q0,q1,q2,SA,SB,SD,ws]
    exact⟨i+1,by omega,.i ⟨_,C4,y0,y7,Lo,by rw[bN hk];exact tM.add ab6 rfl jk,C5⟩,rfl,by omega⟩
 ·have nU:i=(s.dc n).length:=by omega
  subst nU
  rw[List.take_length]at tM
  simp -implicitDefEqProofs only[op,ef,cl,sq,reduceIte,j2,j3,j4,j5,j6,j7,j8,j9,y1,S1,h0,h1,X7,X8,al,Ju.hs,Ju.hp,mj,zQ,hlH]
  exact⟨s',rfl,⟨im,pm,Ju⟩,(tM.vs.inv hi s'.ls (tM.zN hi.zN)) |> fun h=>(by have e:s'={ s with vs:=s'.vs,ls:=s'.ls }:=(by cases s';cases s;simp_all);rw[e];exact h),tM,y0,y7,Lo,ar⟩
section
variable {α β γ:Type} [DecidableEq α]
theorem qf (e:α×β)(es:List (α×β))(k:α):ng (e :: es) k=if k=e.1 then es else e :: ng es k:=by
 unfold ng
 rw[List.findIdx?_cons]
 by_cases hk:k=e.1
 ·simp[hk]
 ·simp -implicitDefEqProofs only[hk,decide_false,if_false,Bool.false_eq_true]
  cases List.findIdx? (fun e=>decide (k=e.1)) es<;>simp
theorem Hp (f:β→γ)(es:List (α×β))(k:α):ng (es.map fun e=>(e.1,f e.2)) k=(ng es k).map fun e=>(e.1,f e.2):=by
 induction es with
 | nil=>rfl
 | cons e es ih=>simp -implicitDefEqProofs only[List.map_cons,qf,ih];split<;>simp
theorem kf {es:List (α×β)}(h:(es.map (·.1)).Nodup)(k k':α):aj (ng es k) k'=if k'=k then none else aj es k':=by
 induction es with
 | nil=>simp[ng,cN]
 | cons e es ih =>
  rw[List.map_cons,List.nodup_cons]at h
  rw[qf]
  by_cases hk:k=e.1
  ·subst hk
   by_cases lr:k'=e.1
   ·subst lr;simp -implicitDefEqProofs only[if_true];exact bS.2 h.1
   ·simp[bj,lr]
  ·simp -implicitDefEqProofs only[hk,if_false,bj,ih h.2]
   by_cases lr:k'=e.1
   ·subst lr;simp[Ne.symm hk]
   ·simp[lr]
theorem zR {es:List (α×β)}(h:(es.map (·.1)).Nodup)(k:α):((ng es k).map (·.1)).Nodup:=by
 induction es with
 | nil=>simp[ng]
 | cons e es ih =>
  rw[List.map_cons,List.nodup_cons]at h
  rw[qf];split
  ·exact h.2
  ·rw[List.map_cons,List.nodup_cons]
   refine⟨fun hm=>h.1 ?_,ih h.2⟩
   have:aj (ng es k) e.1≠none:=fun hn=>bS.1 hn hm
   rw[kf h.2]at this
   split at this
   ·exact absurd rfl this
   ·exact Classical.byContradiction fun hh=>this (bS.2 hh)
end
theorem yr {α:Type}[DecidableEq α]{l:List α}{x a:α}:a∈eR l x↔a∈l∧a≠x:=by simp[eR]
theorem yu {α:Type}[DecidableEq α](l:List α)(x:α):(eR l x).length≤l.length:=List.length_filter_le ..
def dA.drop (s:dA)(k:ByteArray)(n:Nat):dA:=⟨ng s.vs (k,n),s.ls,fun k'=>if k'=k then eR (s.ids k) n else s.ids k',fun n'=>if n'=n then eR (s.dc n) k else s.dc n',s.n⟩
theorem gQ.drop {s:dA}(hi:gQ s)(k:ByteArray)(n:Nat):gQ (s.drop k n):=by
 refine⟨fun k'=>?_,fun k' n'=>?_,fun n'=>?_,fun n' k'=>?_,zR hi.nd _,fun m h hm=>?_,fun k'=>?_,fun n'=>?_,hi.zN⟩
 ·simp -implicitDefEqProofs only[dA.drop];split
  ·exact wo.2 ((wo.1 (hi.yq k)).sublist List.filter_sublist)
  ·exact hi.yq k'
 ·simp -implicitDefEqProofs only[dA.drop,kf hi.nd]
  by_cases e:k'=k
  ·subst e
   simp -implicitDefEqProofs only[if_true,yr,hi.Jq,Prod.mk.injEq,true_and]
   by_cases e2:n'=n<;>simp[e2]
  ·simp[e,hi.Jq]
 ·simp -implicitDefEqProofs only[dA.drop];split
  ·exact(hi.Qm n).sublist List.filter_sublist
  ·exact hi.Qm n'
 ·simp -implicitDefEqProofs only[dA.drop,kf hi.nd]
  by_cases e:n'=n
  ·subst e
   simp -implicitDefEqProofs only[if_true,yr,hi.Lk,Prod.mk.injEq,and_true]
   by_cases e2:k'=k<;>simp[e2]
  ·simp[e,hi.Lk]
 ·simp -implicitDefEqProofs only[dA.drop,kf hi.nd]at hm
  split at hm
  ·cases hm
  ·exact hi.Vl m h hm
 ·have:=hi.bi k'
  simp -implicitDefEqProofs only[dA.drop];split
  ·rename_i e;subst e;exact Nat.le_trans (yu _ _) this
  ·exact this
 ·have:=hi.bp n'
  simp -implicitDefEqProofs only[dA.drop];split
  ·rename_i e;subst e;exact Nat.le_trans (yu _ _) this
  ·exact this
def Vt (b:Bk)(s:dA)(F:Nat→Prop)(k:ByteArray)(n:Nat)(H:af):Out→af→Prop:=fun o H' =>
 (aj s.vs (k,n)=none∧o=.val (.int .i64 110)∧Ext H H')∨(∃h,aj s.vs (k,n)=some h∧h.aZ=-1∧o=.val (.int .i64 1)∧Ext H H') ∨
 ∃h,aj s.vs (k,n)=some h∧h.aZ≠-1∧o=.val (.int .i64 0)∧SH H' b (s.drop k n) F∧a9 F H H'
theorem Qr (b:Bk)(s:dA)(F:Nat→Prop)(k:ByteArray)(n:Nat)(H:af)(hs:SH H b s F)(hi:gQ s)(hn:s.n≤8000000) :
  W env (.call 25 [.ptr b.s 0,.str k,.int .u64 n]) H (Vt b s F k n H):=by
 obtain⟨im,pm,sa⟩:=hs
 have l0:=aM sa.hs
 have lv:=aM sa.hv
 have NC:b.s<H.length+1:=by omega
 have ke:=fun Hx z ok=>mh wh z ok Hx (eE s.vs) (k,n)
 simp -implicitDefEqProofs only[kN,eN]at ke
 have qd:jI (aj (eE s.vs) (k,n)) (.agg [.str ⟨#[]⟩,.sl .nil [],.int .i64 0]) true=.bJ [fD (qK (aj s.vs (k,n))),.bool (aj s.vs (k,n)).isSome]:=by
  unfold eE;rw[gv]
  cases aj s.vs (k,n)<;>rfl
 refine W.bu rfl rfl rfl ?_
 cases e:aj s.vs (k,n)with
 | none =>
  rw[e]at qd
  simp -implicitDefEqProofs only[Option.isSome_none]at qd
  simp -implicitDefEqProofs only[Gr,op,ef,cl,sq,reduceIte,j2,j3,j4,j5,j6,j7,j8,j9,y1,S1,S2,S3,List.length_set,sa.hs,sa.hv,l0,NC,lv,ke,qd,fD]
  exact .inl ⟨e,rfl,((Ext.rfl'.app _).app _)⟩
 | some h =>
  rw[e]at qd
  simp -implicitDefEqProofs only[Option.isSome_some,qK,Option.getD_some]at qd
  by_cases cO:h.aZ=-1
  ·simp -implicitDefEqProofs only[Gr,op,ef,cl,sq,reduceIte,j2,j3,j4,j5,j6,j7,j8,j9,y1,S1,S2,S3,List.length_set,sa.hs,sa.hv,l0,NC,lv,ke,qd,fD,cO]
   exact .inr (.inl ⟨h,e,cO,rfl,((Ext.rfl'.app _).app _)⟩)
  ·have Qq:(h.aZ==-1)=false:=by simpa using cO
   have OS:=fun Hx=>Fy wh Hx b.v (eE s.vs) (k,n) (v:=fD h) (by unfold eE;rw[gv,e];rfl)
   simp -implicitDefEqProofs only[kN,eN]at OS
   have Oi:qJ (eE s.vs) (k,n)=eE (ng s.vs (k,n)):=Hp fD s.vs (k,n)
   rw[Oi]at OS
   obtain⟨c,kv,pG,hcF⟩:∃c,aj im k=some (.aA c 0 (s.ids k).length 1)∧H[c]?=some (.cells (aJ eU (s.ids k)))∧F c:=by
    have:=sa.oi k
    cases em:aj im k with
    | none =>
     rw[em]at this
     have h0:s.ids k=[]:=this
     have:=(hi.Jq k n).2 (by rw[e];rfl)
     rw[h0]at this;cases this
    | some t=>rw[em]at this;obtain⟨c,rfl,h1,h2⟩:=this;exact⟨c,rfl,h1,h2⟩
   obtain⟨d,pw,cz,hdF⟩:∃d,aj pm n=some (.aA d 0 (s.dc n).length 1)∧H[d]?=some (.cells (aJ eS (s.dc n)))∧F d:=by
    have:=sa.op n
    cases em:aj pm n with
    | none =>
     rw[em]at this
     have h0:s.dc n=[]:=this
     have:=(hi.Lk n k).2 (by rw[e];rfl)
     rw[h0]at this;cases this
    | some t=>rw[em]at this;obtain⟨c,rfl,h1,h2⟩:=this;exact⟨c,rfl,h1,h2⟩
   have bc:=sa.jK (k:=k) (c:=c) (by rw[kv];rfl)
   have bd:=sa.lG (n:=n) (c:=d) (by rw[pw];rfl)
   have hcd:c≠d:=fun h=>sa.sx k n c (by rw[kv];rfl) (by rw[pw,h];rfl)
   obtain⟨n1,n2,n3,n4⟩:=sa.ne
   have li:=aM sa.hi
   simp -implicitDefEqProofs only[Gr,op,ef,cl,sq,reduceIte,j2,j3,j4,j5,j6,j7,j8,j9,y1,S1,S2,S3,List.length_set,sa.hs,sa.hv,l0,NC,lv,ke,qd,fD,Qq,OS,n1,sa.hi,li,sa.vi,fQ,kv]
   generalize xj:H.set b.v (B.map (bh kN (eE (ng s.vs (k,n)))))++[B.cells [T.str k,T.int IntKind.u64 n]]++[B.cells [T.str h.value,T.sl h.kk (h.keys.map eS),T.int IntKind.i64 h.aZ]]=H1
   have abR:H1.length=H.length+2:=by rw[←xj];simp
   have ib:∀{c x},c≠b.v→H[c]?=some x→H1[c]?=some x:=fun hc hx=>by
    have:=aM hx
    rw[←xj,aP (by simp;omega),aP (by simpa using this),bl (Ne.symm hc)];exact hx
   have v1:H1[b.v]?=some (.map (bh kN (eE (ng s.vs (k,n))))):=by rw[←xj,aP (by simp;omega),aP (by simpa using lv),bR lv]
   have s1:=ib (Ne.symm n1) sa.hs
   have i1:=ib (Ne.symm sa.vi) sa.hi
   have p1:=ib (Ne.symm sa.vp) sa.hp
   have w1:=ib (Ne.symm sa.vl) sa.hl
   refine ae _ _ _ _ _ _ _ _ (abO c (s.ids k) n H1 (ib bc.2.1 pG) (by have:=hi.bi k;omega)) ?_
   rintro u H2⟨hu,c2,A1⟩
   cases hu
   have sJ:∀{a x},a≠c→H1[a]?=some x→H2[a]?=some x:=fun ha hx=>A1.get hx ha
   have s2:=sJ (Ne.symm bc.1) s1
   have v2:=sJ (Ne.symm bc.2.1) v1
   have i2:=sJ (Ne.symm bc.2.2.1) i1
   have p2:=sJ (Ne.symm bc.2.2.2.1) p1
   have w2:=sJ (Ne.symm bc.2.2.2.2.1) w1
   have d2:=sJ (Ne.symm hcd) (ib bd.2.1 cz)
   obtain⟨H3,qB⟩:∃H3,H3=H2.set b.i (.map (bh T.str (cy im k (.aA c 0 (eR (s.ids k) n).length 1)))):=⟨_,rfl⟩
   have gR:∀{a x},a≠b.i→H2[a]?=some x→H3[a]?=some x:=fun ha hx=>by rw[qB,bl (Ne.symm ha)];exact hx
   have s3:=gR (Ne.symm n2) s2
   have v3:=gR sa.vi v2
   have i3:H3[b.i]?=some (.map (bh T.str (cy im k (.aA c 0 (eR (s.ids k) n).length 1)))):=by rw[qB,bR (aM i2)]
   have p3:=gR (Ne.symm sa.ip) p2
   have w3:=gR (Ne.symm sa.il) w2
   have c3:=gR bc.2.2.1 c2
   have d3:=gR bd.2.2.1 d2
   simp -implicitDefEqProofs only[op,ef,cl,sq,reduceIte,j2,j3,j4,j5,j6,j7,j8,j9,y1,S1,s2,i2,nT,←qB,s3,p3,mj,pw]
   refine ae _ _ _ _ _ _ _ _ (abQ d (s.dc n) k H3 d3 (by have:=hi.bp n;omega)) ?_
   rintro u H4⟨hu,d4,DP⟩
   cases hu
   have gS:∀{a x},a≠d→H3[a]?=some x→H4[a]?=some x:=fun ha hx=>DP.get hx ha
   have s4:=gS (Ne.symm bd.1) s3
   have v4:=gS (Ne.symm bd.2.1) v3
   have i4:=gS (Ne.symm bd.2.2.1) i3
   have p4:=gS (Ne.symm bd.2.2.2.1) p3
   have w4:=gS (Ne.symm bd.2.2.2.2.1) w3
   have c4:=gS hcd c3
   obtain⟨H5,Vu⟩:∃H5,H5=H4.set b.p (.map (bh kU (cy pm n (.aA d 0 (eR (s.dc n) k).length 1)))):=⟨_,rfl⟩
   have gb:∀{a x},a≠b.p→H4[a]?=some x→H5[a]?=some x:=fun ha hx=>by rw[Vu,bl (Ne.symm ha)];exact hx
   have s5:=gb (Ne.symm n3) s4
   have p5:H5[b.p]?=some (.map (bh kU (cy pm n (.aA d 0 (eR (s.dc n) k).length 1)))):=by rw[Vu,bR (aM p4)]
   have l2:aj (cy pm n (.aA d 0 (eR (s.dc n) k).length 1)) n=some (.aA d 0 (eR (s.dc n) k).length 1):=by rw[br,if_pos rfl]
   have ahf:H5.length=H4.length:=by rw[Vu];simp
   have abT:H3.length=H2.length:=by rw[qB];simp
   have Hq:∀{a x},a≠b.v→a≠c→a≠b.i→a≠d→a≠b.p→H[a]?=some x→H5[a]?=some x:=fun e1 e2 e3 e4 e5 hx=>gb e5 (gS e4 (gR e3 (sJ e2 (ib e1 hx))))
   have frF:a9 F H H5:=⟨by have:=A1.1;have:=DP.1;omega,fun a ha hF=>by
    obtain⟨x,hx⟩:=bK ha
    have ne:∀{c'},F c'→a≠c':=fun h e=>hF (e▸h)
    rw[hx]
    exact Hq (ne sa.F0.2.1) (ne hcF) (ne sa.F0.2.2.1) (ne hdF) (ne sa.F0.2.2.2.1) hx⟩
   have Sv:=fun Hx=>Fy Pa Hx b.p (cy pm n (.aA d 0 (eR (s.dc n) k).length 1)) n l2
   simp -implicitDefEqProofs only[kU]at Sv
   have fin:∀(Lq:List (Nat×T)) (H6:af),(∀n',aj Lq n'=if n'=n then aj Lq n else aj pm n')→Jr eS F H5 (aj Lq n) (eR (s.dc n) k)→(∀a,eG (aj Lq n)=some a→a=d)→(Lq.map (·.1)).Nodup→H6[b.p]?=some (.map (bh kU Lq))→(∀{a x},a≠b.p→H5[a]?=some x→H6[a]?=some x)→u3 H6 b (cy im k (.aA c 0 (eR (s.ids k) n).length 1)) Lq (s.drop k n) F:=by
    intro Lq H6 hl ho hb fh hp hk
    have kI:∀{k' a x},k'≠k→eG (aj im k')=some a→H[a]?=some x→H6[a]?=some x:=fun {k' a x} bO ha hx=>by
     obtain⟨e1,e2,e3,e4,e5,_,e6⟩:=sa.jK ha
     exact hk e4 (Hq e2 (fun e=>bO (sa.si k' k c (e▸ha) (by rw[kv];rfl))) e3 (fun e=>sa.sx k' n d (e▸ha) (by rw[pw];rfl)) e4 hx)
    have kP:∀{n' a x},n'≠n→eG (aj pm n')=some a→H[a]?=some x→H6[a]?=some x:=fun {n' a x} bO ha hx=>by
     obtain⟨e1,e2,e3,e4,e5,_,e6⟩:=sa.lG ha
     exact hk e4 (Hq e2 (fun e=>sa.sx k n' c (by rw[kv];rfl) (e▸ha)) e3 (fun e=>bO (sa.sp n' n d (e▸ha) (by rw[pw];rfl))) e4 hx)
    have bI:∀k' a,eG (aj (cy im k (.aA c 0 (eR (s.ids k) n).length 1)) k')=some a→eG (aj im k')=some a:=fun k' a ha=>by
     rw[br]at ha
     split at ha
     ·rename_i e;subst e;rw[kv];exact ha
     ·exact ha
    have bP:∀n' a,eG (aj Lq n')=some a→eG (aj pm n')=some a:=fun n' a ha=>by
     rw[hl]at ha
     split at ha
     ·rename_i e;subst e;rw[pw,hb a ha];rfl
     ·exact ha
    refine⟨hk (Ne.symm n3) s5,hk sa.vp (gb sa.vp v4),hk sa.ip (gb sa.ip i4),hp,hk (Ne.symm sa.pl) (gb (Ne.symm sa.pl) w4),sa.vi,sa.vp,sa.vl,sa.ip,sa.il,sa.pl,sa.F0,fun k'=>?_,fun n'=>?_,fun k1 k2 a h1 h2=>sa.si k1 k2 a (bI _ _ h1) (bI _ _ h2),fun k1 k2 a h1 h2=>sa.sp k1 k2 a (bP _ _ h1) (bP _ _ h2),fun k1 k2 a h1 h2=>sa.sx k1 k2 a (bI _ _ h1) (bP _ _ h2),fh⟩
    ·simp -implicitDefEqProofs only[dA.drop,br]
     by_cases e:k'=k
     ·simp -implicitDefEqProofs only[e,if_true]
      exact⟨c,rfl,hk bc.2.2.2.1 (gb bc.2.2.2.1 c4),hcF⟩
     ·simp -implicitDefEqProofs only[e,if_false]
      exact(sa.oi k').dV (fun a x ha hx=>kI e ha hx) fun _ _ h=>h
    ·rw[hl]
     simp -implicitDefEqProofs only[dA.drop]
     by_cases e:n'=n
     ·simp -implicitDefEqProofs only[e,if_true]
      refine ho.dV (fun a x ha hx=>hk ?_ hx) fun _ _ h=>h
      rw[hb a ha];exact bd.2.2.2.1
     ·simp -implicitDefEqProofs only[e,if_false]
      exact(sa.op n').dV (fun a x ha hx=>kP e ha hx) fun _ _ h=>h
   by_cases hz:(eR (s.dc n) k).length=0
   ·have qY:((eR (s.dc n) k).length=0)=True:=eq_true hz
    simp -implicitDefEqProofs only[op,ef,cl,sq,reduceIte,j2,j3,j4,j5,j6,j7,j8,j9,y1,S1,s4,p4,sC,←Vu,s5,p5,mj,l2,qY,Sv]
    refine .inr (.inr ⟨h,e,cO,rfl,⟨_,_,fin (qJ (cy pm n (.aA d 0 (eR (s.dc n) k).length 1)) n) _ (fun n'=>?_) ?_ (fun a ha=>?_) (zM (dn sa.np _ _) _) (bR (aM p5)) (fun ha hx=>by rw[bl (Ne.symm ha)];exact hx)⟩,frF.set (.inl sa.F0.2.2.2.1) _⟩)
    ·simp -implicitDefEqProofs only[mR (dn sa.np _ _),br];split<;>simp
    ·rw[mR (dn sa.np _ _),if_pos rfl];exact List.eq_nil_of_length_eq_zero hz
    ·rw[mR (dn sa.np _ _),if_pos rfl]at ha;cases ha
   ·simp -implicitDefEqProofs only[op,ef,cl,sq,reduceIte,j2,j3,j4,j5,j6,j7,j8,j9,y1,S1,s4,p4,sC,←Vu,s5,p5,mj,l2,hz]
    refine .inr (.inr ⟨h,e,cO,rfl,⟨_,_,fin _ H5 (fun n'=>?_) ?_ (fun a ha=>?_) (dn sa.np _ _) p5 (fun _ h=>h)⟩,frF⟩)
    ·simp -implicitDefEqProofs only[br];split<;>simp
    ·rw[l2];exact⟨d,rfl,gb bd.2.2.2.1 d4,hdF⟩
    ·rw[l2]at ha;cases ha;rfl
abbrev u5 (n:Nat)(R0:aw)(ps:List Nat)(b9 body:C):B:=.loop .ready Option.none n R0 ps b9 body
abbrev ND (n:Nat)(R0:aw)(ps:List Nat)(b9 body:C):B:=.loop .busy Option.none n R0 ps b9 body
theorem nV {H H':af}(h:∀(c:Nat) x,H[c]?=some x→H'[c]?=some x):Ext H H':=by
 have hl:H.length≤H'.length:=by
  rcases Nat.eq_zero_or_pos H.length with h0|h0
  ·omega
  ·obtain⟨x,hx⟩:=bK (l:=H) (i:=H.length-1) (by omega)
   have:=aM (h _ x hx)
   omega
 refine⟨H'.drop H.length,List.ext_getElem? fun i=>?_⟩
 by_cases hi:i<H.length
 ·obtain⟨x,hx⟩:=bK hi
  rw[List.getElem?_append_left hi,hx,h i x hx]
 ·rw[List.getElem?_append_right (by omega),List.getElem?_drop]
  congr 1;omega
structure RI {α β:Type}(es:List (α×β))(ix:List Nat)(cd:List α):Prop where
 len:ix.length+cd.length=es.length
 lt:∀i∈ix,i<es.length
 nix:ix.Nodup
 Hr:cd.Nodup
 mem:∀k,k∈cd↔∃i v,es[i]?=some (k,v)∧i∉ix
theorem RI.start {α β:Type}(es:List (α×β)):RI es (List.range es.length) []:=⟨by simp,fun i h=>List.mem_range.1 h,List.nodup_range,by simp,fun k=>by
 simp -implicitDefEqProofs only[List.not_mem_nil,false_iff,not_exists,not_and]
 intro i v h hn
 exact hn (List.mem_range.2 (List.getElem?_eq_some_iff.1 h).1)⟩
theorem RI.step {α β:Type}{es:List (α×β)}(hn:(es.map (·.1)).Nodup){ix:List Nat}{cd:List α}(h:RI es ix cd){i:Nat}{k:α}{v:β}(hi:i∈ix)(he:es[i]?=some (k,v)):RI es (ix.erase i) (cd++[k]):=by
 have inj:∀j w,es[j]?=some (k,w)→j=i:=fun j w hj=>by
  have h1:(es.map (·.1))[j]?=some k:=by rw[List.getElem?_map,hj];rfl
  have h2:(es.map (·.1))[i]?=some k:=by rw[List.getElem?_map,he];rfl
  exact(List.getElem?_inj (List.getElem?_eq_some_iff.1 h1).1 hn).1 (h1.trans h2.symm)
 have hk:k∉cd:=fun hk=>by
  obtain⟨j,w,hj,hn⟩:=(h.mem k).1 hk
  exact hn (inj j w hj▸hi)
 refine⟨?_,fun j hj=>h.lt j (List.mem_of_mem_erase hj),h.nix.erase _,?_,fun k'=>?_⟩
 ·have:=h.len
  have:=List.length_pos_of_mem hi
  rw[List.length_erase_of_mem hi,List.length_append,List.length_singleton];omega
 ·rw[List.nodup_append];exact⟨h.Hr,by simp,fun a ha c hc=>by simp at hc;subst hc;rintro rfl;exact hk ha⟩
 ·rw[List.mem_append,List.mem_singleton,h.mem]
  constructor
  ·rintro (⟨j,w,hj,hnj⟩|rfl)
   ·exact⟨j,w,hj,fun hm=>hnj (List.mem_of_mem_erase hm)⟩
   ·exact⟨i,v,he,fun hm=>(h.nix.mem_erase_iff.1 hm).1 rfl⟩
  ·rintro⟨j,w,hj,hnj⟩
   by_cases e:j=i
   ·subst e;rw[he]at hj;cases hj;exact .inr rfl
   ·exact .inl ⟨j,w,hj,fun hm=>hnj (h.nix.mem_erase_iff.2 ⟨e,hm⟩)⟩
theorem RI.CX {α β:Type}{es:List (α×β)}{cd:List α}(h:RI es [] cd)(k:α):k∈cd↔k∈es.map (·.1):=by
 rw[h.mem]
 constructor
 ·rintro⟨i,v,he,_⟩;exact List.mem_map.2 ⟨_,List.mem_of_getElem? he,rfl⟩
 ·intro hk
  obtain⟨e,he,rfl⟩:=List.mem_map.1 hk
  obtain⟨i,hi,e2⟩:=List.getElem_of_mem he
  exact⟨i,e.2,by rw[List.getElem?_eq_getElem hi,e2],by simp⟩
theorem Qs {n:Nat}{R0:aw}{ps:List Nat}{b9 body:C}(es:List (Nm×T))(c b mb:Nat)(H:af)(I:List Nm→af→Prop)(hps:ps.length=1)(fh:(es.map (·.1)).Nodup)(h0:I [] H)(hb:H[b]?=some (u5 n R0 ps b9 body))(hc:H[c]?=some (.cells [.map mb]))(hm:H[mb]?=some (.map (bh kN es)))
  (kH:∀cd H' y,I cd H'→I cd (H'.set mb y)) (sy:∀cd H' (l:af),I cd H'→I cd (H'++l))
  (b0:∀cd v H',cd.length<es.length→I cd H'→H'[b]?=some (u5 n R0 ps b9 body)→H.length<H'.length→fp env b9 (jq R0 ps [(kN v)]) H' (fun o H1=>∃R1,o=.ex .normal R1∧H1[b]?=some (u5 n R0 ps b9 body) ∧
   fp env body R1 (H1.set b (ND n R0 ps b9 body)) (fun o H2=>∃R2,o=.ex .normal R2∧H2[b]?=some (ND n R0 ps b9 body)∧I (cd++[v]) (H2.set b (u5 n R0 ps b9 body))∧∀a y,H'[a]?=some y→a=mb∨a=H.length→H2[a]?=some y))) :
  W env (.call 94 [.od b,.ptr c 0]) H (fun _ H'=>∃cd,I cd H'∧RI es [] cd∧H'[b]?=some (u5 n R0 ps b9 body)∧H'[mb]?=some (.map (bh kN es))):=by
 have lm:=aM hm
 have lb:=aM hb
 have Jv:b≠mb:=by rintro rfl;rw[hm]at hb;cases hb
 have EA:(bh kN es).length=es.length:=by simp[bh]
 refine W.bu rfl rfl rfl ?_
 simp -implicitDefEqProofs only[Qd,op,ef,cl,sq,reduceIte,j2,j3,j4,j5,j6,j7,j8,j9,y1,S1,hc,hm]
 refine W.cK (fun (cd:List Nm) R H'=>At H' (fun H'=>∃ix cur,I cd H'∧RI es ix cd∧H'[b]?=some (u5 n R0 ps b9 body)∧H'[mb]?=some (.cY (bh kN es) ix H.length cur)∧H'[H.length]?=some (.vD mb))∧R 0=.od b∧R 5=.ptr H.length 0) (fun cd=>es.length-cd.length) [] ?_ ?_
 ·refine⟨.i ⟨List.range (bh kN es).length,none,sy _ _ _ (kH _ _ _ h0),by rw[EA];exact RI.start es,?_,?_,?_⟩,rfl,rfl⟩
  ·rw[aP (by simpa using lb),bl (Ne.symm Jv)];exact hb
  ·rw[aP (by simpa using lm),bR lm]
  ·rw[aK (by simp)]
 rintro cd R H1⟨⟨ix,cur,hI,mS,lL,Lr,CY⟩,r0,r5⟩
 have lb1:=aM lL
 have Vv:=aM Lr
 have li1:=aM CY
 have hbi:b≠H.length:=by rintro rfl;rw[CY]at lL;cases lL
 have DF:mb≠H.length:=by omega
 simp -implicitDefEqProofs only[op,ef,cl,sq,reduceIte,j2,j3,j4,j5,j6,j7,j8,j9,y1,S1,r5]
 refine zI _ _ _ _ _ _ _ r5 Lr ?_
 rintro t H2 (⟨rfl,rfl,rfl⟩|⟨i,e,hi,he,rfl,rfl⟩)
 ·simp -implicitDefEqProofs only[op,ef,cl,sq,reduceIte,j2,j3,j4,j5,j6,j7,j8,j9,y1,S1]
  exact⟨cd,kH _ _ _ hI,mS,by rw[bl (Ne.symm Jv)];exact lL,bR Vv⟩
 obtain⟨⟨k,v0⟩,NF⟩:=bK (mS.lt i hi)
 have DG:e=(kN k,v0):=by
  rw[bh,List.getElem?_map,NF]at he;exact(Option.some.inj he).symm
 subst DG
 have b2:(H1.set mb (.cY (bh kN es) (ix.erase i) H.length (some i)))[b]?=some (u5 n R0 ps b9 body):=by rw[bl (Ne.symm Jv)];exact lL
 have m2:(H1.set mb (.cY (bh kN es) (ix.erase i) H.length (some i)))[mb]?=some (.cY (bh kN es) (ix.erase i) H.length (some i)):=bR Vv
 have i2:(H1.set mb (.cY (bh kN es) (ix.erase i) H.length (some i)))[H.length]?=some (.vD mb):=by rw[bl DF];exact CY
 have ace:(H1.set mb (.cY (bh kN es) (ix.erase i) H.length (some i))).length=H1.length:=by simp
 have Vw:=kH cd H1 (.cY (bh kN es) (ix.erase i) H.length (some i)) hI
 generalize H1.set mb (.cY (bh kN es) (ix.erase i) H.length (some i))=H2 at *
 have og:cd.length<es.length:=by have:=mS.len;have:=List.length_pos_of_mem hi;omega
 have fin:∀H3,Ext H2 H3→I cd H3→fp env b9 (jq R0 ps [kN k]) H3 (fun o H1=>∃R1,o=.ex .normal R1∧H1[b]?=some (u5 n R0 ps b9 body)∧fp env body R1 (H1.set b (ND n R0 ps b9 body)) (fun o H2=>∃R2,o=.ex .normal R2∧H2[b]?=some (ND n R0 ps b9 body) ∧
   ∃y:List Nm,es.length-y.length<es.length-cd.length∧At (H2.set b (u5 n R0 ps b9 body)) (fun H'=>∃ix cur,I y H'∧RI es ix y∧H'[b]?=some (u5 n R0 ps b9 body)∧H'[mb]?=some (.cY (bh kN es) ix H.length cur)∧H'[H.length]?=some (.vD mb))∧R 0=.od b∧R 5=.ptr H.length 0)):=by
  intro H3 hx h3
  have EN:=hx.len
  refine cS _ _ _ (fun o H4=>?_) (b0 cd k H3 og h3 (hx.get b2) (by omega))
  rintro⟨R1,rfl,hr,hw⟩
  refine⟨R1,rfl,hr,cS _ _ _ (fun o H5=>?_) hw⟩
  rintro⟨R2,rfl,vS,hI3,qL⟩
  have DQ:=aM vS
  have Vo:=qL mb _ (hx.get m2) (.inl rfl)
  have Vn:=qL H.length _ (hx.get i2) (.inr rfl)
  exact⟨R2,rfl,vS,cd++[k],by rw[List.length_append,List.length_singleton];omega,.i ⟨_,_,hI3,mS.step fh hi NF,bR DQ,by rw[bl Jv];exact Vo,by rw[bl hbi];exact Vn⟩,r0,r5⟩
 have lb2:=aM b2
 simp -implicitDefEqProofs only[op,ef,cl,sq,reduceIte,j2,j3,j4,j5,j6,j7,j8,j9,y1,S1,r0,r5,i2,m2,he,kN,eN,S2]
 refine Ng (b:=b) (n:=n) (R0:=R0) (ps:=ps) (b9:=b9) (body:=body) (by simp -implicitDefEqProofs only[op,ef,cl,sq,reduceIte,j2,j3,j4,j5,j6,j7,j8,j9,y1,S1,r0]) (by first|exact b2|(rw[aP lb2];exact b2)) (by rw[hps];rfl) ?_
 simp -implicitDefEqProofs only[op,ef,cl,sq,reduceIte,j2,j3,j4,j5,j6,j7,j8,j9,y1,S1]
 first
  | exact fin _ ⟨_,rfl⟩ (sy _ _ _ Vw)
  | exact fin _ Ext.rfl' Vw
theorem Qt {n:Nat}{R0:aw}{ps:List Nat}{b9 body:C}(es:List (ByteArray×T))(c b mb:Nat)(H:af)(I:List ByteArray→af→Prop)(hps:ps.length=1)(fh:(es.map (·.1)).Nodup)(h0:I [] H)(hb:H[b]?=some (u5 n R0 ps b9 body))(hc:H[c]?=some (.cells [.map mb]))(hm:H[mb]?=some (.map (bh T.str es)))
  (kH:∀cd H' y,I cd H'→I cd (H'.set mb y)) (sy:∀cd H' (l:af),I cd H'→I cd (H'++l))
  (b0:∀cd v H',cd.length<es.length→I cd H'→H'[b]?=some (u5 n R0 ps b9 body)→H.length<H'.length→fp env b9 (jq R0 ps [(T.str v)]) H' (fun o H1=>∃R1,o=.ex .normal R1∧H1[b]?=some (u5 n R0 ps b9 body) ∧
   fp env body R1 (H1.set b (ND n R0 ps b9 body)) (fun o H2=>∃R2,o=.ex .normal R2∧H2[b]?=some (ND n R0 ps b9 body)∧I (cd++[v]) (H2.set b (u5 n R0 ps b9 body))∧∀a y,H'[a]?=some y→a=mb∨a=H.length→H2[a]?=some y))) :
  W env (.call 100 [.od b,.ptr c 0]) H (fun _ H'=>∃cd,I cd H'∧RI es [] cd∧H'[b]?=some (u5 n R0 ps b9 body)∧H'[mb]?=some (.map (bh T.str es))):=by
 have lm:=aM hm
 have lb:=aM hb
 have Jv:b≠mb:=by rintro rfl;rw[hm]at hb;cases hb
 have EA:(bh T.str es).length=es.length:=by simp[bh]
 refine W.bu rfl rfl rfl ?_
 simp -implicitDefEqProofs only[Gu,op,ef,cl,sq,reduceIte,j2,j3,j4,j5,j6,j7,j8,j9,y1,S1,hc,hm]
 refine W.cK (fun (cd:List ByteArray) R H'=>At H' (fun H'=>∃ix cur,I cd H'∧RI es ix cd∧H'[b]?=some (u5 n R0 ps b9 body)∧H'[mb]?=some (.cY (bh T.str es) ix H.length cur)∧H'[H.length]?=some (.vD mb))∧R 0=.od b∧R 5=.ptr H.length 0) (fun cd=>es.length-cd.length) [] ?_ ?_
 ·refine⟨.i ⟨List.range (bh T.str es).length,none,sy _ _ _ (kH _ _ _ h0),by rw[EA];exact RI.start es,?_,?_,?_⟩,rfl,rfl⟩
  ·rw[aP (by simpa using lb),bl (Ne.symm Jv)];exact hb
  ·rw[aP (by simpa using lm),bR lm]
  ·rw[aK (by simp)]
 rintro cd R H1⟨⟨ix,cur,hI,mS,lL,Lr,CY⟩,r0,r5⟩
 have lb1:=aM lL
 have Vv:=aM Lr
 have li1:=aM CY
 have hbi:b≠H.length:=by rintro rfl;rw[CY]at lL;cases lL
 have DF:mb≠H.length:=by omega
 simp -implicitDefEqProofs only[op,ef,cl,sq,reduceIte,j2,j3,j4,j5,j6,j7,j8,j9,y1,S1,r5]
 refine zI _ _ _ _ _ _ _ r5 Lr ?_
 rintro t H2 (⟨rfl,rfl,rfl⟩|⟨i,e,hi,he,rfl,rfl⟩)
 ·simp -implicitDefEqProofs only[op,ef,cl,sq,reduceIte,j2,j3,j4,j5,j6,j7,j8,j9,y1,S1]
  exact⟨cd,kH _ _ _ hI,mS,by rw[bl (Ne.symm Jv)];exact lL,bR Vv⟩
 obtain⟨⟨k,v0⟩,NF⟩:=bK (mS.lt i hi)
 have DG:e=(T.str k,v0):=by
  rw[bh,List.getElem?_map,NF]at he;exact(Option.some.inj he).symm
 subst DG
 have b2:(H1.set mb (.cY (bh T.str es) (ix.erase i) H.length (some i)))[b]?=some (u5 n R0 ps b9 body):=by rw[bl (Ne.symm Jv)];exact lL
 have m2:(H1.set mb (.cY (bh T.str es) (ix.erase i) H.length (some i)))[mb]?=some (.cY (bh T.str es) (ix.erase i) H.length (some i)):=bR Vv
 have i2:(H1.set mb (.cY (bh T.str es) (ix.erase i) H.length (some i)))[H.length]?=some (.vD mb):=by rw[bl DF];exact CY
 have ace:(H1.set mb (.cY (bh T.str es) (ix.erase i) H.length (some i))).length=H1.length:=by simp
 have Vw:=kH cd H1 (.cY (bh T.str es) (ix.erase i) H.length (some i)) hI
 generalize H1.set mb (.cY (bh T.str es) (ix.erase i) H.length (some i))=H2 at *
 have og:cd.length<es.length:=by have:=mS.len;have:=List.length_pos_of_mem hi;omega
 have fin:∀H3,Ext H2 H3→I cd H3→fp env b9 (jq R0 ps [T.str k]) H3 (fun o H1=>∃R1,o=.ex .normal R1∧H1[b]?=some (u5 n R0 ps b9 body)∧fp env body R1 (H1.set b (ND n R0 ps b9 body)) (fun o H2=>∃R2,o=.ex .normal R2∧H2[b]?=some (ND n R0 ps b9 body) ∧
   ∃y:List ByteArray,es.length-y.length<es.length-cd.length∧At (H2.set b (u5 n R0 ps b9 body)) (fun H'=>∃ix cur,I y H'∧RI es ix y∧H'[b]?=some (u5 n R0 ps b9 body)∧H'[mb]?=some (.cY (bh T.str es) ix H.length cur)∧H'[H.length]?=some (.vD mb))∧R 0=.od b∧R 5=.ptr H.length 0)):=by
  intro H3 hx h3
  have EN:=hx.len
  refine cS _ _ _ (fun o H4=>?_) (b0 cd k H3 og h3 (hx.get b2) (by omega))
  rintro⟨R1,rfl,hr,hw⟩
  refine⟨R1,rfl,hr,cS _ _ _ (fun o H5=>?_) hw⟩
  rintro⟨R2,rfl,vS,hI3,qL⟩
  have DQ:=aM vS
  have Vo:=qL mb _ (hx.get m2) (.inl rfl)
  have Vn:=qL H.length _ (hx.get i2) (.inr rfl)
  exact⟨R2,rfl,vS,cd++[k],by rw[List.length_append,List.length_singleton];omega,.i ⟨_,_,hI3,mS.step fh hi NF,bR DQ,by rw[bl Jv];exact Vo,by rw[bl hbi];exact Vn⟩,r0,r5⟩
 have lb2:=aM b2
 simp -implicitDefEqProofs only[op,ef,cl,sq,reduceIte,j2,j3,j4,j5,j6,j7,j8,j9,y1,S1,r0,r5,i2,m2,he,kN,eN,S2]
 refine Ng (b:=b) (n:=n) (R0:=R0) (ps:=ps) (b9:=b9) (body:=body) (by simp -implicitDefEqProofs only[op,ef,cl,sq,reduceIte,j2,j3,j4,j5,j6,j7,j8,j9,y1,S1,r0]) (by first|exact b2|(rw[aP lb2];exact b2)) (by rw[hps];rfl) ?_
 simp -implicitDefEqProofs only[op,ef,cl,sq,reduceIte,j2,j3,j4,j5,j6,j7,j8,j9,y1,S1]
 first
  | exact fin _ ⟨_,rfl⟩ (sy _ _ _ Vw)
  | exact fin _ Ext.rfl' Vw
def Ls {α:Type}(enc:α→List T)(n:Nat)(es:List (α×T))(H:af):Out→af→Prop:=fun o H'=>Ext H H'∧∃t cd,o=.val t∧iA enc n H.length H' t cd∧RI es [] cd
def jz (H:af):T→af
 | .aA b _ _ _=>H.set b .dead
 | _=>H
theorem kg (H:af)(t:T):(jz H t).length=H.length:=by cases t<;>simp[jz]
theorem oY {H:af}{t:T}{a:Nat}(h:∀off len m,t≠.aA a off len m):(jz H t)[a]?=H[a]?:=by
 cases t with
 | aA b off len m=>exact bl (fun e=>h off len m (by rw[e]))
 | _=>rfl
theorem yv {α:Type}{enc:α→List T}{n n0 bytes:Nat}(hn:∀x,(enc x).length=n){H:af}{t:T}{l:List α}(h:iA enc n n0 H t l)(v:α)(hr:cC (l.length+1) bytes=true):lC H n bytes t [enc v]=some (.aA H.length 0 (l.length+1) n,jz H t++[.cells (aJ enc (l++[v]))]):=by
 have sy:aJ enc l++enc v=aJ enc (l++[v]):=by simp[aJ]
 rcases h with⟨rfl,rfl⟩|⟨b,rfl,hb,_⟩
 ·simp -implicitDefEqProofs only[List.length_nil,Nat.zero_add]at hr
  simp[lC,hr,jz,aJ]
 ·have hc:l.length*n=(aJ enc l).length:=(dF hn l).symm
  simp[lC,hb,hc,hr,jz,sy]
theorem Vx (es:List (Nm×T))(c mb:Nat)(H:af)(fh:(es.map (·.1)).Nodup)(jg:es.length≤8000000)(hc:H[c]?=some (.cells [.map mb]))(hm:H[mb]?=some (.map (bh kN es))) :
  W env (.call 116 [.sl .nil [],.fn 94 [.ptr c 0]]) H (Ls eN 2 es H):=by
 have lm:=aM hm
 have lc:=aM hc
 refine W.TP rfl rfl ?_
 simp -implicitDefEqProofs only[GF,op,ef,cl,sq,reduceIte,j2,j3,j4,j5,j6,j7,j8,j9,y1,S1,S2]
 generalize hR:pn (pn (pn (hU [T.sl SK.nil [],T.fn 94 [T.ptr c 0]]) 2 (T.ptr H.length 0)) 4 (T.sl SK.nil [])) 6 (T.fn 94 [T.ptr c 0])=R0
 have r2:R0 2=.ptr H.length 0:=by rw[←hR];simp -implicitDefEqProofs only[op,ef,cl,sq,reduceIte,j2,j3,j4,j5,j6,j7,j8,j9,y1,S1]
 have r6:R0 6=.fn 94 [.ptr c 0]:=by rw[←hR];simp -implicitDefEqProofs only[op,ef,cl,sq,reduceIte,j2,j3,j4,j5,j6,j7,j8,j9,y1,S1]
 have r13:R0 13=.bJ []:=by rw[←hR];rfl
 refine W.Fm (f:=94) (cs:=[.ptr c 0]) (by simp -implicitDefEqProofs only[op,ef,cl,sq,reduceIte,j2,j3,j4,j5,j6,j7,j8,j9,y1,S1,r6]) ?_
 have a1:(H++[B.cells [T.sl SK.nil []]]).length=H.length+1:=by simp
 rw[a1,r13,Nt]
 have e1:H.length+1+1=H.length+2:=rfl
 rw[e1]
 generalize tF:H.length=f at *
 have n02:¬(f=f+2):=by omega
 have n12:¬(f+1=f+2):=by omega
 have lx:∀x y:B,(H++[B.cells [T.sl SK.nil []]]++[y,x])[f+2]?=some x:=fun x y=>by
  rw[List.getElem?_append_right (by omega),a1]
  have:f+2-(f+1)=1:=by omega
  rw[this];rfl
 have Vy:∀x y:B,(H++[B.cells [T.sl SK.nil []]]++[y,x]).length=f+3:=fun x y=>by simp[tF]
 have Qu:∀(x y:B) (a:Nat) z,H[a]?=some z→(H++[B.cells [T.sl SK.nil []]]++[y,x])[a]?=some z:=fun x y a z hz=>by
  have:=aM hz
  rw[aP (by omega),aP (by omega)];exact hz
 refine W.use (Qs (hb:=lx _ _) es c (f+2) mb _ (fun cd H'=>At H' fun H'=>∃t,H'[f]?=some (.cells [t])∧iA eN 2 (f+4) H' t cd∧H'[f+1]?=some .AB∧∀(a:Nat) y,H[a]?=some y→a≠mb→H'[a]?=some y) rfl fh ?_ (Qu _ _ _ _ hc) (Qu _ _ _ _ hm) ?_ ?_ ?_) ?_
 ·refine .i ⟨.sl .nil [],?_,jy _ _ _ _,?_,fun a y hy _=>Qu _ _ _ _ hy⟩
  ·rw[aP (by omega),aK (by omega)]
  ·rw[aK (by omega)]
 ·rintro cd H' y⟨t,h1,h2,h3,h4⟩
  refine .i ⟨t,by rw[bl (by omega)];exact h1,?_,by rw[bl (by omega)];exact h3,fun a z hz ha=>by rw[bl (Ne.symm ha)];exact h4 a z hz ha⟩
  rcases h2 with h2|⟨d,e1,e2,e3⟩
  ·exact .inl h2
  ·exact .inr ⟨d,e1,by rw[bl (by omega)];exact e2,e3⟩
 ·rintro cd H' l⟨t,h1,h2,h3,h4⟩
  exact .i ⟨t,by rw[aP (aM h1)];exact h1,h2.ext ⟨_,rfl⟩,by rw[aP (aM h3)];exact h3,fun a z hz ha=>by rw[aP (aM (h4 a z hz ha))];exact h4 a z hz ha⟩
 ·rintro cd v H' og⟨t,h1,h2,h3,h4⟩ hb hlen
  rw[Vy]at hlen
  have mf:=aM h1
  have m1:=aM h3
  have m2:=aM hb
  have bQ:∀a,a<f+4→∀off len m,t≠.aA a off len m:=fun a ha off len m he=>by
   rcases h2 with⟨_,e⟩|⟨d,e,_,e3⟩
   ·rw[e]at he;cases he
   ·rw[e]at he;cases he;omega
  have K1:xd t=t:=by rcases h2 with⟨_,rfl⟩|⟨d,rfl,_⟩<;>rfl
  have hL:∀y:B,(H'.set (f+2) y++[B.cells (eN v)]).length=H'.length+1:=fun y=>by simp
  have mQ:∀y:B,lC (H'.set (f+2) y++[B.cells (eN v)]) 2 24 t [eN v]=some (.aA (H'.length+1) 0 (cd++[v]).length 2,jz (H'.set (f+2) y++[B.cells (eN v)]) t++[.cells (aJ eN (cd++[v]))]):=fun y=>by
   have:=yv (enc:=eN) (n:=2) (bytes:=24) (n0:=f+4) (H:=H'.set (f+2) y++[B.cells (eN v)]) (t:=t) (l:=cd) (fun _=>rfl) (by
    rcases h2 with h2|⟨d,e1,e2,e3⟩
    ·exact .inl h2
    ·refine .inr ⟨d,e1,?_,e3⟩
     first
      | (rw[aP (by rw[List.length_set];exact aM e2),bl (by omega)];exact e2)
      | (rw[bl (by omega)];exact e2)) v (qA (by omega) (by omega))
   rw[hL]at this
   rw[this,List.length_append];rfl
  simp -implicitDefEqProofs only[eN]at mQ
  have pV:∀(y:B) (a:Nat) z,H'[a]?=some z→a≠f+2→a<f+4→(jz (H'.set (f+2) y++[B.cells (eN v)]) t++[.cells (aJ eN (cd++[v]))])[a]?=some z:=fun y a z hz h2 h4=>by
   have:=aM hz
   rw[aP (by rw[kg];simp;omega),oY (bQ a h4)]
   first
    | (rw[aP (by rw[List.length_set];exact this),bl (Ne.symm h2)];exact hz)
    | (rw[bl (Ne.symm h2)];exact hz)
  have n2H:¬(f+2=H'.length):=by omega
  have n2f:¬(f+2=f):=by omega
  have nHf:¬(H'.length=f):=by omega
  simp -implicitDefEqProofs only[op,ef,cl,sq,reduceIte,j2,j3,j4,j5,j6,j7,j8,j9,y1,S1,S2,jq,kN,eN]
  refine⟨_,rfl,?_,?_⟩
  ·first
    | exact hb
    | (rw[aP m2];exact hb)
  have Ht:=fun y=>pV y f _ h1 (by omega) (by omega)
  have Vz:∀y:B,(jz (H'.set (f+2) y++[B.cells (eN v)]) t++[.cells (aJ eN (cd++[v]))])[f+2]?=some y:=fun y=>by
   rw[aP (by rw[kg];simp;omega),oY (bQ _ (by omega))]
   first
    | (rw[aP (by rw[List.length_set];exact m2),bR m2])
    | (rw[bR m2])
  have Hu:∀y:B,(jz (H'.set (f+2) y++[B.cells (eN v)]) t++[.cells (aJ eN (cd++[v]))])[H'.length+1]?=some (.cells (aJ eN (cd++[v]))):=fun y=>by
   rw[aK (by rw[kg,hL])]
  try simp -implicitDefEqProofs only[eN]at Ht
  try simp -implicitDefEqProofs only[eN]at Vz
  try simp -implicitDefEqProofs only[eN]at Hu
  try simp -implicitDefEqProofs only[eN]at pV
  simp -implicitDefEqProofs only[op,ef,cl,sq,reduceIte,j2,j3,j4,j5,j6,j7,j8,j9,y1,S1,S2,List.length_set,r2,mf,m2,n2H,n2f,nHf,h1,K1,mQ,Ht]
  refine⟨_,rfl,by rw[bl (by omega)];exact Vz _,.i ⟨_,by rw[bl (by omega),bR (aM (Ht _))],.inr ⟨_,rfl,by rw[bl (by omega),bl (by omega)];exact Hu _,by omega⟩,by rw[bl (by omega),bl (by omega)];exact pV _ _ _ h3 (by omega) (by omega),fun a y hy ha=>?_⟩,fun a y hy ha=>?_⟩
  ·have:=aM hy
   rw[bl (by omega),bl (by omega)];exact pV _ _ _ (h4 a y hy ha) (by omega) (by omega)
  ·rw[Vy]at ha
   rw[bl (by omega)];exact pV _ _ _ hy (by omega) (by omega)
 ·rintro o H'⟨cd,⟨t,h1,h2,h3,h4⟩,mS,hb,rL⟩
  refine⟨hb,?_⟩
  have k2:¬(f+2=f+1):=by omega
  have n20:¬(f+2=f):=by omega
  simp -implicitDefEqProofs only[op,ef,cl,sq,reduceIte,j2,j3,j4,j5,j6,j7,j8,j9,y1,S1,S2,r2,n20,h1]
  refine Gl (b:=f+1) (by simp -implicitDefEqProofs only[op,ef,cl,sq,reduceIte,j2,j3,j4,j5,j6,j7,j8,j9,y1,S1]) (by rw[bl (by omega)];exact h3) ?_
  simp -implicitDefEqProofs only[op,ef,cl,sq,reduceIte,j2,j3,j4,j5,j6,j7,j8,j9,y1,S1]
  refine⟨nV fun a y hy=>?_,t,cd,rfl,?_,mS⟩
  ·have:=aM hy
   rw[bl (by omega),bl (by omega)]
   by_cases ha:a=mb
   ·subst ha;rw[hm]at hy;cases hy;exact rL
   ·exact h4 a y hy ha
  ·rcases h2 with h2|⟨d,e1,e2,e3⟩
   ·exact .inl h2
   ·exact .inr ⟨d,e1,by rw[bl (by omega),bl (by omega)];exact e2,by omega⟩
theorem VA (es:List (ByteArray×T))(c mb:Nat)(H:af)(fh:(es.map (·.1)).Nodup)(jg:es.length≤8000000)(hc:H[c]?=some (.cells [.map mb]))(hm:H[mb]?=some (.map (bh T.str es))) :
  W env (.call 121 [.sl .nil [],.fn 100 [.ptr c 0]]) H (Ls eS 1 es H):=by
 have lm:=aM hm
 have lc:=aM hc
 refine W.TP rfl rfl ?_
 simp -implicitDefEqProofs only[GI,op,ef,cl,sq,reduceIte,j2,j3,j4,j5,j6,j7,j8,j9,y1,S1,S2]
 generalize hR:pn (pn (pn (hU [T.sl SK.nil [],T.fn 100 [T.ptr c 0]]) 2 (T.ptr H.length 0)) 4 (T.sl SK.nil [])) 6 (T.fn 100 [T.ptr c 0])=R0
 have r2:R0 2=.ptr H.length 0:=by rw[←hR];simp -implicitDefEqProofs only[op,ef,cl,sq,reduceIte,j2,j3,j4,j5,j6,j7,j8,j9,y1,S1]
 have r6:R0 6=.fn 100 [.ptr c 0]:=by rw[←hR];simp -implicitDefEqProofs only[op,ef,cl,sq,reduceIte,j2,j3,j4,j5,j6,j7,j8,j9,y1,S1]
 have r13:R0 13=.bJ []:=by rw[←hR];rfl
 refine W.Fm (f:=100) (cs:=[.ptr c 0]) (by simp -implicitDefEqProofs only[op,ef,cl,sq,reduceIte,j2,j3,j4,j5,j6,j7,j8,j9,y1,S1,r6]) ?_
 have a1:(H++[B.cells [T.sl SK.nil []]]).length=H.length+1:=by simp
 rw[a1,r13,Nt]
 have e1:H.length+1+1=H.length+2:=rfl
 rw[e1]
 generalize tF:H.length=f at *
 have n02:¬(f=f+2):=by omega
 have n12:¬(f+1=f+2):=by omega
 have lx:∀x y:B,(H++[B.cells [T.sl SK.nil []]]++[y,x])[f+2]?=some x:=fun x y=>by
  rw[List.getElem?_append_right (by omega),a1]
  have:f+2-(f+1)=1:=by omega
  rw[this];rfl
 have Vy:∀x y:B,(H++[B.cells [T.sl SK.nil []]]++[y,x]).length=f+3:=fun x y=>by simp[tF]
 have Qu:∀(x y:B) (a:Nat) z,H[a]?=some z→(H++[B.cells [T.sl SK.nil []]]++[y,x])[a]?=some z:=fun x y a z hz=>by
  have:=aM hz
  rw[aP (by omega),aP (by omega)];exact hz
 refine W.use (Qt (hb:=lx _ _) es c (f+2) mb _ (fun cd H'=>At H' fun H'=>∃t,H'[f]?=some (.cells [t])∧iA eS 1 (f+4) H' t cd∧H'[f+1]?=some .AB∧∀(a:Nat) y,H[a]?=some y→a≠mb→H'[a]?=some y) rfl fh ?_ (Qu _ _ _ _ hc) (Qu _ _ _ _ hm) ?_ ?_ ?_) ?_
 ·refine .i ⟨.sl .nil [],?_,jy _ _ _ _,?_,fun a y hy _=>Qu _ _ _ _ hy⟩
  ·rw[aP (by omega),aK (by omega)]
  ·rw[aK (by omega)]
 ·rintro cd H' y⟨t,h1,h2,h3,h4⟩
  refine .i ⟨t,by rw[bl (by omega)];exact h1,?_,by rw[bl (by omega)];exact h3,fun a z hz ha=>by rw[bl (Ne.symm ha)];exact h4 a z hz ha⟩
  rcases h2 with h2|⟨d,e1,e2,e3⟩
  ·exact .inl h2
  ·exact .inr ⟨d,e1,by rw[bl (by omega)];exact e2,e3⟩
 ·rintro cd H' l⟨t,h1,h2,h3,h4⟩
  exact .i ⟨t,by rw[aP (aM h1)];exact h1,h2.ext ⟨_,rfl⟩,by rw[aP (aM h3)];exact h3,fun a z hz ha=>by rw[aP (aM (h4 a z hz ha))];exact h4 a z hz ha⟩
 ·rintro cd v H' og⟨t,h1,h2,h3,h4⟩ hb hlen
  rw[Vy]at hlen
  have mf:=aM h1
  have m1:=aM h3
  have m2:=aM hb
  have bQ:∀a,a<f+4→∀off len m,t≠.aA a off len m:=fun a ha off len m he=>by
   rcases h2 with⟨_,e⟩|⟨d,e,_,e3⟩
   ·rw[e]at he;cases he
   ·rw[e]at he;cases he;omega
  have K1:xd t=t:=by rcases h2 with⟨_,rfl⟩|⟨d,rfl,_⟩<;>rfl
  have hL:∀y:B,(H'.set (f+2) y).length=H'.length:=fun y=>by simp
  have mQ:∀y:B,lC (H'.set (f+2) y) 1 16 t [eS v]=some (.aA (H'.length) 0 (cd++[v]).length 1,jz (H'.set (f+2) y) t++[.cells (aJ eS (cd++[v]))]):=fun y=>by
   have:=yv (enc:=eS) (n:=1) (bytes:=16) (n0:=f+4) (H:=H'.set (f+2) y) (t:=t) (l:=cd) (fun _=>rfl) (by
    rcases h2 with h2|⟨d,e1,e2,e3⟩
    ·exact .inl h2
    ·refine .inr ⟨d,e1,?_,e3⟩
     first
      | (rw[aP (by rw[List.length_set];exact aM e2),bl (by omega)];exact e2)
      | (rw[bl (by omega)];exact e2)) v (qA (by omega) (by omega))
   rw[hL]at this
   rw[this,List.length_append];rfl
  simp -implicitDefEqProofs only[eS]at mQ
  have pV:∀(y:B) (a:Nat) z,H'[a]?=some z→a≠f+2→a<f+4→(jz (H'.set (f+2) y) t++[.cells (aJ eS (cd++[v]))])[a]?=some z:=fun y a z hz h2 h4=>by
   have:=aM hz
   rw[aP (by rw[kg];simp;omega),oY (bQ a h4)]
   first
    | (rw[aP (by rw[List.length_set];exact this),bl (Ne.symm h2)];exact hz)
    | (rw[bl (Ne.symm h2)];exact hz)
  have n2H:¬(f+2=H'.length):=by omega
  have n2f:¬(f+2=f):=by omega
  have nHf:¬(H'.length=f):=by omega
  simp -implicitDefEqProofs only[op,ef,cl,sq,reduceIte,j2,j3,j4,j5,j6,j7,j8,j9,y1,S1,S2,jq,kN,eN]
  refine⟨_,rfl,?_,?_⟩
  ·first
    | exact hb
    | (rw[aP m2];exact hb)
  have Ht:=fun y=>pV y f _ h1 (by omega) (by omega)
  have Vz:∀y:B,(jz (H'.set (f+2) y) t++[.cells (aJ eS (cd++[v]))])[f+2]?=some y:=fun y=>by
   rw[aP (by rw[kg];simp;omega),oY (bQ _ (by omega))]
   first
    | (rw[aP (by rw[List.length_set];exact m2),bR m2])
    | (rw[bR m2])
  have Hu:∀y:B,(jz (H'.set (f+2) y) t++[.cells (aJ eS (cd++[v]))])[H'.length]?=some (.cells (aJ eS (cd++[v]))):=fun y=>by
   rw[aK (by rw[kg,hL])]
  try simp -implicitDefEqProofs only[eS]at Ht
  try simp -implicitDefEqProofs only[eS]at Vz
  try simp -implicitDefEqProofs only[eS]at Hu
  try simp -implicitDefEqProofs only[eS]at pV
  simp -implicitDefEqProofs only[op,ef,cl,sq,reduceIte,j2,j3,j4,j5,j6,j7,j8,j9,y1,S1,S2,List.length_set,r2,mf,m2,n2H,n2f,nHf,h1,K1,mQ,Ht]
  refine⟨_,rfl,by rw[bl (by omega)];exact Vz _,.i ⟨_,by rw[bl (by omega),bR (aM (Ht _))],.inr ⟨_,rfl,by rw[bl (by omega),bl (by omega)];exact Hu _,by omega⟩,by rw[bl (by omega),bl (by omega)];exact pV _ _ _ h3 (by omega) (by omega),fun a y hy ha=>?_⟩,fun a y hy ha=>?_⟩
  ·have:=aM hy
   rw[bl (by omega),bl (by omega)];exact pV _ _ _ (h4 a y hy ha) (by omega) (by omega)
  ·rw[Vy]at ha
   rw[bl (by omega)];exact pV _ _ _ hy (by omega) (by omega)
 ·rintro o H'⟨cd,⟨t,h1,h2,h3,h4⟩,mS,hb,rL⟩
  refine⟨hb,?_⟩
  have k2:¬(f+2=f+1):=by omega
  have n20:¬(f+2=f):=by omega
  simp -implicitDefEqProofs only[op,ef,cl,sq,reduceIte,j2,j3,j4,j5,j6,j7,j8,j9,y1,S1,S2,r2,n20,h1]
  refine Gl (b:=f+1) (by simp -implicitDefEqProofs only[op,ef,cl,sq,reduceIte,j2,j3,j4,j5,j6,j7,j8,j9,y1,S1]) (by rw[bl (by omega)];exact h3) ?_
  simp -implicitDefEqProofs only[op,ef,cl,sq,reduceIte,j2,j3,j4,j5,j6,j7,j8,j9,y1,S1]
  refine⟨nV fun a y hy=>?_,t,cd,rfl,?_,mS⟩
  ·have:=aM hy
   rw[bl (by omega),bl (by omega)]
   by_cases ha:a=mb
   ·subst ha;rw[hm]at hy;cases hy;exact rL
   ·exact h4 a y hy ha
  ·rcases h2 with h2|⟨d,e1,e2,e3⟩
   ·exact .inl h2
   ·exact .inr ⟨d,e1,by rw[bl (by omega),bl (by omega)];exact e2,by omega⟩
theorem Qv (es:List (Nm×T))(c mb:Nat)(H:af)(fh:(es.map (·.1)).Nodup)(jg:es.length≤8000000)(hc:H[c]?=some (.cells [.map mb]))(hm:H[mb]?=some (.map (bh kN es))) :
  W env (.call 92 [.fn 94 [.ptr c 0]]) H (Ls eN 2 es H):=by
 refine W.bu rfl rfl rfl ?_
 simp -implicitDefEqProofs only[Qc,op,ef,cl,sq,reduceIte,j2,j3,j4,j5,j6,j7,j8,j9,y1,S1]
 refine ae _ _ _ _ _ _ _ _ (Vx es c mb H fh jg hc hm) ?_
 rintro u H1⟨hx,t,cd,hu,h1,h2⟩
 cases hu
 simp -implicitDefEqProofs only[op,ef,cl,sq,reduceIte,j2,j3,j4,j5,j6,j7,j8,j9,y1,S1]
 exact⟨hx,_,cd,rfl,h1,h2⟩
theorem Qw (es:List (ByteArray×T))(c mb:Nat)(H:af)(fh:(es.map (·.1)).Nodup)(jg:es.length≤8000000)(hc:H[c]?=some (.cells [.map mb]))(hm:H[mb]?=some (.map (bh T.str es))) :
  W env (.call 98 [.fn 100 [.ptr c 0]]) H (Ls eS 1 es H):=by
 refine W.bu rfl rfl rfl ?_
 simp -implicitDefEqProofs only[Qh,op,ef,cl,sq,reduceIte,j2,j3,j4,j5,j6,j7,j8,j9,y1,S1]
 refine ae _ _ _ _ _ _ _ _ (VA es c mb H fh jg hc hm) ?_
 rintro u H1⟨hx,t,cd,hu,h1,h2⟩
 cases hu
 simp -implicitDefEqProofs only[op,ef,cl,sq,reduceIte,j2,j3,j4,j5,j6,j7,j8,j9,y1,S1]
 exact⟨hx,_,cd,rfl,h1,h2⟩
theorem jA {α:Type}[Inhabited α]{d:Array α}{i:Nat}(h:i<d.size):d.toList[i]?=some d[i]!:=by
 rw[Array.getElem?_toList,Array.getElem?_eq_getElem h,getElem!_pos d i h]
theorem yw {α:Type}[Inhabited α](d:Array α)(i j:Nat):(Go.Sort.swp d i j).toList=(d.toList.set i d[j]!).set j d[i]!:=by
 simp[Go.Sort.swp,Array.toList_setIfInBounds]
theorem swp_size {α:Type}[Inhabited α](d:Array α)(i j:Nat):(Go.Sort.swp d i j).size=d.size:=by simp[Go.Sort.swp]
def aY (a b:Nm):Bool:=decide (dN a b<0)
def aco (c:Nat)(d':Array Nm)(H:af):Out→af→Prop:=fun o H'=>o=.val (.bJ [])∧H'[c]?=some (.cells (aJ eN d'.toList))∧a9 (fun x=>x=c) H H'
theorem wq {Hx:af}{c:Nat}(d:Array Nm){i j:Nat}(hi:i<d.size)(hj:j<d.size) :
  qI Hx c [.str d[j]!.1,.int .u64 d[j]!.2] (i*2) (some (.cells (aJ eN d.toList)))=some (Hx.set c (.cells (aJ eN (d.toList.set i d[j]!)))) ∧
  ∀Hy,qI Hy c [.str d[i]!.1,.int .u64 d[i]!.2] (j*2) (some (.cells (aJ eN (d.toList.set i d[j]!))))=some (Hy.set c (.cells (aJ eN (Go.Sort.swp d i j).toList))):=by
 have g1:=jx (enc:=eN) (n:=2) (y:=d[j]!) (fun _=>rfl) (jA hi) Hx c (eN d[j]!) 0 (by simp[eN]) (by simp[eN])
 obtain⟨z,hz⟩:=bK (l:=d.toList.set i d[j]!) (i:=j) (by simpa using hj)
 have g2:=fun Hy=>jx (enc:=eN) (n:=2) (y:=d[i]!) (fun _=>rfl) hz Hy c (eN d[i]!) 0 (by simp[eN]) (by simp[eN])
 refine⟨by simpa[eN]using g1,fun Hy=>?_⟩
 rw[yw]
 simpa[eN]using g2 Hy
theorem Hv {d:Array Nm}{i:Nat}(h:i<d.size):jn 2 (i*2) (some (.cells (aJ eN d.toList)))=some [.str d[i]!.1,.int .u64 d[i]!.2]:=by
 have:=cG (enc:=eN) (n:=2) (fun _=>rfl) (jA h) 0 2 (by decide)
 simpa[eN]using this
open Go.Sort in
theorem VB (c:Nat)(d:Array Nm)(a b:Nat)(H:af)(hc:H[c]?=some (.cells (aJ eN d.toList)))(hb:b≤d.size)(fG:a≤b)(hs:d.size<4611686018427387903) :
  W env (.call 132 [.aA c 0 d.size 2,.int .i64 a,.int .i64 b,.fn 61 []]) H (aco c (insertionSort aY d a b) H):=by
 refine W.bu rfl rfl rfl ?_
 have wa:=av (show a<9223372036854775807 by omega)
 simp -implicitDefEqProofs only[Bs,op,ef,cl,sq,reduceIte,j2,j3,j4,j5,j6,j7,j8,j9,y1,S1,wa]
 refine W.cK (fun (i:Nat) R H'=>At H' (fun H'=>∃di:Array Nm,H'[c]?=some (.cells (aJ eN di.toList))∧di.size=d.size∧insOuter aY a b i di=insertionSort aY d a b∧a9 (fun x=>x=c) H H')∧R 0=.aA c 0 d.size 2∧R 1=.int .i64 a∧R 2=.int .i64 b∧R 3=.fn 61 []∧R 8=.int .i64 i∧a+1≤i) (fun i=>b-i) (a+1) ⟨.i ⟨d,hc,rfl,rfl,a9.refl _ _⟩,rfl,rfl,rfl,rfl,rfl,Nat.le_refl _⟩ ?_
 rintro i R H1⟨⟨di,hd,a7,wy,ar⟩,h0,h1,h2,h3,h8,xi⟩
 by_cases al:i<b
 ·have wi:=av (show i<9223372036854775807 by omega)
  simp -implicitDefEqProofs only[op,ef,cl,sq,reduceIte,j2,j3,j4,j5,j6,j7,j8,j9,y1,S1,h0,h1,h2,h3,h8,al]
  refine W.cT 2 (fun (j:Nat) R H'=>At H' (fun H'=>∃dj:Array Nm,H'[c]?=some (.cells (aJ eN dj.toList))∧dj.size=d.size∧insInner aY a j dj=insInner aY a i di∧a9 (fun x=>x=c) H H')∧R 0=.aA c 0 d.size 2∧R 1=.int .i64 a∧R 2=.int .i64 b∧R 3=.fn 61 []∧R 8=.int .i64 i∧R 9=.int .i64 j∧j≤i) (fun j=>j) i
   (fun R H'=>At H' (fun H'=>∃dj:Array Nm,H'[c]?=some (.cells (aJ eN dj.toList))∧dj.size=d.size∧dj=insInner aY a i di∧a9 (fun x=>x=c) H H')∧R 0=.aA c 0 d.size 2∧R 1=.int .i64 a∧R 2=.int .i64 b∧R 3=.fn 61 []∧R 8=.int .i64 i) ?_ ?_ ?_
  ·refine⟨.i ⟨di,hd,a7,rfl,ar⟩,?_,?_,?_,?_,?_,?_,Nat.le_refl _⟩
   all_goals (simp -implicitDefEqProofs only[op,ef,cl,sq,reduceIte,j2,j3,j4,j5,j6,j7,j8,j9,y1,S1,h0,h1,h2,h3,h8])
  ·rintro j R H2⟨⟨dj,cz,qM,sK,kZ⟩,q0,q1,q2,q3,q8,q9,Tp⟩
   by_cases Qy:a<j
   ·obtain⟨j',rfl⟩:∃j',j=j'+1:=⟨j-1,by omega⟩
    have wp:IntKind.i64.wrap (((j'+1:Nat):Int)-1)=(j':Int):=by rw[wrap64 (by omega)];omega
    have j1:j'+1<d.size:=by omega
    have j0:j'<d.size:=by omega
    have i1:fw 2 (j'+1) (.aA c 0 d.size 2)=some (.ptr c ((j'+1)*2)):=by rw[jZ];simp[j1]
    have i0:fw 2 j' (.aA c 0 d.size 2)=some (.ptr c (j'*2)):=by rw[jZ];simp[j0]
    have v1:=Hv (d:=dj) (i:=j'+1) (by omega)
    have v0:=Hv (d:=dj) (i:=j') (by omega)
    simp -implicitDefEqProofs only[op,ef,cl,sq,reduceIte,j2,j3,j4,j5,j6,j7,j8,j9,y1,S1,q0,q1,q2,q3,q8,q9,Qy,aa,i1,i0,wp,cz,v1,v0]
    refine mg _ _ _ _ _ _ _ (by simp -implicitDefEqProofs only[op,ef,cl,sq,reduceIte,j2,j3,j4,j5,j6,j7,j8,j9,y1,S1]) ?_
    simp -implicitDefEqProofs only[op,ef,cl,sq,reduceIte,j2,j3,j4,j5,j6,j7,j8,j9,y1,S1,cB,q0,q1,q2,q3,q8,q9,List.append_nil]
    refine ae _ _ _ _ _ _ _ _ (cq dj[j'+1]! dj[j']! _) ?_
    rintro u H3⟨hu,hx⟩
    cases hu
    have hx:Ext H2 H3:=hx
    have oZ:=hx.get cz
    obtain⟨s1,s2⟩:=wq (Hx:=H3) (c:=c) dj (i:=j'+1) (j:=j') (by omega) (by omega)
    have VC:a9 (fun x=>x=c) H H3:=kZ.trans (ax (F:=fun _=>False) hx) (fun _ h=>h.elim)
    have ltd:aY dj[j'+1]! dj[j']! = decide (dN dj[j'+1]! dj[j']!<0):=rfl
    by_cases nG:dN dj[j'+1]! dj[j']!<0
    ·simp -implicitDefEqProofs only[op,ef,cl,sq,reduceIte,j2,j3,j4,j5,j6,j7,j8,j9,y1,S1,q0,q1,q2,q3,q8,q9,nG,aa,i1,i0,wp,oZ,v1,v0,s1,S2,s2,aM oZ]
     exact⟨j',by omega,.i ⟨swp dj (j'+1) j',bR (by rw[List.length_set];exact aM oZ),by rw[swp_size];exact qM,by rw[←sK];conv=>{ rhs;rw[insInner,if_pos (by simp -implicitDefEqProofs only[Bool.and_eq_true,decide_eq_true_eq,ltd];exact⟨Qy,nG⟩)] },(VC.set (.inl rfl) _).set (.inl rfl) _⟩,rfl,by omega⟩
    ·simp -implicitDefEqProofs only[op,ef,cl,sq,reduceIte,j2,j3,j4,j5,j6,j7,j8,j9,y1,S1,q0,q1,q2,q3,q8,q9,nG]
     exact .i ⟨dj,oZ,qM,by rw[←sK,insInner,ltd];simp[nG],VC⟩
   ·simp -implicitDefEqProofs only[op,ef,cl,sq,reduceIte,j2,j3,j4,j5,j6,j7,j8,j9,y1,S1,q0,q1,q2,q3,q8,q9,Qy]
    refine .i ⟨dj,cz,qM,?_,kZ⟩
    rw[←sK]
    cases j with
    | zero=>rfl
    | succ j=>rw[insInner,if_neg (by simp -implicitDefEqProofs only[Bool.and_eq_true,decide_eq_true_eq];omega)]
  ·rintro R H2⟨⟨dj,cz,qM,sK,kZ⟩,q0,q1,q2,q3,q8⟩
   simp -implicitDefEqProofs only[op,ef,cl,sq,reduceIte,j2,j3,j4,j5,j6,j7,j8,j9,y1,S1,q0,q1,q2,q3,q8,wi]
   refine⟨i+1,by omega,.i ⟨dj,cz,qM,?_,kZ⟩,rfl,by omega⟩
   rw[←wy,sK]
   conv=>rhs;rw[insOuter,if_pos al]
 ·simp -implicitDefEqProofs only[op,ef,cl,sq,reduceIte,j2,j3,j4,j5,j6,j7,j8,j9,y1,S1,h0,h1,h2,h3,h8,al]
  rw[insOuter,if_neg al]at wy
  subst wy
  exact⟨rfl,hd,ar⟩
theorem Lt {β:Type}{K:Option β→Prop}{A:Array UInt8}{n:Nat}(hn:n<A.size)(f:UInt8→β)(h:∀c,K (some (f c))):K (Option.map f A[n]?):=by rw[Array.getElem?_eq_getElem hn];exact h _
theorem VD (n:Nat)(hn:n<256)(H:af):W env (.call 118 [.int .u64 n]) H (fun o H'=>H'=H∧∃m:Nat,o=.val (.int .i64 m)):=by
 refine W.bu rfl rfl rfl ?_
 simp -implicitDefEqProofs only[Br,op,ef,cl,sq,reduceIte,j2,j3,j4,j5,j6,j7,j8,j9,y1,S1]
 refine ae _ _ _ _ _ _ _ (fun o H'=>H'=H∧∃m:Nat,o=.val (.int .i64 m)) ?_ ?_
 ·refine W.bu rfl rfl rfl ?_
  have h1:¬(4294967296≤n):=by omega
  have h2:¬(65536≤n):=by omega
  have h3:¬(256≤n):=by omega
  have Qz:=ym hn
  simp -implicitDefEqProofs only[uZ,op,ef,cl,sq,reduceIte,j2,j3,j4,j5,j6,j7,j8,j9,y1,S1,h1,h2,h3,Qz,aa]
  refine Lt (K:=me env _ _ _ _ _ _ _ _) (by show n<256;exact hn) _ fun ch=>?_
  have DU:ch.toNat<256:=ch.toNat_lt
  have wc:IntKind.i64.wrap ((ch.toNat:Nat):Int)=((ch.toNat:Nat):Int):=wrap64 (by omega)
  have wc2:IntKind.i64.wrap (0+((ch.toNat:Nat):Int))=((ch.toNat:Nat):Int):=by rw[wrap64 (by omega)];omega
  simp -implicitDefEqProofs only[op,ef,cl,sq,reduceIte,j2,j3,j4,j5,j6,j7,j8,j9,y1,S1,wc,wc2]
  exact⟨ch.toNat,rfl⟩
 ·rintro u H'⟨rfl,m,hu⟩
  cases hu
  simp -implicitDefEqProofs only[op,ef,cl,sq,reduceIte,j2,j3,j4,j5,j6,j7,j8,j9,y1,S1]
  exact⟨m,rfl⟩
set_option maxHeartbeats 8000000
theorem wA {a b:Nat}(h:a+b<9223372036854775808):IntKind.i64.wrap ((a:Int)+(b:Int))=((a+b:Nat):Int):=by rw[wrap64 (by omega)];omega
theorem a6 {a:Nat}(h:a+1<9223372036854775808):IntKind.i64.wrap ((a:Int)+1)=((a+1:Nat):Int):=by rw[wrap64 (by omega)];omega
theorem wS {a b:Nat}(h:b≤a∧a<9223372036854775808):IntKind.i64.wrap ((a:Int)-(b:Int))=((a-b:Nat):Int):=by rw[wrap64 (by omega)];omega
theorem a0 {a:Nat}(h:1≤a∧a<9223372036854775808):IntKind.i64.wrap ((a:Int)-1)=((a-1:Nat):Int):=by rw[wrap64 (by omega)];omega
theorem wM {a:Nat}(h:2*a<9223372036854775808):IntKind.i64.wrap (2*(a:Int))=((2*a:Nat):Int):=by rw[wrap64 (by omega)];omega
section
variable {c n i j:Nat} {d:Array Nm}
theorem aQ (h:i<n):fw 2 i (.aA c 0 n 2)=some (.ptr c (i*2)):=by rw[jZ];simp[h]
theorem sL {l:List Nm}:(aJ eN l).length=l.length*2:=by rw[dF (n:=2) (fun _=>rfl)]
theorem aR (h:i<d.size):(i*2+2≤(aJ eN d.toList).length)=True:=by rw[sL];simp;omega
theorem aS (h:i<d.size):List.take 2 (List.drop (i*2) (aJ eN d.toList))=[.str d[i]!.1,.int .u64 d[i]!.2]:=by
 have:=Hv h
 rw[nR,if_pos (by rw[sL];simp;omega)]at this
 exact Option.some.inj this
theorem aU {x:Nm}(h:i<d.size):(i*2+2≤(aJ eN (d.toList.set j x)).length)=True:=by rw[sL];simp;omega
theorem aV (h:i<d.size)(h':j<d.size):(List.take (i*2) (aJ eN d.toList)++[.str d[j]!.1,.int .u64 d[j]!.2])++List.drop (i*2+2) (aJ eN d.toList)=aJ eN (d.toList.set i d[j]!):=by
 have:=(wq (Hx:=[.cells []]) (c:=0) d h h').1
 rw[iZ,if_pos (by rw[sL];simp;omega)]at this
 simpa using this
theorem aW (h:i<d.size)(h':j<d.size):(List.take (j*2) (aJ eN (d.toList.set i d[j]!))++[.str d[i]!.1,.int .u64 d[i]!.2])++List.drop (j*2+2) (aJ eN (d.toList.set i d[j]!))=aJ eN (Go.Sort.swp d i j).toList:=by
 have:=(wq (Hx:=[.cells []]) (c:=0) d h h').2 [.cells []]
 rw[iZ,if_pos (by rw[sL];simp;omega)]at this
 simpa using this
end
theorem ct {p:Prop}[Decidable p](h:p):decide p=true:=decide_eq_true h
theorem cr {p:Prop}[Decidable p](h:¬p):decide p=false:=decide_eq_false h
theorem gg {a b:Bool}(h:a=true)(h':b=true):(a&&b)=true:=by rw[h,h'];rfl
theorem dw {a b:Bool}(h:a=false):¬((a&&b)=true):=by rw[h];simp
theorem eb {a b:Bool}(h:b=false):¬((a&&b)=true):=by rw[h];simp
theorem lA {a:Bool}(h:a=true):¬((!a)=true):=by rw[h];simp
theorem fE {a:Bool}(h:a=false):(!a)=true:=by rw[h];rfl
def SC (c n:Nat)(H:af)(P:Array Nm→Prop)(H':af):Prop:=∃d:Array Nm,H'[c]?=some (.cells (aJ eN d.toList))∧d.size=n∧P d∧a9 (fun x=>x=c) H H'
theorem SC.swp {c n:Nat}{H H1:af}{P:Array Nm→Prop}{y x:B}{d':Array Nm}(hd:H1[c]?=some y)(hs:d'.size=n)(hP:P d')(hf:a9 (fun x=>x=c) H H1):SC c n H P ((H1.set c x).set c (.cells (aJ eN d'.toList))) :=
 ⟨d',bR (by rw[List.length_set];exact aM hd),hs,hP,(hf.set (.inl rfl) _).set (.inl rfl) _⟩
def zS (c n:Nat)(d':Array Nm)(H:af):Out→af→Prop:=fun o H'=>o=.val (.bJ [])∧SC c n H (fun x=>x=d') H'
open Go.Sort in
theorem VE (c n:Nat)(d:Array Nm)(a b:Nat)(H:af)(hn:d.size=n)(hc:H[c]?=some (.cells (aJ eN d.toList)))(hb:b≤n)(fG:a<b)(hs:n<4611686018427387903) :
  W env (.call 136 [.aA c 0 n 2,.int .i64 a,.int .i64 b,.fn 61 []]) H (zS c n (reverseRange d a b) H):=by
 refine W.bu rfl rfl rfl ?_
 simp -implicitDefEqProofs (maxSteps:=1000000) (disch:=omega) only[GS,op,ef,cl,sq,reduceIte,j2,j3,j4,j5,j6,j7,j8,j9,y1,S1,a0]
 refine W.cK (fun (i:Nat) R H'=>At H' (fun H'=>∃j,R 9=.int .i64 (j:Nat)∧i+j=a+b-1∧a≤i∧SC c n H (fun di=>reverseLoop i j di=reverseRange d a b) H')∧R 0=.aA c 0 n 2∧R 8=.int .i64 i) (fun i=>a+b-i) a ⟨.i ⟨b-1,rfl,by omega,Nat.le_refl _,d,hc,hn,rfl,a9.refl _ _⟩,rfl,rfl⟩ ?_
 rintro i R H1⟨⟨j,h9,sH,Hw,di,hd,a7,zT,ar⟩,h0,h8⟩
 have lc:=aM hd
 by_cases al:i<j
 ·simp -implicitDefEqProofs (maxSteps:=1000000) (disch:=omega) only[aa,aQ,aR,aS,aU,aV,aW,wA,a6,wS,a0,wM,S2,op,ef,cl,sq,reduceIte,j2,j3,j4,j5,j6,j7,j8,j9,y1,S1,h0,h8,h9,al,hd,lc]
  exact⟨i+1,by omega,.i ⟨j-1,rfl,by omega,by omega,.swp hd (by rw[swp_size];exact a7) (by rw[←zT];conv=>{ rhs;rw[reverseLoop,if_pos al] }) ar⟩,rfl⟩
 ·simp -implicitDefEqProofs only[op,ef,cl,sq,reduceIte,j2,j3,j4,j5,j6,j7,j8,j9,y1,S1,h0,h8,h9,al]
  rw[reverseLoop,if_neg al]at zT
  exact⟨rfl,di,hd,a7,zT,ar⟩
set_option maxHeartbeats 8000000
open Go.Sort in
theorem Hz (c n:Nat)(d:Array Nm)(lo hi first:Nat)(H:af)(hn:d.size=n)(hc:H[c]?=some (.cells (aJ eN d.toList)))(hb:first+hi≤n)(pq:lo≤n)(hs:n<2305843009213693951) :
  W env (.call 153 [.aA c 0 n 2,.int .i64 lo,.int .i64 hi,.int .i64 first,.fn 61 []]) H (zS c n (siftDown aY hi first lo d) H):=by
 refine W.bu rfl rfl rfl ?_
 simp -implicitDefEqProofs only[G6,op,ef,cl,sq,reduceIte,j2,j3,j4,j5,j6,j7,j8,j9,y1,S1]
 refine W.cK (fun (r:Nat) R H'=>At H' (fun H'=>SC c n H (fun di=>siftDown aY hi first r di=siftDown aY hi first lo d) H')∧R 0=.aA c 0 n 2∧R 2=.int .i64 hi∧R 3=.int .i64 first∧R 4=.fn 61 []∧R 10=.int .i64 r∧r≤n) (fun r=>hi-r) lo ⟨.i ⟨d,hc,hn,rfl,a9.refl _ _⟩,rfl,rfl,rfl,rfl,rfl,pq⟩ ?_
 rintro r R H1⟨⟨di,hd,a7,hP,ar⟩,h0,h2,h3,h4,aC,hr⟩
 have lc:=aM hd
 by_cases dJ:2*r+1≥hi
 ·simp -implicitDefEqProofs (maxSteps:=1000000) (disch:=omega) only[aa,aQ,aR,aS,aU,aV,aW,wA,a6,wS,a0,wM,S2,op,ef,cl,sq,reduceIte,j2,j3,j4,j5,j6,j7,j8,j9,y1,S1,h0,h2,h3,h4,aC,dJ]
  rw[siftDown,dif_pos dJ]at hP
  exact⟨rfl,di,hd,a7,hP,ar⟩
 by_cases dy:2*r+1+1<hi
 ·simp -implicitDefEqProofs (maxSteps:=1000000) (disch:=omega) only[aa,aQ,aR,aS,aU,aV,aW,wA,a6,wS,a0,wM,S2,op,ef,cl,sq,reduceIte,j2,j3,j4,j5,j6,j7,j8,j9,y1,S1,h0,h2,h3,h4,aC,dJ,dy,hd,lc]
  refine mg _ _ _ _ _ _ _ (by simp -implicitDefEqProofs (maxSteps:=1000000) (disch:=omega) only[aa,aQ,aR,aS,aU,aV,aW,wA,a6,wS,a0,wM,S2,op,ef,cl,sq,reduceIte,j2,j3,j4,j5,j6,j7,j8,j9,y1,S1,h0,h2,h3,h4,aC,dJ,dy,hd,lc]) ?_
  simp -implicitDefEqProofs (maxSteps:=1000000) (disch:=omega) only[aa,aQ,aR,aS,aU,aV,aW,wA,a6,wS,a0,wM,S2,op,ef,cl,sq,reduceIte,j2,j3,j4,j5,j6,j7,j8,j9,y1,S1,cB,h0,h2,h3,h4,aC,dJ,dy,hd,lc,List.append_nil]
  refine ae _ _ _ _ _ _ _ _ (cq di[first+(2*r+1)]! di[first+(2*r+1)+1]! _) ?_
  rintro u H2⟨hu,hx⟩
  cases hu
  have hx:Ext H1 H2:=hx
  have hd:=hx.get hd
  have lc:=aM hd
  have ar:=ar.trans (ax (F:=fun _=>False) hx) (fun _ h=>h.elim)
  have cV:aY di[first+(2*r+1)]! di[first+(2*r+1)+1]! = decide (dN di[first+(2*r+1)]! di[first+(2*r+1)+1]!<0):=rfl
  by_cases c1:dN di[first+(2*r+1)]! di[first+(2*r+1)+1]!<0
  ·simp -implicitDefEqProofs (maxSteps:=1000000) (disch:=omega) only[aa,aQ,aR,aS,aU,aV,aW,wA,a6,wS,a0,wM,S2,op,ef,cl,sq,reduceIte,j2,j3,j4,j5,j6,j7,j8,j9,y1,S1,h0,h2,h3,h4,aC,dJ,dy,hd,lc,c1]
   refine mg _ _ _ _ _ _ _ (by simp -implicitDefEqProofs (maxSteps:=1000000) (disch:=omega) only[aa,aQ,aR,aS,aU,aV,aW,wA,a6,wS,a0,wM,S2,op,ef,cl,sq,reduceIte,j2,j3,j4,j5,j6,j7,j8,j9,y1,S1,h0,h2,h3,h4,aC,dJ,dy,hd,lc]) ?_
   simp -implicitDefEqProofs (maxSteps:=1000000) (disch:=omega) only[aa,aQ,aR,aS,aU,aV,aW,wA,a6,wS,a0,wM,S2,op,ef,cl,sq,reduceIte,j2,j3,j4,j5,j6,j7,j8,j9,y1,S1,cB,h0,h2,h3,h4,aC,dJ,dy,hd,lc,List.append_nil]
   refine ae _ _ _ _ _ _ _ _ (cq di[first+r]! di[first+(2*r+1+1)]! _) ?_
   rintro u H3⟨hu,hx⟩
   cases hu
   have hx:Ext H2 H3:=hx
   have hd:=hx.get hd
   have lc:=aM hd
   have ar:=ar.trans (ax (F:=fun _=>False) hx) (fun _ h=>h.elim)
   have yx:aY di[first+r]! di[first+(2*r+1+1)]! = decide (dN di[first+r]! di[first+(2*r+1+1)]!<0):=rfl
   by_cases c2:dN di[first+r]! di[first+(2*r+1+1)]!<0
   ·simp -implicitDefEqProofs (maxSteps:=1000000) (disch:=omega) only[aa,aQ,aR,aS,aU,aV,aW,wA,a6,wS,a0,wM,S2,op,ef,cl,sq,reduceIte,j2,j3,j4,j5,j6,j7,j8,j9,y1,S1,h0,h2,h3,h4,aC,dJ,dy,hd,lc,c2]
    refine⟨2*r+1+1,by omega,.i (.swp hd (by rw[swp_size];exact a7) ?_ ar),rfl,by omega⟩
    rw[←hP]
    conv=>{ rhs;rw[siftDown,dif_neg dJ,if_pos (gg (ct dy) (cV.trans (ct c1))),if_neg (lA (yx.trans (ct c2))),dif_pos dy] }
   ·simp -implicitDefEqProofs (maxSteps:=1000000) (disch:=omega) only[aa,aQ,aR,aS,aU,aV,aW,wA,a6,wS,a0,wM,S2,op,ef,cl,sq,reduceIte,j2,j3,j4,j5,j6,j7,j8,j9,y1,S1,h0,h2,h3,h4,aC,dJ,dy,hd,lc,c2]
    rw[siftDown,dif_neg dJ,if_pos (gg (ct dy) (cV.trans (ct c1))),if_pos (fE (yx.trans (cr c2)))]at hP
    exact⟨rfl,di,hd,a7,hP,ar⟩
  ·simp -implicitDefEqProofs (maxSteps:=1000000) (disch:=omega) only[aa,aQ,aR,aS,aU,aV,aW,wA,a6,wS,a0,wM,S2,op,ef,cl,sq,reduceIte,j2,j3,j4,j5,j6,j7,j8,j9,y1,S1,h0,h2,h3,h4,aC,dJ,dy,hd,lc,c1]
   refine mg _ _ _ _ _ _ _ (by simp -implicitDefEqProofs (maxSteps:=1000000) (disch:=omega) only[aa,aQ,aR,aS,aU,aV,aW,wA,a6,wS,a0,wM,S2,op,ef,cl,sq,reduceIte,j2,j3,j4,j5,j6,j7,j8,j9,y1,S1,h0,h2,h3,h4,aC,dJ,dy,hd,lc]) ?_
   simp -implicitDefEqProofs (maxSteps:=1000000) (disch:=omega) only[aa,aQ,aR,aS,aU,aV,aW,wA,a6,wS,a0,wM,S2,op,ef,cl,sq,reduceIte,j2,j3,j4,j5,j6,j7,j8,j9,y1,S1,cB,h0,h2,h3,h4,aC,dJ,dy,hd,lc,List.append_nil]
   refine ae _ _ _ _ _ _ _ _ (cq di[first+r]! di[first+(2*r+1)]! _) ?_
   rintro u H3⟨hu,hx⟩
   cases hu
   have hx:Ext H2 H3:=hx
   have hd:=hx.get hd
   have lc:=aM hd
   have ar:=ar.trans (ax (F:=fun _=>False) hx) (fun _ h=>h.elim)
   have yx:aY di[first+r]! di[first+(2*r+1)]! = decide (dN di[first+r]! di[first+(2*r+1)]!<0):=rfl
   by_cases c2:dN di[first+r]! di[first+(2*r+1)]!<0
   ·simp -implicitDefEqProofs (maxSteps:=1000000) (disch:=omega) only[aa,aQ,aR,aS,aU,aV,aW,wA,a6,wS,a0,wM,S2,op,ef,cl,sq,reduceIte,j2,j3,j4,j5,j6,j7,j8,j9,y1,S1,h0,h2,h3,h4,aC,dJ,dy,hd,lc,c2]
    refine⟨2*r+1,by omega,.i (.swp hd (by rw[swp_size];exact a7) ?_ ar),rfl,by omega⟩
    rw[←hP]
    conv=>{ rhs;rw[siftDown,dif_neg dJ,if_neg (eb (cV.trans (cr c1))),if_neg (lA (yx.trans (ct c2)))] }
   ·simp -implicitDefEqProofs (maxSteps:=1000000) (disch:=omega) only[aa,aQ,aR,aS,aU,aV,aW,wA,a6,wS,a0,wM,S2,op,ef,cl,sq,reduceIte,j2,j3,j4,j5,j6,j7,j8,j9,y1,S1,h0,h2,h3,h4,aC,dJ,dy,hd,lc,c2]
    rw[siftDown,dif_neg dJ,if_neg (eb (cV.trans (cr c1))),if_pos (fE (yx.trans (cr c2)))]at hP
    exact⟨rfl,di,hd,a7,hP,ar⟩
 ·simp -implicitDefEqProofs (maxSteps:=1000000) (disch:=omega) only[aa,aQ,aR,aS,aU,aV,aW,wA,a6,wS,a0,wM,S2,op,ef,cl,sq,reduceIte,j2,j3,j4,j5,j6,j7,j8,j9,y1,S1,h0,h2,h3,h4,aC,dJ,dy,hd,lc]
  simp -implicitDefEqProofs only[op,ef,cl,sq,reduceIte,j2,j3,j4,j5,j6,j7,j8,j9,y1,S1]
  simp -implicitDefEqProofs (maxSteps:=1000000) (disch:=omega) only[aa,aQ,aR,aS,aU,aV,aW,wA,a6,wS,a0,wM,S2,op,ef,cl,sq,reduceIte,j2,j3,j4,j5,j6,j7,j8,j9,y1,S1,h0,h2,h3,h4,aC,dJ,dy,hd,lc]
  refine mg _ _ _ _ _ _ _ (by simp -implicitDefEqProofs (maxSteps:=1000000) (disch:=omega) only[aa,aQ,aR,aS,aU,aV,aW,wA,a6,wS,a0,wM,S2,op,ef,cl,sq,reduceIte,j2,j3,j4,j5,j6,j7,j8,j9,y1,S1,h0,h2,h3,h4,aC,dJ,dy,hd,lc]) ?_
  simp -implicitDefEqProofs (maxSteps:=1000000) (disch:=omega) only[aa,aQ,aR,aS,aU,aV,aW,wA,a6,wS,a0,wM,S2,op,ef,cl,sq,reduceIte,j2,j3,j4,j5,j6,j7,j8,j9,y1,S1,cB,h0,h2,h3,h4,aC,dJ,dy,hd,lc,List.append_nil]
  refine ae _ _ _ _ _ _ _ _ (cq di[first+r]! di[first+(2*r+1)]! _) ?_
  rintro u H3⟨hu,hx⟩
  cases hu
  have hx:Ext H1 H3:=hx
  have hd:=hx.get hd
  have lc:=aM hd
  have ar:=ar.trans (ax (F:=fun _=>False) hx) (fun _ h=>h.elim)
  have yx:aY di[first+r]! di[first+(2*r+1)]! = decide (dN di[first+r]! di[first+(2*r+1)]!<0):=rfl
  by_cases c2:dN di[first+r]! di[first+(2*r+1)]!<0
  ·simp -implicitDefEqProofs (maxSteps:=1000000) (disch:=omega) only[aa,aQ,aR,aS,aU,aV,aW,wA,a6,wS,a0,wM,S2,op,ef,cl,sq,reduceIte,j2,j3,j4,j5,j6,j7,j8,j9,y1,S1,h0,h2,h3,h4,aC,dJ,dy,hd,lc,c2]
   refine⟨2*r+1,by omega,.i (.swp hd (by rw[swp_size];exact a7) ?_ ar),rfl,by omega⟩
   rw[←hP]
   conv=>{ rhs;rw[siftDown,dif_neg dJ,if_neg (dw (cr dy)),if_neg (lA (yx.trans (ct c2)))] }
  ·simp -implicitDefEqProofs (maxSteps:=1000000) (disch:=omega) only[aa,aQ,aR,aS,aU,aV,aW,wA,a6,wS,a0,wM,S2,op,ef,cl,sq,reduceIte,j2,j3,j4,j5,j6,j7,j8,j9,y1,S1,h0,h2,h3,h4,aC,dJ,dy,hd,lc,c2]
   rw[siftDown,dif_neg dJ,if_neg (dw (cr dy)),if_pos (fE (yx.trans (cr c2)))]at hP
   exact⟨rfl,di,hd,a7,hP,ar⟩
set_option maxHeartbeats 8000000
theorem wQ2 {a:Nat}(h:a<9223372036854775808):IntKind.i64.wrap ((a:Int).tdiv 2)=((a/2:Nat):Int):=by rw[Int.tdiv_eq_ediv_of_nonneg (by omega),wrap64 (by omega)];omega
theorem Yc {a:Nat}(h:a<9223372036854775808):IntKind.i64.wrap ((a:Int)-1)=(a:Int)-1:=wrap64 (by omega)
theorem Lu {a:Nat}:(((a:Nat):Int)≥0)=True:=by simp
open Go.Sort in
theorem QA (c n:Nat)(d:Array Nm)(a b:Nat)(H:af)(hn:d.size=n)(hc:H[c]?=some (.cells (aJ eN d.toList)))(hb:b≤n)(fG:a<b)(hs:n<2305843009213693951) :
  W env (.call 133 [.aA c 0 n 2,.int .i64 a,.int .i64 b,.fn 61 []]) H (zS c n (heapSort aY d a b) H):=by
 refine W.bu rfl rfl rfl ?_
 simp -implicitDefEqProofs (maxSteps:=1000000) (disch:=omega) only[GQ,aa,aQ,aR,aS,aU,aV,aW,wA,a6,wS,a0,wM,S2,op,ef,cl,sq,reduceIte,j2,j3,j4,j5,j6,j7,j8,j9,y1,S1,wQ2]
 refine W.cT 0 (fun (k:Nat) R H'=>At H' (fun H'=>SC c n H (fun di=>heapBuild aY (b-a) a k di=heapBuild aY (b-a) a ((b-a-1)/2+1) d) H')∧R 0=.aA c 0 n 2∧R 3=.fn 61 []∧R 8=.int .i64 a∧R 9=.int .i64 0∧R 10=.int .i64 (b-a:Nat)∧R 11=.int .i64 ((k:Int)-1)∧k≤b-a) (fun k=>k) ((b-a-1)/2+1)
  (fun R H'=>At H' (fun H'=>SC c n H (fun di=>di=heapBuild aY (b-a) a ((b-a-1)/2+1) d) H')∧R 0=.aA c 0 n 2∧R 3=.fn 61 []∧R 8=.int .i64 a∧R 9=.int .i64 0∧R 10=.int .i64 (b-a:Nat))
  ⟨.i ⟨d,hc,hn,rfl,a9.refl _ _⟩,rfl,rfl,rfl,rfl,rfl,by simp[pn],by omega⟩ ?_ ?_
 ·rintro k R H1⟨⟨di,hd,a7,hP,ar⟩,h0,h3,h8,h9,aC,bf,hk⟩
  cases k with
  | zero =>
   rw[show(((0:Nat):Int)-1)=-1 from rfl]at bf
   simp -implicitDefEqProofs (maxSteps:=1000000) (disch:=omega) only[aa,aQ,aR,aS,aU,aV,aW,wA,a6,wS,a0,wM,S2,op,ef,cl,sq,reduceIte,j2,j3,j4,j5,j6,j7,j8,j9,y1,S1,h0,h3,h8,h9,aC,bf]
   exact .i ⟨di,hd,a7,hP,ar⟩
  | succ k =>
   rw[show(((k+1:Nat):Int)-1)=(k:Int) by omega]at bf
   simp -implicitDefEqProofs (maxSteps:=1000000) (disch:=omega) only[aa,aQ,aR,aS,aU,aV,aW,wA,a6,wS,a0,wM,S2,op,ef,cl,sq,reduceIte,j2,j3,j4,j5,j6,j7,j8,j9,y1,S1,h0,h3,h8,h9,aC,bf,Lu]
   refine ae _ _ _ _ _ _ _ _ (Hz c n di k (b-a) a _ a7 hd (by omega) (by omega) hs) ?_
   rintro u H2⟨hu,d2,cz,jb,rfl,eF⟩
   cases hu
   simp -implicitDefEqProofs (maxSteps:=1000000) (disch:=omega) only[Yc,op,ef,cl,sq,reduceIte,j2,j3,j4,j5,j6,j7,j8,j9,y1,S1,h0,h3,h8,h9,aC,bf]
   exact⟨k,by omega,.i ⟨_,cz,jb,hP,ar.trans eF fun _ h=>.inl h⟩,rfl,by omega⟩
 ·rintro R H1⟨⟨di,hd,a7,hP,ar⟩,h0,h3,h8,h9,aC⟩
  simp -implicitDefEqProofs (maxSteps:=1000000) (disch:=omega) only[aa,aQ,aR,aS,aU,aV,aW,wA,a6,wS,a0,wM,S2,op,ef,cl,sq,reduceIte,j2,j3,j4,j5,j6,j7,j8,j9,y1,S1,h0,h3,h8,h9,aC]
  refine W.cK (fun (k:Nat) R H'=>At H' (fun H'=>SC c n H (fun di=>heapPop aY a k di=heapSort aY d a b) H')∧R 0=.aA c 0 n 2∧R 3=.fn 61 []∧R 8=.int .i64 a∧R 9=.int .i64 0∧R 10=.int .i64 (b-a:Nat)∧R 12=.int .i64 ((k:Int)-1)∧k≤b-a) (fun k=>k) (b-a) ⟨.i ⟨di,hd,a7,by rw[hP];rfl,ar⟩,?_,?_,?_,?_,?_,?_,Nat.le_refl _⟩ ?_
  ·simp -implicitDefEqProofs only[op,ef,cl,sq,reduceIte,j2,j3,j4,j5,j6,j7,j8,j9,y1,S1,h0]
  ·simp -implicitDefEqProofs only[op,ef,cl,sq,reduceIte,j2,j3,j4,j5,j6,j7,j8,j9,y1,S1,h3]
  ·simp -implicitDefEqProofs only[op,ef,cl,sq,reduceIte,j2,j3,j4,j5,j6,j7,j8,j9,y1,S1,h8]
  ·simp -implicitDefEqProofs only[op,ef,cl,sq,reduceIte,j2,j3,j4,j5,j6,j7,j8,j9,y1,S1,h9]
  ·simp -implicitDefEqProofs only[op,ef,cl,sq,reduceIte,j2,j3,j4,j5,j6,j7,j8,j9,y1,S1,aC]
  ·simp -implicitDefEqProofs only[op,ef,cl,sq,reduceIte,j2,j3,j4,j5,j6,j7,j8,j9,y1,S1];omega
  rintro k R H1⟨⟨di,hd,a7,hP,ar⟩,h0,h3,h8,h9,aC,aB,hk⟩
  have lc:=aM hd
  cases k with
  | zero =>
   rw[show(((0:Nat):Int)-1)=-1 from rfl]at aB
   simp -implicitDefEqProofs (maxSteps:=1000000) (disch:=omega) only[aa,aQ,aR,aS,aU,aV,aW,wA,a6,wS,a0,wM,S2,op,ef,cl,sq,reduceIte,j2,j3,j4,j5,j6,j7,j8,j9,y1,S1,h0,h3,h8,h9,aC,aB]
   exact⟨rfl,di,hd,a7,hP,ar⟩
  | succ k =>
   rw[show(((k+1:Nat):Int)-1)=(k:Int) by omega]at aB
   simp -implicitDefEqProofs (maxSteps:=1000000) (disch:=omega) only[aa,aQ,aR,aS,aU,aV,aW,wA,a6,wS,a0,wM,S2,op,ef,cl,sq,reduceIte,j2,j3,j4,j5,j6,j7,j8,j9,y1,S1,h0,h3,h8,h9,aC,aB,Lu,hd,lc]
   obtain⟨d1,pw,zU,rfl,qg⟩:=SC.swp (n:=n) (P:=fun x=>x=swp di a (a+k)) (x:=.cells (aJ eN (di.toList.set a di[a+k]!))) hd (by rw[Go.Sort.swp_size];exact a7) rfl ar
   refine ae _ _ _ _ _ _ _ _ (Hz c n _ 0 k a _ zU pw (by omega) (by omega) hs) ?_
   rintro u H2⟨hu,d2,cz,jb,rfl,eF⟩
   cases hu
   simp -implicitDefEqProofs (maxSteps:=1000000) (disch:=omega) only[Yc,op,ef,cl,sq,reduceIte,j2,j3,j4,j5,j6,j7,j8,j9,y1,S1,h0,h3,h8,h9,aC,aB]
   exact⟨k,by omega,.i ⟨_,cz,jb,hP,qg.trans eF fun _ h=>.inl h⟩,rfl,by omega⟩
set_option maxHeartbeats 8000000
def VF (p:Nat)(r:Nat×Nat×Nat)(H:af):Out→af→Prop:=fun o H'=>o=.val (.bJ [.int .i64 r.1,.int .i64 r.2.1])∧H'[p]?=some (.cells [.int .i64 r.2.2])∧a9 (fun x=>x=p) H H'
open Go.Sort in
theorem zV (c n p sw:Nat)(d:Array Nm)(a b:Nat)(H:af)(hn:d.size=n)(hc:H[c]?=some (.cells (aJ eN d.toList)))(hp:H[p]?=some (.cells [.int .i64 sw]))(ha:a<n)(hb:b<n)(hs:n<2305843009213693951)(QB:sw<1000) :
  W env (.call 162 [.aA c 0 n 2,.int .i64 a,.int .i64 b,.ptr p 0,.fn 61 []]) H (VF p (order2 aY d a b sw) H):=by
 refine W.bu rfl rfl rfl ?_
 have hd:=hc
 have ar:=a9.refl (fun x=>x=p) H
 simp -implicitDefEqProofs (maxSteps:=1000000) (disch:=omega) only[Hf,aa,aQ,aR,aS,aU,aV,aW,wA,a6,wS,a0,wM,S2,op,ef,cl,sq,reduceIte,j2,j3,j4,j5,j6,j7,j8,j9,y1,S1,hd]
 refine mg _ _ _ _ _ _ _ (by simp -implicitDefEqProofs (maxSteps:=1000000) (disch:=omega) only[aa,aQ,aR,aS,aU,aV,aW,wA,a6,wS,a0,wM,S2,op,ef,cl,sq,reduceIte,j2,j3,j4,j5,j6,j7,j8,j9,y1,S1,hd]) ?_
 simp -implicitDefEqProofs (maxSteps:=1000000) (disch:=omega) only[aa,aQ,aR,aS,aU,aV,aW,wA,a6,wS,a0,wM,S2,op,ef,cl,sq,reduceIte,j2,j3,j4,j5,j6,j7,j8,j9,y1,S1,cB,hd,List.append_nil]
 refine ae _ _ _ _ _ _ _ _ (cq d[b]! d[a]! _) ?_
 rintro u H1⟨hu,hx⟩
 cases hu
 have hx:Ext H H1:=hx
 have hd:=hx.get hd
 have lc:=aM hd
 have ar:=ar.trans (ax (F:=fun _=>False) hx) (fun _ h=>h.elim)
 have kG:=hx.get hp
 have lp:=aM kG
 have cV:aY d[b]! d[a]! = decide (dN d[b]! d[a]!<0):=rfl
 by_cases c1:dN d[b]! d[a]!<0
 ·simp -implicitDefEqProofs (maxSteps:=1000000) (disch:=omega) only[aa,aQ,aR,aS,aU,aV,aW,wA,a6,wS,a0,wM,S2,op,ef,cl,sq,reduceIte,j2,j3,j4,j5,j6,j7,j8,j9,y1,S1,hd,c1,kG,lp]
  refine⟨?_,?_,?_⟩
  ·rw[order2,if_pos (cV.trans (ct c1))]
  ·rw[order2,if_pos (cV.trans (ct c1))];exact bR lp
  ·exact ar.set (.inl rfl) _
 ·simp -implicitDefEqProofs (maxSteps:=1000000) (disch:=omega) only[aa,aQ,aR,aS,aU,aV,aW,wA,a6,wS,a0,wM,S2,op,ef,cl,sq,reduceIte,j2,j3,j4,j5,j6,j7,j8,j9,y1,S1,hd,c1,kG,lp]
  refine⟨?_,?_,?_⟩
  ·rw[order2,if_neg (by rw[cV,cr c1];simp)]
  ·rw[order2,if_neg (by rw[cV,cr c1];simp)];exact kG
  ·exact ar
theorem zW (d:Array Nm){n a b sw:Nat}(ha:a<n)(hb:b<n):(Go.Sort.order2 aY d a b sw).1<n∧(Go.Sort.order2 aY d a b sw).2.1<n∧(Go.Sort.order2 aY d a b sw).2.2≤sw+1:=by
 unfold Go.Sort.order2
 split
 ·exact⟨hb,ha,Nat.le_refl _⟩
 ·exact⟨ha,hb,Nat.le_succ _⟩
def Lv (p:Nat)(r:Nat×Nat)(H:af):Out→af→Prop:=fun o H'=>o=.val (.int .i64 r.1)∧H'[p]?=some (.cells [.int .i64 r.2])∧a9 (fun x=>x=p) H H'
open Go.Sort in
theorem zX (c n p sw:Nat)(d:Array Nm)(a b e:Nat)(H:af)(hn:d.size=n)(hc:H[c]?=some (.cells (aJ eN d.toList)))(hp:H[p]?=some (.cells [.int .i64 sw]))(qh:¬c=p)(ha:a<n)(hb:b<n)(he:e<n)(hs:n<2305843009213693951)(QB:sw<900) :
  W env (.call 157 [.aA c 0 n 2,.int .i64 a,.int .i64 b,.int .i64 e,.ptr p 0,.fn 61 []]) H (fun o H'=>Lv p (median aY d a b e sw) H o H'∧(median aY d a b e sw).1<n∧(median aY d a b e sw).2≤sw+3):=by
 refine W.bu rfl rfl rfl ?_
 simp -implicitDefEqProofs only[Ha,op,ef,cl,sq,reduceIte,j2,j3,j4,j5,j6,j7,j8,j9,y1,S1]
 refine ae _ _ _ _ _ _ _ _ (zV c n p sw d a b _ hn hc hp ha hb hs (by omega)) ?_
 rintro u H1⟨hu,kG,qg⟩
 cases hu
 have kv:=qg.get hc qh
 obtain⟨r1,DM⟩:∃r,r=order2 aY d a b sw:=⟨_,rfl⟩
 obtain⟨q1,q2,q3⟩:=zW d (sw:=sw) ha hb
 rw[←DM]at q1 q2 q3 kG ⊢
 simp -implicitDefEqProofs only[op,ef,cl,sq,reduceIte,j2,j3,j4,j5,j6,j7,j8,j9,y1,S1]
 refine ae _ _ _ _ _ _ _ _ (zV c n p r1.2.2 d r1.2.1 e _ hn kv kG q2 he hs (by omega)) ?_
 rintro u H2⟨hu,lD,eF⟩
 cases hu
 have pG:=eF.get kv qh
 obtain⟨r2,vS⟩:∃r,r=order2 aY d r1.2.1 e r1.2.2:=⟨_,rfl⟩
 obtain⟨q4,q5,q6⟩:=zW d (sw:=r1.2.2) q2 he
 rw[←vS]at q4 q5 q6 lD ⊢
 simp -implicitDefEqProofs only[op,ef,cl,sq,reduceIte,j2,j3,j4,j5,j6,j7,j8,j9,y1,S1]
 refine ae _ _ _ _ _ _ _ _ (zV c n p r2.2.2 d r1.1 r2.1 _ hn pG lD q1 q4 hs (by omega)) ?_
 rintro u H3⟨hu,HA,qi⟩
 cases hu
 obtain⟨q7,q8,q9⟩:=zW d (sw:=r2.2.2) q1 q4
 have e:median aY d a b e sw=((order2 aY d r1.1 r2.1 r2.2.2).2.1,(order2 aY d r1.1 r2.1 r2.2.2).2.2):=by rw[median,←DM,←vS]
 rw[e]
 simp -implicitDefEqProofs only[op,ef,cl,sq,reduceIte,j2,j3,j4,j5,j6,j7,j8,j9,y1,S1]
 exact⟨⟨rfl,HA,(qg.trans eF fun _ h=>.inl h).trans qi fun _ h=>.inl h⟩,q8,by omega⟩
open Go.Sort in
theorem zY (c n p sw:Nat)(d:Array Nm)(a:Nat)(H:af)(hn:d.size=n)(hc:H[c]?=some (.cells (aJ eN d.toList)))(hp:H[p]?=some (.cells [.int .i64 sw]))(qh:¬c=p)(ha:1≤a)(zj:a+1<n)(hs:n<2305843009213693951)(QB:sw<900) :
  W env (.call 156 [.aA c 0 n 2,.int .i64 a,.ptr p 0,.fn 61 []]) H (fun o H'=>Lv p (medianAdjacent aY d a sw) H o H'∧(medianAdjacent aY d a sw).1<n∧(medianAdjacent aY d a sw).2≤sw+3):=by
 refine W.bu rfl rfl rfl ?_
 simp -implicitDefEqProofs (maxSteps:=1000000) (disch:=omega) only[G9,aa,aQ,aR,aS,aU,aV,aW,wA,a6,wS,a0,wM,S2,op,ef,cl,sq,reduceIte,j2,j3,j4,j5,j6,j7,j8,j9,y1,S1]
 refine ae _ _ _ _ _ _ _ _ (zX c n p sw d (a-1) a (a+1) _ hn hc hp qh (by omega) (by omega) zj hs QB) ?_
 rintro u H1⟨⟨hu,kG,qg⟩,q1,q2⟩
 cases hu
 simp -implicitDefEqProofs only[op,ef,cl,sq,reduceIte,j2,j3,j4,j5,j6,j7,j8,j9,y1,S1]
 exact⟨⟨rfl,kG,qg⟩,q1,q2⟩
theorem DV {a:Nat}(h:a<9223372036854775808):IntKind.i64.wrap ((a:Int).tdiv 4)=((a/4:Nat):Int):=by rw[Int.tdiv_eq_ediv_of_nonneg (by omega),wrap64 (by omega)];omega
theorem Yd {a:Nat}(h:a<9223372036854775808):IntKind.i64.wrap ((a:Int)*1)=((a*1:Nat):Int):=by rw[wrap64 (by omega)];omega
theorem DW {a:Nat}(h:a*2<9223372036854775808):IntKind.i64.wrap ((a:Int)*2)=((a*2:Nat):Int):=by rw[wrap64 (by omega)];omega
theorem Ye {a:Nat}(h:a*3<9223372036854775808):IntKind.i64.wrap ((a:Int)*3)=((a*3:Nat):Int):=by rw[wrap64 (by omega)];omega
def ig:Go.Sort.Hint→Int
 | .unknown=>0
 | .increasing=>1
 | .decreasing=>2
open Go.Sort in
theorem HB (c n:Nat)(d:Array Nm)(a b:Nat)(H:af)(hn:d.size=n)(hc:H[c]?=some (.cells (aJ eN d.toList)))(hb:b≤n)(fG:a+12<b)(hs:n<1305843009213693951) :
  W env (.call 135 [.aA c 0 n 2,.int .i64 a,.int .i64 b,.fn 61 []]) H (fun o H'=>o=.val (.bJ [.int .i64 (choosePivot aY d a b).1,.int .i64 (ig (choosePivot aY d a b).2)])∧Ext H H'):=by
 refine W.bu rfl rfl rfl ?_
 have h8:8≤b-a:=by omega
 have lc:=aM hc
 have qh:¬c=H.length:=by omega
 have nG:(H++[B.cells [T.int IntKind.i64 0]])[c]?=some (.cells (aJ eN d.toList)):=by rw[aP lc];exact hc
 have VG:(H++[B.cells [T.int IntKind.i64 0]])[H.length]?=some (.cells [.int .i64 ((0:Nat):Int)]):=aK rfl
 have fin:∀H2:af,a9 (fun x=>x=H.length) (H++[B.cells [T.int IntKind.i64 0]]) H2→Ext H H2:=fun H2 hf=>nV fun x y hx=>hf.get (by rw[aP (aM hx)];exact hx) (by have:=aM hx;omega)
 by_cases wz:50≤b-a
 ·simp -implicitDefEqProofs (maxSteps:=1000000) (disch:=omega) only[Bt,aa,aQ,aR,aS,aU,aV,aW,wA,a6,wS,a0,wM,S2,op,ef,cl,sq,reduceIte,j2,j3,j4,j5,j6,j7,j8,j9,y1,S1,DV,Yd,DW,Ye,h8,wz]
  refine ae _ _ _ _ _ _ _ _ (zY c n H.length 0 d _ _ hn nG VG qh (by omega) (by omega) (by omega) (by omega)) ?_
  rintro u H1⟨⟨hu,kG,qg⟩,q1,q2⟩
  cases hu
  obtain⟨ri,mS⟩:∃r,r=medianAdjacent aY d (a+(b-a)/4*1) 0:=⟨_,rfl⟩
  rw[←mS]at q1 q2 kG ⊢
  have kv:=qg.get nG qh
  simp -implicitDefEqProofs only[op,ef,cl,sq,reduceIte,j2,j3,j4,j5,j6,j7,j8,j9,y1,S1]
  refine ae _ _ _ _ _ _ _ _ (zY c n H.length ri.2 d _ _ hn kv kG qh (by omega) (by omega) (by omega) (by omega)) ?_
  rintro u H2⟨⟨hu,lD,eF⟩,q3,q4⟩
  cases hu
  obtain⟨rj,VH⟩:∃r,r=medianAdjacent aY d (a+(b-a)/4*2) ri.2:=⟨_,rfl⟩
  rw[←VH]at q3 q4 lD ⊢
  have pG:=eF.get kv qh
  simp -implicitDefEqProofs only[op,ef,cl,sq,reduceIte,j2,j3,j4,j5,j6,j7,j8,j9,y1,S1]
  refine ae _ _ _ _ _ _ _ _ (zY c n H.length rj.2 d _ _ hn pG lD qh (by omega) (by omega) (by omega) (by omega)) ?_
  rintro u H3⟨⟨hu,HA,qi⟩,q5,q6⟩
  cases hu
  obtain⟨rk,VI⟩:∃r,r=medianAdjacent aY d (a+(b-a)/4*3) rj.2:=⟨_,rfl⟩
  rw[←VI]at q5 q6 HA ⊢
  have VJ:=qi.get pG qh
  simp -implicitDefEqProofs only[op,ef,cl,sq,reduceIte,j2,j3,j4,j5,j6,j7,j8,j9,y1,S1]
  refine ae _ _ _ _ _ _ _ _ (zX c n H.length rk.2 d ri.1 rj.1 rk.1 _ hn VJ HA qh q1 q3 q5 (by omega) (by omega)) ?_
  rintro u H4⟨⟨hu,mT,zb⟩,q7,q8⟩
  cases hu
  have e:choosePivot aY d a b=((median aY d ri.1 rj.1 rk.1 rk.2).1,if (median aY d ri.1 rj.1 rk.1 rk.2).2=0 then .increasing else if (median aY d ri.1 rj.1 rk.1 rk.2).2=12 then .decreasing else .unknown):=by
   simp -implicitDefEqProofs only[choosePivot,ge_iff_le,if_pos h8,if_pos wz,←mS,←VH,←VI]
  rw[e]
  have hx:=fin _ (((qg.trans eF fun _ h=>.inl h).trans qi fun _ h=>.inl h).trans zb fun _ h=>.inl h)
  generalize median aY d ri.1 rj.1 rk.1 rk.2=r at *
  obtain⟨m,sw⟩:=r
  simp only at mT ⊢
  by_cases s0:sw=0
  ·subst s0
   have e0:(((0:Nat):Int)==0)=true:=rfl
   simp -implicitDefEqProofs only[op,ef,cl,sq,reduceIte,j2,j3,j4,j5,j6,j7,j8,j9,y1,S1,mT,e0]
   exact⟨rfl,hx⟩
  have e0:(((sw:Nat):Int)==0)=false:=by simp;omega
  by_cases s1:sw=12
  ·subst s1
   have e1:(((12:Nat):Int)==12)=true:=rfl
   simp -implicitDefEqProofs only[op,ef,cl,sq,reduceIte,j2,j3,j4,j5,j6,j7,j8,j9,y1,S1,mT,e0,e1]
   exact⟨rfl,hx⟩
  have e1:(((sw:Nat):Int)==12)=false:=by simp;omega
  simp -implicitDefEqProofs only[op,ef,cl,sq,reduceIte,j2,j3,j4,j5,j6,j7,j8,j9,y1,S1,mT,e0,e1,s0,s1]
  exact⟨rfl,hx⟩
 ·simp -implicitDefEqProofs (maxSteps:=1000000) (disch:=omega) only[Bt,aa,aQ,aR,aS,aU,aV,aW,wA,a6,wS,a0,wM,S2,op,ef,cl,sq,reduceIte,j2,j3,j4,j5,j6,j7,j8,j9,y1,S1,DV,Yd,DW,Ye,h8,wz]
  refine ae _ _ _ _ _ _ _ _ (zX c n H.length 0 d _ _ _ _ hn nG VG qh (by omega) (by omega) (by omega) (by omega) (by omega)) ?_
  rintro u H4⟨⟨hu,mT,zb⟩,q7,q8⟩
  cases hu
  have e:choosePivot aY d a b=((median aY d (a+(b-a)/4*1) (a+(b-a)/4*2) (a+(b-a)/4*3) 0).1,if (median aY d (a+(b-a)/4*1) (a+(b-a)/4*2) (a+(b-a)/4*3) 0).2=0 then .increasing else if (median aY d (a+(b-a)/4*1) (a+(b-a)/4*2) (a+(b-a)/4*3) 0).2=12 then .decreasing else .unknown):=by
   simp -implicitDefEqProofs only[choosePivot,ge_iff_le,if_pos h8,if_neg wz]
  rw[e]
  have hx:=fin _ zb
  generalize median aY d (a+(b-a)/4*1) (a+(b-a)/4*2) (a+(b-a)/4*3) 0=r at *
  obtain⟨m,sw⟩:=r
  simp only at mT ⊢
  by_cases s0:sw=0
  ·subst s0
   have e0:(((0:Nat):Int)==0)=true:=rfl
   simp -implicitDefEqProofs only[op,ef,cl,sq,reduceIte,j2,j3,j4,j5,j6,j7,j8,j9,y1,S1,mT,e0]
   exact⟨rfl,hx⟩
  have e0:(((sw:Nat):Int)==0)=false:=by simp;omega
  by_cases s1:sw=12
  ·subst s1
   have e1:(((12:Nat):Int)==12)=true:=rfl
   simp -implicitDefEqProofs only[op,ef,cl,sq,reduceIte,j2,j3,j4,j5,j6,j7,j8,j9,y1,S1,mT,e0,e1]
   exact⟨rfl,hx⟩
  have e1:(((sw:Nat):Int)==12)=false:=by simp;omega
  simp -implicitDefEqProofs only[op,ef,cl,sq,reduceIte,j2,j3,j4,j5,j6,j7,j8,j9,y1,S1,mT,e0,e1,s0,s1]
  exact⟨rfl,hx⟩
set_option maxHeartbeats 8000000
open Go.Sort (bitsLen)
theorem HC {n k:Nat}(h:2^k≤n):(n/2^k).log2+k=n.log2:=by
 have h0:0<2^k:=Nat.two_pow_pos k
 have hn:n≠0:=by omega
 have hq:n/2^k≠0:=by have:=Nat.div_pos h h0;omega
 have h1:=Nat.log2_self_le hq
 have h2:=Nat.lt_log2_self (n:=n/2^k)
 refine((Nat.log2_eq_iff hn).2 ⟨?_,?_⟩).symm
 ·rw[Nat.pow_add];exact(Nat.le_div_iff_mul_le h0).1 h1
 ·rw[show(n/2^k).log2+k+1=((n/2^k).log2+1)+k by omega,Nat.pow_add];exact(Nat.div_lt_iff_lt_mul h0).1 h2
theorem yz {n k:Nat}(h:2^k≤n):bitsLen (n/2^k)+k=bitsLen n:=by
 have h0:0<2^k:=Nat.two_pow_pos k
 have hq:n/2^k≠0:=by have:=Nat.div_pos h h0;omega
 have:=HC h
 unfold bitsLen
 rw[if_neg hq,if_neg (by omega)]
 omega
theorem rm {n k:Nat}(h:n<2^k):bitsLen n≤k:=by
 unfold bitsLen
 split
 ·omega
 ·rename_i h0;have:=(Nat.log2_lt h0).2 h;omega
def tbl:Array UInt8:=#[0,1,2,2,3,3,3,3,4,4,4,4,4,4,4,4,5,5,5,5,5,5,5,5,5,5,5,5,5,5,5,5,6,6,6,6,6,6,6,6,6,6,6,6,6,6,6,6,6,6,6,6,6,6,6,6,6,6,6,6,6,6,6,6,7,7,7,7,7,7,7,7,7,7,7,7,7,7,7,7,7,7,7,7,7,7,7,7,7,7,7,7,7,7,7,7,7,7,7,7,7,7,7,7,7,7,7,7,7,7,7,7,7,7,7,7,7,7,7,7,7,7,7,7,7,7,7,7,8,8,8,8,8,8,8,8,8,8,8,8,8,8,8,8,8,8,8,8,8,8,8,8,8,8,8,8,8,8,8,8,8,8,8,8,8,8,8,8,8,8,8,8,8,8,8,8,8,8,8,8,8,8,8,8,8,8,8,8,8,8,8,8,8,8,8,8,8,8,8,8,8,8,8,8,8,8,8,8,8,8,8,8,8,8,8,8,8,8,8,8,8,8,8,8,8,8,8,8,8,8,8,8,8,8,8,8,8,8,8,8,8,8,8,8,8,8,8,8,8,8,8,8,8,8,8,8]
def acp:Bool:=(List.range 256).all fun n=>match tbl[n]? with|some c=>c.toNat==bitsLen n|none=>false
theorem Lw:acp=true:=by decide +kernel
theorem zZ {β:Type}{K:Option β→Prop}{n:Nat}(hn:n<256)(f:UInt8→β)(h:∀c:UInt8,c.toNat=bitsLen n→K (some (f c))):K (Option.map f tbl[n]?):=by
 have:=List.all_eq_true.1 Lw n (List.mem_range.2 hn)
 split at this
 ·rename_i c hc
  rw[hc];exact h c (by simpa using this)
 ·cases this
theorem VK (n:Nat)(hn:n<16777216)(H:af):W env (.call 141 [.int .u64 n]) H (fun o H'=>o=.val (.int .i64 (bitsLen n))∧H'=H):=by
 refine W.bu rfl rfl rfl ?_
 have h1:¬(4294967296≤n):=by omega
 have fin:∀(m k:Nat),m<256→k≤16→IntKind.i64.wrap ((k:Int)+((bitsLen m:Nat):Int))=((bitsLen m+k:Nat):Int):=fun m k hm hk=>by
  have:=rm (n:=m) (k:=8) hm
  rw[wrap64 (by omega)];omega
 by_cases h2:65536≤n
 ·have e16:(n:Int).fdiv (2^(min (16:Int).toNat IntKind.u64.bits))=((n/65536:Nat):Int):=by
   show(n:Int).fdiv 65536=_
   rw[Int.fdiv_eq_ediv_of_nonneg _ (by decide)];omega
  have h3:¬(256≤n/65536):=by omega
  have Qz:=ym (n:=n/65536) (by omega)
  have w16:IntKind.i64.wrap (0+16)=16:=by decide
  have:=fin (n/65536) 16 (by omega) (by omega)
  rw[show bitsLen (n/65536)+16=bitsLen n from yz (k:=16) h2]at this
  simp -implicitDefEqProofs only[uZ,op,ef,cl,sq,reduceIte,j2,j3,j4,j5,j6,j7,j8,j9,y1,S1,h1,h2,e16,h3,Qz,w16,aa]
  refine zZ (K:=me env _ _ _ _ _ _ _ _) (by omega) _ fun ch DU=>?_
  have wc:IntKind.i64.wrap ((ch.toNat:Nat):Int)=((ch.toNat:Nat):Int):=wrap64 (by have:=ch.toNat_lt;omega)
  rw[DU]at wc
  simp -implicitDefEqProofs only[op,ef,cl,sq,reduceIte,j2,j3,j4,j5,j6,j7,j8,j9,y1,S1,DU,wc]
  exact congrArg (fun x=>Out.val (.int .i64 x)) this
 by_cases h3:256≤n
 ·have e8:(n:Int).fdiv (2^(min (8:Int).toNat IntKind.u64.bits))=((n/256:Nat):Int):=by
   show(n:Int).fdiv 256=_
   rw[Int.fdiv_eq_ediv_of_nonneg _ (by decide)];omega
  have Qz:=ym (n:=n/256) (by omega)
  have w80:IntKind.i64.wrap (0+8)=8:=by decide
  have:=fin (n/256) 8 (by omega) (by omega)
  rw[show bitsLen (n/256)+8=bitsLen n from yz (k:=8) h3]at this
  simp -implicitDefEqProofs only[uZ,op,ef,cl,sq,reduceIte,j2,j3,j4,j5,j6,j7,j8,j9,y1,S1,h1,h2,e8,h3,Qz,w80,aa]
  refine zZ (K:=me env _ _ _ _ _ _ _ _) (by omega) _ fun ch DU=>?_
  have wc:IntKind.i64.wrap ((ch.toNat:Nat):Int)=((ch.toNat:Nat):Int):=wrap64 (by have:=ch.toNat_lt;omega)
  rw[DU]at wc
  simp -implicitDefEqProofs only[op,ef,cl,sq,reduceIte,j2,j3,j4,j5,j6,j7,j8,j9,y1,S1,DU,wc]
  exact congrArg (fun x=>Out.val (.int .i64 x)) this
 ·have Qz:=ym (n:=n) (by omega)
  have:=fin n 0 (by omega) (by omega)
  simp -implicitDefEqProofs only[uZ,op,ef,cl,sq,reduceIte,j2,j3,j4,j5,j6,j7,j8,j9,y1,S1,h1,h2,h3,Qz,aa]
  refine zZ (K:=me env _ _ _ _ _ _ _ _) (by omega) _ fun ch DU=>?_
  have wc:IntKind.i64.wrap ((ch.toNat:Nat):Int)=((ch.toNat:Nat):Int):=wrap64 (by have:=ch.toNat_lt;omega)
  rw[DU]at wc
  simp -implicitDefEqProofs only[op,ef,cl,sq,reduceIte,j2,j3,j4,j5,j6,j7,j8,j9,y1,S1,DU,wc]
  exact congrArg (fun x=>Out.val (.int .i64 x)) this
theorem HD (n:Nat)(hn:n<16777216)(H:af):W env (.call 118 [.int .u64 n]) H (fun o H'=>o=.val (.int .i64 (bitsLen n))∧H'=H):=by
 refine W.bu rfl rfl rfl ?_
 simp -implicitDefEqProofs only[Br,op,ef,cl,sq,reduceIte,j2,j3,j4,j5,j6,j7,j8,j9,y1,S1]
 refine ae _ _ _ _ _ _ _ _ (VK n hn _) ?_
 rintro u H1⟨hu,rfl⟩
 cases hu
 simp -implicitDefEqProofs only[op,ef,cl,sq,reduceIte,j2,j3,j4,j5,j6,j7,j8,j9,y1,S1]
theorem HE (n:Nat)(hn:n<16777216)(H:af):W env (.call 154 [.int .i64 n]) H (fun o H'=>o=.val (.int .u64 ((1 <<< bitsLen n:Nat):Int))∧H'=H):=by
 refine W.bu rfl rfl rfl ?_
 have wu:=qz (n:=n) (by omega)
 simp -implicitDefEqProofs only[G7,op,ef,cl,sq,reduceIte,j2,j3,j4,j5,j6,j7,j8,j9,y1,S1,wu]
 refine ae _ _ _ _ _ _ _ _ (HD n hn _) ?_
 rintro u H1⟨hu,rfl⟩
 cases hu
 have hb:=rm (n:=n) (k:=24) hn
 have n0:¬(((bitsLen n:Nat):Int)<0):=by omega
 have e:IntKind.u64.wrap (1*2^(min ((bitsLen n:Nat):Int).toNat IntKind.u64.bits))=((1 <<< bitsLen n:Nat):Int):=by
  rw[Int.toNat_natCast,Nat.min_eq_left (by show bitsLen n≤64;omega),Nat.one_shiftLeft,Int.one_mul]
  have:(2:Nat)^bitsLen n≤2^24:=Nat.pow_le_pow_right (by decide) hb
  have h2:((2:Int)^bitsLen n)=((2^bitsLen n:Nat):Int):=by simp
  rw[h2]
  exact qz (by omega)
 simp -implicitDefEqProofs only[op,ef,cl,sq,reduceIte,j2,j3,j4,j5,j6,j7,j8,j9,y1,S1,n0,e]
set_option maxHeartbeats 8000000
open Go.Sort (bitsLen)
theorem NG (x:Int):IntKind.u64.wrap x=x%18446744073709551616:=by
 unfold IntKind.wrap
 simp -implicitDefEqProofs only[IntKind.signed,IntKind.bits]
 simp
theorem Lx (r:UInt64):IntKind.u64.wrap ((r.toNat:Int)*2^(min (13:Int).toNat IntKind.u64.bits))=((r <<< 13).toNat:Int):=by
 rw[NG,UInt64.toNat_shiftLeft,Nat.shiftLeft_eq]
 show(r.toNat:Int)*8192%_=((r.toNat*8192%18446744073709551616:Nat):Int)
 omega
theorem Ly (r:UInt64):IntKind.u64.wrap ((r.toNat:Int)*2^(min (17:Int).toNat IntKind.u64.bits))=((r <<< 17).toNat:Int):=by
 rw[NG,UInt64.toNat_shiftLeft,Nat.shiftLeft_eq]
 show(r.toNat:Int)*131072%_=((r.toNat*131072%18446744073709551616:Nat):Int)
 omega
theorem QC (r:UInt64):(r.toNat:Int).fdiv (2^(min (7:Int).toNat IntKind.u64.bits))=((r >>> 7).toNat:Int):=by
 rw[UInt64.toNat_shiftRight,Nat.shiftRight_eq_div_pow]
 show(r.toNat:Int).fdiv 128=((r.toNat/128:Nat):Int)
 rw[Int.fdiv_eq_ediv_of_nonneg _ (by decide)];omega
theorem VL (r:UInt64):BitVec.ofInt IntKind.u64.bits (r.toNat:Int)=r.toBitVec:=by
 apply BitVec.eq_of_toNat_eq
 rw[BitVec.toNat_ofInt]
 have:=r.toNat_lt
 show((r.toNat:Int)%18446744073709551616).toNat=r.toNat
 omega
theorem VM (r s:UInt64):IntKind.u64.wrap ((BitVec.ofInt IntKind.u64.bits (r.toNat:Int) ^^^ BitVec.ofInt IntKind.u64.bits (s.toNat:Int)).toNat:Int)=((r ^^^ s).toNat:Int):=by
 refine Eq.trans ?_ (qz (r ^^^ s).toNat_lt)
 rw[VL,VL]
 rfl
theorem BE (r:UInt64)(k:Nat)(hk:k<18446744073709551616):IntKind.u64.wrap ((BitVec.ofInt IntKind.u64.bits (r.toNat:Int) &&& BitVec.ofInt IntKind.u64.bits (k:Int)).toNat:Int)=((r.toNat &&& k:Nat):Int):=by
 have h:(BitVec.ofInt IntKind.u64.bits (r.toNat:Int) &&& BitVec.ofInt IntKind.u64.bits (k:Int)).toNat=r.toNat &&& k:=by
  rw[BitVec.toNat_and,BitVec.toNat_ofInt,BitVec.toNat_ofInt]
  have:=r.toNat_lt
  have e1:((r.toNat:Int)%((2^IntKind.u64.bits:Nat):Int)).toNat=r.toNat:=by
   show((r.toNat:Int)%18446744073709551616).toNat=r.toNat
   omega
  have e2:((k:Int)%((2^IntKind.u64.bits:Nat):Int)).toNat=k:=by
   show((k:Int)%18446744073709551616).toNat=k
   omega
  rw[e1,e2]
 rw[h]
 exact qz (Nat.lt_of_le_of_lt Nat.and_le_right hk)
theorem NH (p:Nat)(r:UInt64)(H:af)(hp:H[p]?=some (.cells [.int .u64 r.toNat])) :
  W env (.call 155 [.ptr p 0]) H (fun o H'=>o=.val (.int .u64 (Go.Sort.xorNext r).toNat)∧H'[p]?=some (.cells [.int .u64 (Go.Sort.xorNext r).toNat])∧a9 (fun x=>x=p) H H'):=by
 refine W.bu rfl rfl rfl ?_
 have lp:=aM hp
 have n13:¬((13:Int)<0):=by decide
 have n7:¬((7:Int)<0):=by decide
 have n17:¬((17:Int)<0):=by decide
 simp -implicitDefEqProofs only[Lx,Ly,QC,VM,G8,op,ef,cl,sq,reduceIte,j2,j3,j4,j5,j6,j7,j8,j9,y1,S1,hp,lp,S2,n13,n7,n17]
 exact⟨rfl,rfl,(((a9.refl (fun x=>x=p) _).set (.inl rfl) _).set (.inl rfl) _).set (.inl rfl) _⟩
theorem yA {n:Nat}(h:n≠0):1 <<< bitsLen n≤2*n:=by
 rw[Nat.one_shiftLeft,bitsLen,if_neg h,Nat.pow_succ]
 have:=Nat.log2_self_le h
 omega
def NI (a len md:Nat)(d:Array Nm):Nat→UInt64×Array Nm
 | 0=>(UInt64.ofNat len,d)
 | j+1=>Go.Sort.breakStep a len md (NI a len md d j) (a+len/4*2-1+j)
theorem Yf {a:Nat}(h:1≤a∧a<18446744073709551616):IntKind.u64.wrap ((a:Int)-1)=((a-1:Nat):Int):=by rw[vV (by omega)];omega
theorem wN {a:Nat}(h:a<9223372036854775808):IntKind.i64.wrap (a:Int)=(a:Int):=wrap64 (by omega)
open Go.Sort in
theorem Lz (c n:Nat)(d:Array Nm)(a b:Nat)(H:af)(hn:d.size=n)(hc:H[c]?=some (.cells (aJ eN d.toList)))(hb:b≤n)(fG:a+12<b)(hs:n<16777216) :
  W env (.call 134 [.aA c 0 n 2,.int .i64 a,.int .i64 b,.fn 61 []]) H (zS c n (breakPatterns d a b) H):=by
 refine W.bu rfl rfl rfl ?_
 have h8:8≤b-a:=by omega
 have lc:=aM hc
 obtain⟨len,hlen⟩:∃len,len=b-a:=⟨_,rfl⟩
 have wl:IntKind.u64.wrap ((len:Nat):Int)=(len:Int):=qz (by omega)
 rw[←hlen]at h8
 simp -implicitDefEqProofs (maxSteps:=1000000) (disch:=omega) only[GR,aa,aQ,aR,aS,aU,aV,aW,wA,a6,wS,a0,wM,S2,op,ef,cl,sq,reduceIte,j2,j3,j4,j5,j6,j7,j8,j9,y1,S1,DV,DW,←hlen,wl,h8]
 refine ae _ _ _ _ _ _ _ _ (HE len (by omega) _) ?_
 rintro u H1⟨hu,rfl⟩
 cases hu
 obtain⟨md,VN⟩:∃md,md=1 <<< bitsLen len:=⟨_,rfl⟩
 have OT:=yA (n:=len) (by omega)
 have Lr:1≤1 <<< bitsLen len:=by rw[Nat.one_shiftLeft];exact Nat.one_le_two_pow
 rw[←VN]at Lr OT ⊢
 have hq:len/4*2≤len:=by omega
 obtain⟨ix,xu⟩:∃ix,ix=a+len/4*2-1:=⟨_,rfl⟩
 have vT:breakPatterns d a b=(NI a len md d 3).2:=by
  simp -implicitDefEqProofs only[breakPatterns,←hlen,ge_iff_le,if_pos h8,NI,←VN,Nat.add_zero]
 simp -implicitDefEqProofs (maxSteps:=1000000) (disch:=omega) only[aa,aQ,aR,aS,aU,aV,aW,wA,a6,wS,a0,wM,S2,op,ef,cl,sq,reduceIte,j2,j3,j4,j5,j6,j7,j8,j9,y1,S1,DV,DW,←xu]
 have kv:(H++[B.cells [T.int IntKind.u64 len]])[c]?=some (.cells (aJ eN d.toList)):=by rw[aP lc];exact hc
 have kG:(H++[B.cells [T.int IntKind.u64 len]])[H.length]?=some (.cells [.int .u64 (UInt64.ofNat len).toNat]):=by
  rw[aK rfl,UInt64.toNat_ofNat_of_lt' (by show len<18446744073709551616;omega)]
 refine W.cK (fun (j:Nat) R H'=>At H' (fun H'=>∃d':Array Nm,H'[c]?=some (.cells (aJ eN d'.toList))∧d'.size=n∧d'=(NI a len md d j).2∧H'[H.length]?=some (.cells [.int .u64 (NI a len md d j).1.toNat])∧a9 (fun x=>x=c∨x=H.length) (H++[B.cells [T.int IntKind.u64 len]]) H')∧R 0=.aA c 0 n 2∧R 1=.int .i64 a∧R 8=.int .i64 len∧R 9=.ptr H.length 0∧R 10=.int .u64 md∧R 11=.int .i64 (ix+j:Nat)∧j≤3) (fun j=>3-j) 0 ⟨.i ⟨d,kv,hn,rfl,kG,a9.refl _ _⟩,rfl,rfl,rfl,rfl,rfl,rfl,by omega⟩ ?_
 rintro j R H1⟨⟨di,hd,a7,VO,hp,ar⟩,h0,h1,LA,h9,aC,bf,hj⟩
 by_cases hj3:j<3
 ·have hle:ix+j≤a+len/4*2+1:=by omega
  simp -implicitDefEqProofs (maxSteps:=1000000) (disch:=omega) only[aa,aQ,aR,aS,aU,aV,aW,wA,a6,wS,a0,wM,S2,op,ef,cl,sq,reduceIte,j2,j3,j4,j5,j6,j7,j8,j9,y1,S1,DV,DW,h0,h1,LA,h9,aC,bf,hle]
  refine ae _ _ _ _ _ _ _ _ (NH H.length _ _ hp) ?_
  rintro u H2⟨hu,lD,eF⟩
  cases hu
  have hd:=eF.get hd (by omega)
  have z7:=aM hd
  obtain⟨r,hr⟩:∃r,r=xorNext (NI a len md d j).1:=⟨_,rfl⟩
  rw[←hr]at lD ⊢
  obtain⟨ot,LB⟩:∃ot,ot=r.toNat &&& (md-1):=⟨_,rfl⟩
  have hol:ot≤md-1:=by rw[LB];exact Nat.and_le_right
  have b0:NI a len md d (j+1)=(r,swp di (ix+j) (a+if ot≥len then ot-len else ot)):=by
   simp -implicitDefEqProofs only[NI,breakStep,←hr,←VO,←LB,←xu]
  have bQ:¬(c=H.length):=by omega
  by_cases dJ:len≤ot
  ·rw[if_pos dJ]at b0
   simp -implicitDefEqProofs (maxSteps:=1000000) (disch:=omega) only[aa,aQ,aR,aS,aU,aV,aW,wA,a6,wS,a0,wM,S2,op,ef,cl,sq,reduceIte,j2,j3,j4,j5,j6,j7,j8,j9,y1,S1,Yf,BE,wN,←LB,h0,h1,LA,h9,aC,bf,dJ,hd,z7]
   refine⟨j+1,by omega,.i ⟨swp di (ix+j) (a+(ot-len)),bR (by rw[List.length_set];exact z7),by rw[swp_size];exact a7,by rw[b0],?_,((ar.trans eF fun x h=>.inl (.inr h)).set (.inl (.inl rfl)) _).set (.inl (.inl rfl)) _⟩,rfl,by omega⟩
   rw[bl bQ,bl bQ,lD,b0]
  ·rw[if_neg dJ]at b0
   simp -implicitDefEqProofs (maxSteps:=1000000) (disch:=omega) only[aa,aQ,aR,aS,aU,aV,aW,wA,a6,wS,a0,wM,S2,op,ef,cl,sq,reduceIte,j2,j3,j4,j5,j6,j7,j8,j9,y1,S1,Yf,BE,wN,←LB,h0,h1,LA,h9,aC,bf,dJ,hd,z7]
   refine⟨j+1,by omega,.i ⟨swp di (ix+j) (a+ot),bR (by rw[List.length_set];exact z7),by rw[swp_size];exact a7,by rw[b0],?_,((ar.trans eF fun x h=>.inl (.inr h)).set (.inl (.inl rfl)) _).set (.inl (.inl rfl)) _⟩,rfl,by omega⟩
   rw[bl bQ,bl bQ,lD,b0]
 ·have Ln:j=3:=by omega
  subst Ln
  have hle:¬(ix+3≤a+len/4*2+1):=by omega
  simp -implicitDefEqProofs (maxSteps:=1000000) (disch:=omega) only[aa,aQ,aR,aS,aU,aV,aW,wA,a6,wS,a0,wM,S2,op,ef,cl,sq,reduceIte,j2,j3,j4,j5,j6,j7,j8,j9,y1,S1,DV,DW,h0,h1,LA,h9,aC,bf,hle]
  exact⟨rfl,di,hd,a7,by rw[vT,VO],(ax (F:=fun x=>x=c) (H:=H) (H':=H++[B.cells [T.int IntKind.u64 len]]) ⟨_,rfl⟩).trans ar fun x h=>h.elim .inl fun e=>.inr (by omega)⟩
set_option maxHeartbeats 8000000
open Go.Sort in
theorem mz {p:Nm→Bool}{d:Array Nm}{i k:Nat}(h:1≤i):scanDown p d i k=if (decide (i≤k)&&p d[k]!)=true then scanDown p d i (k-1)else k:=by
 cases k with
 | zero=>rw[scanDown,if_neg (dw (cr (by omega)))]
 | succ k=>rw[scanDown];rfl
open Go.Sort in
theorem QD {a i j si sj:Nat}{d:Array Nm}(hi:si=scanUp (fun x=>!aY d[a]! x) d j i)(hj:sj=scanDown (fun x=>aY d[a]! x) d si j):partEqLoop aY a i j d=if si>sj then(si,d)else if (sj-1)+1-(si+1)<j+1-i then partEqLoop aY a (si+1) (sj-1) (swp d si sj)else(si,d):=by
 subst hi;subst hj
 rw[partEqLoop]
 rfl
open Go.Sort in
theorem VP (c n:Nat)(d:Array Nm)(a b pv:Nat)(H:af)(hn:d.size=n)(hc:H[c]?=some (.cells (aJ eN d.toList)))(hb:b≤n)(fG:a<b)(ni:pv<n)(hs:n<2305843009213693951) :
  W env (.call 138 [.aA c 0 n 2,.int .i64 a,.int .i64 b,.int .i64 pv,.fn 61 []]) H (fun o H'=>o=.val (.int .i64 (partitionEqual aY d a b pv).1)∧SC c n H (fun x=>x=(partitionEqual aY d a b pv).2) H'):=by
 refine W.bu rfl rfl rfl ?_
 have hd:=hc
 have lc:=aM hd
 simp -implicitDefEqProofs (maxSteps:=1000000) (disch:=omega) only[GV,aa,aQ,aR,aS,aU,aV,aW,wA,a6,wS,a0,wM,S2,op,ef,cl,sq,reduceIte,j2,j3,j4,j5,j6,j7,j8,j9,y1,S1,hd,lc]
 obtain⟨d1,pw,zU,e1,qg⟩:=SC.swp (n:=n) (P:=fun x=>x=swp d a pv) (x:=.cells (aJ eN (d.toList.set a d[pv]!))) hd (by rw[Go.Sort.swp_size];exact hn) rfl (a9.refl (fun x=>x=c) H)
 subst e1
 generalize ((H.set c (.cells (aJ eN (d.toList.set a d[pv]!)))).set c (.cells (aJ eN (swp d a pv).toList)))=H1 at *
 refine W.cT 0 (fun (q:Nat×Nat) R H'=>At H' (fun H'=>SC c n H (fun di=>partEqLoop aY a q.1 q.2 di=partitionEqual aY d a b pv) H')∧R 0=.aA c 0 n 2∧R 1=.int .i64 a∧R 4=.fn 61 []∧R 11=.int .i64 q.1∧R 12=.int .i64 q.2∧a<q.1∧q.2<n∧q.1≤n) (fun q=>q.2+1-q.1) (a+1,b-1)
  (fun R H'=>At H' (fun H'=>SC c n H (fun di=>di=(partitionEqual aY d a b pv).2) H')∧R 11=.int .i64 (partitionEqual aY d a b pv).1) ⟨.i ⟨_,pw,zU,rfl,qg⟩,rfl,rfl,rfl,rfl,rfl,by omega,by simp only;omega,by simp only;omega⟩ ?_ ?_
 ·rintro⟨i,j⟩ R H1 ⟨⟨di,hd,a7,hP,ar⟩,h0,h1,h4,bf,aB,Hw,zw,iP⟩
  simp only at hP bf aB Hw zw iP ⊢
  simp -implicitDefEqProofs only[op,ef,cl,sq,reduceIte,j2,j3,j4,j5,j6,j7,j8,j9,y1,S1,h0,h1,h4,bf,aB]
  obtain⟨si,qj⟩:∃si,si=scanUp (fun x=>!aY di[a]! x) di j i:=⟨_,rfl⟩
  refine W.cT 2 (fun (k:Nat) R H'=>At H' (fun H'=>H'[c]?=some (.cells (aJ eN di.toList))∧a9 (fun x=>x=c) H H')∧R 0=.aA c 0 n 2∧R 1=.int .i64 a∧R 4=.fn 61 []∧R 11=.int .i64 k∧R 12=.int .i64 j∧i≤k∧k≤n∧scanUp (fun x=>!aY di[a]! x) di j k=si) (fun k=>j+1-k) i
   (fun R H'=>At H' (fun H'=>H'[c]?=some (.cells (aJ eN di.toList))∧a9 (fun x=>x=c) H H')∧R 0=.aA c 0 n 2∧R 1=.int .i64 a∧R 4=.fn 61 []∧R 11=.int .i64 si∧R 12=.int .i64 j∧i≤si∧si≤n) ⟨.i ⟨hd,ar⟩,h0,h1,h4,bf,aB,Nat.le_refl _,iP,qj.symm⟩ ?_ ?_
  ·rintro k R H2⟨⟨hd,ar⟩,h0,h1,h4,bf,aB,sM,qe,hk⟩
   have lc:=aM hd
   by_cases fk:k≤j
   ·simp -implicitDefEqProofs (maxSteps:=1000000) (disch:=omega) only[aa,aQ,aR,aS,aU,aV,aW,wA,a6,wS,a0,wM,S2,op,ef,cl,sq,reduceIte,j2,j3,j4,j5,j6,j7,j8,j9,y1,S1,h0,h1,h4,bf,aB,fk,hd,lc]
    refine mg _ _ _ _ _ _ _ (by simp -implicitDefEqProofs (maxSteps:=1000000) (disch:=omega) only[aa,aQ,aR,aS,aU,aV,aW,wA,a6,wS,a0,wM,S2,op,ef,cl,sq,reduceIte,j2,j3,j4,j5,j6,j7,j8,j9,y1,S1,h0,h1,h4,bf,aB,fk,hd,lc]) ?_
    simp -implicitDefEqProofs (maxSteps:=1000000) (disch:=omega) only[aa,aQ,aR,aS,aU,aV,aW,wA,a6,wS,a0,wM,S2,op,ef,cl,sq,reduceIte,j2,j3,j4,j5,j6,j7,j8,j9,y1,S1,cB,h0,h1,h4,bf,aB,fk,hd,lc,List.append_nil]
    refine ae _ _ _ _ _ _ _ _ (cq di[a]! di[k]! _) ?_
    rintro u H3⟨hu,hx⟩
    cases hu
    have hx:Ext H2 H3:=hx
    have hd:=hx.get hd
    have lc:=aM hd
    have ar:=ar.trans (ax (F:=fun _=>False) hx) (fun _ h=>h.elim)
    have cV:aY di[a]! di[k]! = decide (dN di[a]! di[k]!<0):=rfl
    by_cases c1:dN di[a]! di[k]!<0
    ·simp -implicitDefEqProofs (maxSteps:=1000000) (disch:=omega) only[aa,aQ,aR,aS,aU,aV,aW,wA,a6,wS,a0,wM,S2,op,ef,cl,sq,reduceIte,j2,j3,j4,j5,j6,j7,j8,j9,y1,S1,h0,h1,h4,bf,aB,fk,c1]
     rw[scanUp,if_neg (eb (by rw[cV,ct c1];rfl))]at hk
     subst hk
     exact⟨.i ⟨hd,ar⟩,rfl,sM,qe⟩
    ·simp -implicitDefEqProofs (maxSteps:=1000000) (disch:=omega) only[aa,aQ,aR,aS,aU,aV,aW,wA,a6,wS,a0,wM,S2,op,ef,cl,sq,reduceIte,j2,j3,j4,j5,j6,j7,j8,j9,y1,S1,h0,h1,h4,bf,aB,fk,c1]
     rw[scanUp,if_pos (gg (ct fk) (fE (cV.trans (cr c1))))]at hk
     exact⟨k+1,by omega,.i ⟨hd,ar⟩,rfl,by omega,by omega,hk⟩
   ·simp -implicitDefEqProofs (maxSteps:=1000000) (disch:=omega) only[op,ef,cl,sq,reduceIte,j2,j3,j4,j5,j6,j7,j8,j9,y1,S1,h0,h1,h4,bf,aB,fk]
    simp -implicitDefEqProofs only[op,ef,cl,sq,reduceIte,j2,j3,j4,j5,j6,j7,j8,j9,y1,S1,h0,h1,h4,bf,aB,fk]
    rw[scanUp,if_neg (dw (cr fk))]at hk
    subst hk
    exact⟨.i ⟨hd,ar⟩,rfl,sM,qe⟩
  ·rintro R H2⟨⟨hd,ar⟩,h0,h1,h4,bf,aB,z8,HF⟩
   simp -implicitDefEqProofs only[op,ef,cl,sq,reduceIte,j2,j3,j4,j5,j6,j7,j8,j9,y1,S1,h0,h1,h4,bf,aB]
   obtain⟨sj,ua⟩:∃sj,sj=scanDown (fun x=>aY di[a]! x) di si j:=⟨_,rfl⟩
   refine W.cT 4 (fun (k:Nat) R H'=>At H' (fun H'=>H'[c]?=some (.cells (aJ eN di.toList))∧a9 (fun x=>x=c) H H')∧R 0=.aA c 0 n 2∧R 1=.int .i64 a∧R 4=.fn 61 []∧R 11=.int .i64 si∧R 12=.int .i64 k∧k≤j∧scanDown (fun x=>aY di[a]! x) di si k=sj) (fun k=>k) j
    (fun R H'=>At H' (fun H'=>H'[c]?=some (.cells (aJ eN di.toList))∧a9 (fun x=>x=c) H H')∧R 0=.aA c 0 n 2∧R 1=.int .i64 a∧R 4=.fn 61 []∧R 11=.int .i64 si∧R 12=.int .i64 sj∧sj≤j) ⟨.i ⟨hd,ar⟩,h0,h1,h4,bf,aB,Nat.le_refl _,ua.symm⟩ ?_ ?_
   ·rintro k R H3⟨⟨hd,ar⟩,h0,h1,h4,bf,aB,fk,hk⟩
    have lc:=aM hd
    rw[mz (by omega)]at hk
    by_cases bO:si≤k
    ·simp -implicitDefEqProofs (maxSteps:=1000000) (disch:=omega) only[aa,aQ,aR,aS,aU,aV,aW,wA,a6,wS,a0,wM,S2,op,ef,cl,sq,reduceIte,j2,j3,j4,j5,j6,j7,j8,j9,y1,S1,h0,h1,h4,bf,aB,bO,hd,lc]
     refine mg _ _ _ _ _ _ _ (by simp -implicitDefEqProofs (maxSteps:=1000000) (disch:=omega) only[aa,aQ,aR,aS,aU,aV,aW,wA,a6,wS,a0,wM,S2,op,ef,cl,sq,reduceIte,j2,j3,j4,j5,j6,j7,j8,j9,y1,S1,h0,h1,h4,bf,aB,bO,hd,lc]) ?_
     simp -implicitDefEqProofs (maxSteps:=1000000) (disch:=omega) only[aa,aQ,aR,aS,aU,aV,aW,wA,a6,wS,a0,wM,S2,op,ef,cl,sq,reduceIte,j2,j3,j4,j5,j6,j7,j8,j9,y1,S1,cB,h0,h1,h4,bf,aB,bO,hd,lc,List.append_nil]
     refine ae _ _ _ _ _ _ _ _ (cq di[a]! di[k]! _) ?_
     rintro u H4⟨hu,hx⟩
     cases hu
     have hx:Ext H3 H4:=hx
     have hd:=hx.get hd
     have lc:=aM hd
     have ar:=ar.trans (ax (F:=fun _=>False) hx) (fun _ h=>h.elim)
     have cV:aY di[a]! di[k]! = decide (dN di[a]! di[k]!<0):=rfl
     by_cases c1:dN di[a]! di[k]!<0
     ·simp -implicitDefEqProofs (maxSteps:=1000000) (disch:=omega) only[aa,aQ,aR,aS,aU,aV,aW,wA,a6,wS,a0,wM,S2,op,ef,cl,sq,reduceIte,j2,j3,j4,j5,j6,j7,j8,j9,y1,S1,h0,h1,h4,bf,aB,bO,c1]
      rw[if_pos (gg (ct bO) (cV.trans (ct c1)))]at hk
      exact⟨k-1,by omega,.i ⟨hd,ar⟩,rfl,by omega,hk⟩
     ·simp -implicitDefEqProofs (maxSteps:=1000000) (disch:=omega) only[aa,aQ,aR,aS,aU,aV,aW,wA,a6,wS,a0,wM,S2,op,ef,cl,sq,reduceIte,j2,j3,j4,j5,j6,j7,j8,j9,y1,S1,h0,h1,h4,bf,aB,bO,c1]
      rw[if_neg (eb (cV.trans (cr c1)))]at hk
      subst hk
      exact⟨.i ⟨hd,ar⟩,rfl,fk⟩
    ·simp -implicitDefEqProofs only[op,ef,cl,sq,reduceIte,j2,j3,j4,j5,j6,j7,j8,j9,y1,S1,h0,h1,h4,bf,aB,bO]
     rw[if_neg (dw (cr bO))]at hk
     subst hk
     exact⟨.i ⟨hd,ar⟩,rfl,fk⟩
   ·rintro R H3⟨⟨hd,ar⟩,h0,h1,h4,bf,aB,HG⟩
    have lc:=aM hd
    rw[QD qj ua]at hP
    by_cases lI:sj<si
    ·rw[if_pos lI]at hP
     simp -implicitDefEqProofs only[op,ef,cl,sq,reduceIte,j2,j3,j4,j5,j6,j7,j8,j9,y1,S1,h0,h1,h4,bf,aB,lI]
     exact⟨.i ⟨di,hd,a7,by rw[←hP],ar⟩,by rw[←hP]⟩
    ·rw[if_neg lI,if_pos (by omega)]at hP
     simp -implicitDefEqProofs (maxSteps:=1000000) (disch:=omega) only[aa,aQ,aR,aS,aU,aV,aW,wA,a6,wS,a0,wM,S2,op,ef,cl,sq,reduceIte,j2,j3,j4,j5,j6,j7,j8,j9,y1,S1,h0,h1,h4,bf,aB,lI,hd,lc]
     exact⟨(si+1,sj-1),by simp only;omega,.i (.swp hd (by rw[swp_size];exact a7) hP ar),rfl,rfl,by simp only;omega,by simp only;omega,by simp only;omega⟩
 ·rintro R H1⟨⟨di,hd,a7,hP,ar⟩,bf⟩
  simp -implicitDefEqProofs only[op,ef,cl,sq,reduceIte,j2,j3,j4,j5,j6,j7,j8,j9,y1,S1,bf]
  exact⟨di,hd,a7,hP,ar⟩
set_option maxHeartbeats 8000000
open Go.Sort in
theorem LC {a i j si sj:Nat}{d:Array Nm}(hi:si=scanUp (fun x=>aY x d[a]!) d j i)(hj:sj=scanDown (fun x=>!aY x d[a]!) d si j):partLoop aY a i j d=if si>sj then(sj,d)else if (sj-1)+1-(si+1)<j+1-i then partLoop aY a (si+1) (sj-1) (swp d si sj)else(sj,d):=by
 subst hi;subst hj
 rw[partLoop]
 rfl
open Go.Sort in
theorem QE (c n:Nat)(d:Array Nm)(a b pv:Nat)(H:af)(hn:d.size=n)(hc:H[c]?=some (.cells (aJ eN d.toList)))(hb:b≤n)(fG:a<b)(ni:pv<n)(hs:n<2305843009213693951) :
  W env (.call 139 [.aA c 0 n 2,.int .i64 a,.int .i64 b,.int .i64 pv,.fn 61 []]) H (fun o H'=>o=.val (.bJ [.int .i64 (partition aY d a b pv).1,.bool (partition aY d a b pv).2.1])∧SC c n H (fun x=>x=(partition aY d a b pv).2.2) H'):=by
 refine W.bu rfl rfl rfl ?_
 have hd:=hc
 have lc:=aM hd
 simp -implicitDefEqProofs (maxSteps:=1000000) (disch:=omega) only[GW,aa,aQ,aR,aS,aU,aV,aW,wA,a6,wS,a0,wM,S2,op,ef,cl,sq,reduceIte,j2,j3,j4,j5,j6,j7,j8,j9,y1,S1,hd,lc]
 obtain⟨d1,pw,zU,e1,qg⟩:=SC.swp (n:=n) (P:=fun x=>x=swp d a pv) (x:=.cells (aJ eN (d.toList.set a d[pv]!))) hd (by rw[Go.Sort.swp_size];exact hn) rfl (a9.refl (fun x=>x=c) H)
 subst e1
 generalize ((H.set c (.cells (aJ eN (d.toList.set a d[pv]!)))).set c (.cells (aJ eN (swp d a pv).toList)))=H1 at *
 have hd:=pw
 have ar:=qg
 obtain⟨si,qj⟩:∃si,si=scanUp (fun x=>aY x (swp d a pv)[a]!) (swp d a pv) (b-1) (a+1):=⟨_,rfl⟩
 refine W.cT 0 (fun (k:Nat) R H'=>At H' (fun H'=>H'[c]?=some (.cells (aJ eN (swp d a pv).toList))∧a9 (fun x=>x=c) H H')∧R 0=.aA c 0 n 2∧R 1=.int .i64 a∧R 4=.fn 61 []∧R 12=.int .i64 k∧R 13=.int .i64 ((b-1):Nat)∧(a+1)≤k∧k≤n∧scanUp (fun x=>aY x (swp d a pv)[a]!) (swp d a pv) ((b-1)) k=si) (fun k=>(b-1)+1-k) ((a+1))
  (fun R H'=>At H' (fun H'=>H'[c]?=some (.cells (aJ eN (swp d a pv).toList))∧a9 (fun x=>x=c) H H')∧R 0=.aA c 0 n 2∧R 1=.int .i64 a∧R 4=.fn 61 []∧R 12=.int .i64 si∧R 13=.int .i64 ((b-1):Nat)∧(a+1)≤si∧si≤n) ⟨.i ⟨hd,ar⟩,rfl,rfl,rfl,rfl,rfl,Nat.le_refl _,by omega,qj.symm⟩ ?_ ?_
 ·rintro k R H2⟨⟨hd,ar⟩,h0,h1,h4,aB,bn,sM,qe,hk⟩
  have lc:=aM hd
  by_cases fk:k≤(b-1)
  ·simp -implicitDefEqProofs (maxSteps:=1000000) (disch:=omega) only[aa,aQ,aR,aS,aU,aV,aW,wA,a6,wS,a0,wM,S2,op,ef,cl,sq,reduceIte,j2,j3,j4,j5,j6,j7,j8,j9,y1,S1,h0,h1,h4,aB,bn,fk,hd,lc]
   refine mg _ _ _ _ _ _ _ (by simp -implicitDefEqProofs (maxSteps:=1000000) (disch:=omega) only[aa,aQ,aR,aS,aU,aV,aW,wA,a6,wS,a0,wM,S2,op,ef,cl,sq,reduceIte,j2,j3,j4,j5,j6,j7,j8,j9,y1,S1,h0,h1,h4,aB,bn,fk,hd,lc]) ?_
   simp -implicitDefEqProofs (maxSteps:=1000000) (disch:=omega) only[aa,aQ,aR,aS,aU,aV,aW,wA,a6,wS,a0,wM,S2,op,ef,cl,sq,reduceIte,j2,j3,j4,j5,j6,j7,j8,j9,y1,S1,cB,h0,h1,h4,aB,bn,fk,hd,lc,List.append_nil]
   refine ae _ _ _ _ _ _ _ _ (cq (swp d a pv)[k]! (swp d a pv)[a]! _) ?_
   rintro u H3⟨hu,hx⟩
   cases hu
   have hx:Ext H2 H3:=hx
   have hd:=hx.get hd
   have lc:=aM hd
   have ar:=ar.trans (ax (F:=fun _=>False) hx) (fun _ h=>h.elim)
   have cV:aY (swp d a pv)[k]! (swp d a pv)[a]! = decide (dN (swp d a pv)[k]! (swp d a pv)[a]!<0):=rfl
   by_cases c1:dN (swp d a pv)[k]! (swp d a pv)[a]!<0
   ·simp -implicitDefEqProofs (maxSteps:=1000000) (disch:=omega) only[aa,aQ,aR,aS,aU,aV,aW,wA,a6,wS,a0,wM,S2,op,ef,cl,sq,reduceIte,j2,j3,j4,j5,j6,j7,j8,j9,y1,S1,h0,h1,h4,aB,bn,fk,c1]
    rw[scanUp,if_pos (gg (ct fk) (cV.trans (ct c1)))]at hk
    exact⟨k+1,by omega,.i ⟨hd,ar⟩,rfl,by omega,by omega,hk⟩
   ·simp -implicitDefEqProofs (maxSteps:=1000000) (disch:=omega) only[aa,aQ,aR,aS,aU,aV,aW,wA,a6,wS,a0,wM,S2,op,ef,cl,sq,reduceIte,j2,j3,j4,j5,j6,j7,j8,j9,y1,S1,h0,h1,h4,aB,bn,fk,c1]
    rw[scanUp,if_neg (eb (cV.trans (cr c1)))]at hk
    subst hk
    exact⟨.i ⟨hd,ar⟩,rfl,sM,qe⟩
  ·simp -implicitDefEqProofs only[op,ef,cl,sq,reduceIte,j2,j3,j4,j5,j6,j7,j8,j9,y1,S1,h0,h1,h4,aB,bn,fk]
   rw[scanUp,if_neg (dw (cr fk))]at hk
   subst hk
   exact⟨.i ⟨hd,ar⟩,rfl,sM,qe⟩
 ·rintro R H2⟨⟨hd,ar⟩,h0,h1,h4,aB,bn,z8,HF⟩
  simp -implicitDefEqProofs only[op,ef,cl,sq,reduceIte,j2,j3,j4,j5,j6,j7,j8,j9,y1,S1,h0,h1,h4,aB,bn]
  obtain⟨sj,ua⟩:∃sj,sj=scanDown (fun x=>!aY x (swp d a pv)[a]!) (swp d a pv) si (b-1):=⟨_,rfl⟩
  refine W.cT 2 (fun (k:Nat) R H'=>At H' (fun H'=>H'[c]?=some (.cells (aJ eN (swp d a pv).toList))∧a9 (fun x=>x=c) H H')∧R 0=.aA c 0 n 2∧R 1=.int .i64 a∧R 4=.fn 61 []∧R 12=.int .i64 si∧R 13=.int .i64 k∧k≤(b-1)∧scanDown (fun x=>!aY x (swp d a pv)[a]!) (swp d a pv) si k=sj) (fun k=>k) ((b-1))
   (fun R H'=>At H' (fun H'=>H'[c]?=some (.cells (aJ eN (swp d a pv).toList))∧a9 (fun x=>x=c) H H')∧R 0=.aA c 0 n 2∧R 1=.int .i64 a∧R 4=.fn 61 []∧R 12=.int .i64 si∧R 13=.int .i64 sj∧sj≤(b-1)) ⟨.i ⟨hd,ar⟩,h0,h1,h4,aB,bn,Nat.le_refl _,ua.symm⟩ ?_ ?_
  ·rintro k R H3⟨⟨hd,ar⟩,h0,h1,h4,aB,bn,fk,hk⟩
   have lc:=aM hd
   rw[mz (by omega)]at hk
   by_cases bO:si≤k
   ·simp -implicitDefEqProofs (maxSteps:=1000000) (disch:=omega) only[aa,aQ,aR,aS,aU,aV,aW,wA,a6,wS,a0,wM,S2,op,ef,cl,sq,reduceIte,j2,j3,j4,j5,j6,j7,j8,j9,y1,S1,h0,h1,h4,aB,bn,bO,hd,lc]
    refine mg _ _ _ _ _ _ _ (by simp -implicitDefEqProofs (maxSteps:=1000000) (disch:=omega) only[aa,aQ,aR,aS,aU,aV,aW,wA,a6,wS,a0,wM,S2,op,ef,cl,sq,reduceIte,j2,j3,j4,j5,j6,j7,j8,j9,y1,S1,h0,h1,h4,aB,bn,bO,hd,lc]) ?_
    simp -implicitDefEqProofs (maxSteps:=1000000) (disch:=omega) only[aa,aQ,aR,aS,aU,aV,aW,wA,a6,wS,a0,wM,S2,op,ef,cl,sq,reduceIte,j2,j3,j4,j5,j6,j7,j8,j9,y1,S1,cB,h0,h1,h4,aB,bn,bO,hd,lc,List.append_nil]
    refine ae _ _ _ _ _ _ _ _ (cq (swp d a pv)[k]! (swp d a pv)[a]! _) ?_
    rintro u H4⟨hu,hx⟩
    cases hu
    have hx:Ext H3 H4:=hx
    have hd:=hx.get hd
    have lc:=aM hd
    have ar:=ar.trans (ax (F:=fun _=>False) hx) (fun _ h=>h.elim)
    have cV:aY (swp d a pv)[k]! (swp d a pv)[a]! = decide (dN (swp d a pv)[k]! (swp d a pv)[a]!<0):=rfl
    by_cases c1:dN (swp d a pv)[k]! (swp d a pv)[a]!<0
    ·simp -implicitDefEqProofs (maxSteps:=1000000) (disch:=omega) only[aa,aQ,aR,aS,aU,aV,aW,wA,a6,wS,a0,wM,S2,op,ef,cl,sq,reduceIte,j2,j3,j4,j5,j6,j7,j8,j9,y1,S1,h0,h1,h4,aB,bn,bO,c1]
     rw[if_neg (eb (by rw[cV,ct c1];rfl))]at hk
     subst hk
     exact⟨.i ⟨hd,ar⟩,rfl,fk⟩
    ·simp -implicitDefEqProofs (maxSteps:=1000000) (disch:=omega) only[aa,aQ,aR,aS,aU,aV,aW,wA,a6,wS,a0,wM,S2,op,ef,cl,sq,reduceIte,j2,j3,j4,j5,j6,j7,j8,j9,y1,S1,h0,h1,h4,aB,bn,bO,c1]
     rw[if_pos (gg (ct bO) (fE (cV.trans (cr c1))))]at hk
     exact⟨k-1,by omega,.i ⟨hd,ar⟩,rfl,by omega,hk⟩
   ·simp -implicitDefEqProofs only[op,ef,cl,sq,reduceIte,j2,j3,j4,j5,j6,j7,j8,j9,y1,S1,h0,h1,h4,aB,bn,bO]
    rw[if_neg (dw (cr bO))]at hk
    subst hk
    exact⟨.i ⟨hd,ar⟩,rfl,fk⟩
  ·rintro R H3⟨⟨hd,ar⟩,h0,h1,h4,aB,bn,HG⟩
   have lc:=aM hd
   by_cases lI:sj<si
   ·have e:partition aY d a b pv=(sj,true,swp (swp d a pv) sj a):=by
     simp -implicitDefEqProofs only[partition,←qj,←ua,gt_iff_lt,if_pos lI]
    rw[e]
    simp -implicitDefEqProofs (maxSteps:=1000000) (disch:=omega) only[aa,aQ,aR,aS,aU,aV,aW,wA,a6,wS,a0,wM,S2,op,ef,cl,sq,reduceIte,j2,j3,j4,j5,j6,j7,j8,j9,y1,S1,h0,h1,h4,aB,bn,lI,hd,lc]
    exact .swp hd (by rw[swp_size];exact zU) rfl ar
   ·obtain⟨r,hr⟩:∃r,r=partLoop aY a (si+1) (sj-1) (swp (swp d a pv) si sj):=⟨_,rfl⟩
    have e:partition aY d a b pv=(r.1,false,swp r.2 r.1 a):=by
     simp -implicitDefEqProofs only[partition,←qj,←ua,gt_iff_lt,if_neg lI,←hr]
    rw[e]
    simp -implicitDefEqProofs (maxSteps:=1000000) (disch:=omega) only[aa,aQ,aR,aS,aU,aV,aW,wA,a6,wS,a0,wM,S2,op,ef,cl,sq,reduceIte,j2,j3,j4,j5,j6,j7,j8,j9,y1,S1,h0,h1,h4,aB,bn,lI,hd,lc]
    obtain⟨d2,cz,jb,e2,eF⟩:=SC.swp (n:=n) (P:=fun x=>x=swp (swp d a pv) si sj) (x:=.cells (aJ eN ((swp d a pv).toList.set si (swp d a pv)[sj]!))) hd (by rw[swp_size];exact zU) rfl ar
    subst e2
    generalize ((H3.set c (.cells (aJ eN ((swp d a pv).toList.set si (swp d a pv)[sj]!)))).set c (.cells (aJ eN (swp (swp d a pv) si sj).toList)))=H5 at *
    refine W.cT 4 (fun (q:Nat×Nat) R H'=>At H' (fun H'=>SC c n H (fun di=>partLoop aY a q.1 q.2 di=r) H')∧R 0=.aA c 0 n 2∧R 1=.int .i64 a∧R 4=.fn 61 []∧R 12=.int .i64 q.1∧R 13=.int .i64 q.2∧a<q.1∧q.2<n∧q.1≤n) (fun q=>q.2+1-q.1) (si+1,sj-1)
     (fun R H'=>At H' (fun H'=>SC c n H (fun di=>di=r.2) H')∧R 0=.aA c 0 n 2∧R 1=.int .i64 a∧R 4=.fn 61 []∧R 13=.int .i64 r.1∧r.1<n) ⟨.i ⟨_,cz,jb,hr.symm,eF⟩,?_,?_,?_,?_,?_,by simp only;omega,by simp only;omega,by simp only;omega⟩ ?_ ?_
    ·simp -implicitDefEqProofs only[op,ef,cl,sq,reduceIte,j2,j3,j4,j5,j6,j7,j8,j9,y1,S1,h0]
    ·simp -implicitDefEqProofs only[op,ef,cl,sq,reduceIte,j2,j3,j4,j5,j6,j7,j8,j9,y1,S1,h1]
    ·simp -implicitDefEqProofs only[op,ef,cl,sq,reduceIte,j2,j3,j4,j5,j6,j7,j8,j9,y1,S1,h4]
    ·simp -implicitDefEqProofs only[op,ef,cl,sq,reduceIte,j2,j3,j4,j5,j6,j7,j8,j9,y1,S1,aB]
    ·simp -implicitDefEqProofs only[op,ef,cl,sq,reduceIte,j2,j3,j4,j5,j6,j7,j8,j9,y1,S1,bn]
    ·rintro⟨i,j⟩ R H1 ⟨⟨di,hd,a7,hP,ar⟩,h0,h1,h4,aB,bn,Hw,zw,iP⟩
     simp only at hP aB bn Hw zw iP ⊢
     simp -implicitDefEqProofs only[op,ef,cl,sq,reduceIte,j2,j3,j4,j5,j6,j7,j8,j9,y1,S1,h0,h1,h4,aB,bn]
     clear qj ua
     obtain⟨si,qj⟩:∃si,si=scanUp (fun x=>aY x di[a]!) di j i:=⟨_,rfl⟩
     refine W.cT 6 (fun (k:Nat) R H'=>At H' (fun H'=>H'[c]?=some (.cells (aJ eN di.toList))∧a9 (fun x=>x=c) H H')∧R 0=.aA c 0 n 2∧R 1=.int .i64 a∧R 4=.fn 61 []∧R 12=.int .i64 k∧R 13=.int .i64 (j:Nat)∧i≤k∧k≤n∧scanUp (fun x=>aY x di[a]!) di (j) k=si) (fun k=>j+1-k) (i)
      (fun R H'=>At H' (fun H'=>H'[c]?=some (.cells (aJ eN di.toList))∧a9 (fun x=>x=c) H H')∧R 0=.aA c 0 n 2∧R 1=.int .i64 a∧R 4=.fn 61 []∧R 12=.int .i64 si∧R 13=.int .i64 (j:Nat)∧i≤si∧si≤n) ⟨.i ⟨hd,ar⟩,h0,h1,h4,aB,bn,Nat.le_refl _,by omega,qj.symm⟩ ?_ ?_
     ·rintro k R H2⟨⟨hd,ar⟩,h0,h1,h4,aB,bn,sM,qe,hk⟩
      have lc:=aM hd
      by_cases fk:k≤j
      ·simp -implicitDefEqProofs (maxSteps:=1000000) (disch:=omega) only[aa,aQ,aR,aS,aU,aV,aW,wA,a6,wS,a0,wM,S2,op,ef,cl,sq,reduceIte,j2,j3,j4,j5,j6,j7,j8,j9,y1,S1,h0,h1,h4,aB,bn,fk,hd,lc]
       refine mg _ _ _ _ _ _ _ (by simp -implicitDefEqProofs (maxSteps:=1000000) (disch:=omega) only[aa,aQ,aR,aS,aU,aV,aW,wA,a6,wS,a0,wM,S2,op,ef,cl,sq,reduceIte,j2,j3,j4,j5,j6,j7,j8,j9,y1,S1,h0,h1,h4,aB,bn,fk,hd,lc]) ?_
       simp -implicitDefEqProofs (maxSteps:=1000000) (disch:=omega) only[aa,aQ,aR,aS,aU,aV,aW,wA,a6,wS,a0,wM,S2,op,ef,cl,sq,reduceIte,j2,j3,j4,j5,j6,j7,j8,j9,y1,S1,cB,h0,h1,h4,aB,bn,fk,hd,lc,List.append_nil]
       refine ae _ _ _ _ _ _ _ _ (cq di[k]! di[a]! _) ?_
       rintro u H3⟨hu,hx⟩
       cases hu
       have hx:Ext H2 H3:=hx
       have hd:=hx.get hd
       have lc:=aM hd
       have ar:=ar.trans (ax (F:=fun _=>False) hx) (fun _ h=>h.elim)
       have cV:aY di[k]! di[a]! = decide (dN di[k]! di[a]!<0):=rfl
       by_cases c1:dN di[k]! di[a]!<0
       ·simp -implicitDefEqProofs (maxSteps:=1000000) (disch:=omega) only[aa,aQ,aR,aS,aU,aV,aW,wA,a6,wS,a0,wM,S2,op,ef,cl,sq,reduceIte,j2,j3,j4,j5,j6,j7,j8,j9,y1,S1,h0,h1,h4,aB,bn,fk,c1]
        rw[scanUp,if_pos (gg (ct fk) (cV.trans (ct c1)))]at hk
        exact⟨k+1,by omega,.i ⟨hd,ar⟩,rfl,by omega,by omega,hk⟩
       ·simp -implicitDefEqProofs (maxSteps:=1000000) (disch:=omega) only[aa,aQ,aR,aS,aU,aV,aW,wA,a6,wS,a0,wM,S2,op,ef,cl,sq,reduceIte,j2,j3,j4,j5,j6,j7,j8,j9,y1,S1,h0,h1,h4,aB,bn,fk,c1]
        rw[scanUp,if_neg (eb (cV.trans (cr c1)))]at hk
        subst hk
        exact⟨.i ⟨hd,ar⟩,rfl,sM,qe⟩
      ·simp -implicitDefEqProofs only[op,ef,cl,sq,reduceIte,j2,j3,j4,j5,j6,j7,j8,j9,y1,S1,h0,h1,h4,aB,bn,fk]
       rw[scanUp,if_neg (dw (cr fk))]at hk
       subst hk
       exact⟨.i ⟨hd,ar⟩,rfl,sM,qe⟩
     ·rintro R H2⟨⟨hd,ar⟩,h0,h1,h4,aB,bn,z8,HF⟩
      simp -implicitDefEqProofs only[op,ef,cl,sq,reduceIte,j2,j3,j4,j5,j6,j7,j8,j9,y1,S1,h0,h1,h4,aB,bn]
      obtain⟨sj,ua⟩:∃sj,sj=scanDown (fun x=>!aY x di[a]!) di si j:=⟨_,rfl⟩
      refine W.cT 8 (fun (k:Nat) R H'=>At H' (fun H'=>H'[c]?=some (.cells (aJ eN di.toList))∧a9 (fun x=>x=c) H H')∧R 0=.aA c 0 n 2∧R 1=.int .i64 a∧R 4=.fn 61 []∧R 12=.int .i64 si∧R 13=.int .i64 k∧k≤j∧scanDown (fun x=>!aY x di[a]!) di si k=sj) (fun k=>k) (j)
       (fun R H'=>At H' (fun H'=>H'[c]?=some (.cells (aJ eN di.toList))∧a9 (fun x=>x=c) H H')∧R 0=.aA c 0 n 2∧R 1=.int .i64 a∧R 4=.fn 61 []∧R 12=.int .i64 si∧R 13=.int .i64 sj∧sj≤j) ⟨.i ⟨hd,ar⟩,h0,h1,h4,aB,bn,Nat.le_refl _,ua.symm⟩ ?_ ?_
      ·rintro k R H3⟨⟨hd,ar⟩,h0,h1,h4,aB,bn,fk,hk⟩
       have lc:=aM hd
       rw[mz (by omega)]at hk
       by_cases bO:si≤k
       ·simp -implicitDefEqProofs (maxSteps:=1000000) (disch:=omega) only[aa,aQ,aR,aS,aU,aV,aW,wA,a6,wS,a0,wM,S2,op,ef,cl,sq,reduceIte,j2,j3,j4,j5,j6,j7,j8,j9,y1,S1,h0,h1,h4,aB,bn,bO,hd,lc]
        refine mg _ _ _ _ _ _ _ (by simp -implicitDefEqProofs (maxSteps:=1000000) (disch:=omega) only[aa,aQ,aR,aS,aU,aV,aW,wA,a6,wS,a0,wM,S2,op,ef,cl,sq,reduceIte,j2,j3,j4,j5,j6,j7,j8,j9,y1,S1,h0,h1,h4,aB,bn,bO,hd,lc]) ?_
        simp -implicitDefEqProofs (maxSteps:=1000000) (disch:=omega) only[aa,aQ,aR,aS,aU,aV,aW,wA,a6,wS,a0,wM,S2,op,ef,cl,sq,reduceIte,j2,j3,j4,j5,j6,j7,j8,j9,y1,S1,cB,h0,h1,h4,aB,bn,bO,hd,lc,List.append_nil]
        refine ae _ _ _ _ _ _ _ _ (cq di[k]! di[a]! _) ?_
        rintro u H4⟨hu,hx⟩
        cases hu
        have hx:Ext H3 H4:=hx
        have hd:=hx.get hd
        have lc:=aM hd
        have ar:=ar.trans (ax (F:=fun _=>False) hx) (fun _ h=>h.elim)
        have cV:aY di[k]! di[a]! = decide (dN di[k]! di[a]!<0):=rfl
        by_cases c1:dN di[k]! di[a]!<0
        ·simp -implicitDefEqProofs (maxSteps:=1000000) (disch:=omega) only[aa,aQ,aR,aS,aU,aV,aW,wA,a6,wS,a0,wM,S2,op,ef,cl,sq,reduceIte,j2,j3,j4,j5,j6,j7,j8,j9,y1,S1,h0,h1,h4,aB,bn,bO,c1]
         rw[if_neg (eb (by rw[cV,ct c1];rfl))]at hk
         subst hk
         exact⟨.i ⟨hd,ar⟩,rfl,fk⟩
        ·simp -implicitDefEqProofs (maxSteps:=1000000) (disch:=omega) only[aa,aQ,aR,aS,aU,aV,aW,wA,a6,wS,a0,wM,S2,op,ef,cl,sq,reduceIte,j2,j3,j4,j5,j6,j7,j8,j9,y1,S1,h0,h1,h4,aB,bn,bO,c1]
         rw[if_pos (gg (ct bO) (fE (cV.trans (cr c1))))]at hk
         exact⟨k-1,by omega,.i ⟨hd,ar⟩,rfl,by omega,hk⟩
       ·simp -implicitDefEqProofs only[op,ef,cl,sq,reduceIte,j2,j3,j4,j5,j6,j7,j8,j9,y1,S1,h0,h1,h4,aB,bn,bO]
        rw[if_neg (dw (cr bO))]at hk
        subst hk
        exact⟨.i ⟨hd,ar⟩,rfl,fk⟩
      ·rintro R H3⟨⟨hd,ar⟩,h0,h1,h4,aB,bn,HG⟩
       have lc:=aM hd
       rw[LC qj ua]at hP
       by_cases lI:sj<si
       ·rw[if_pos lI]at hP
        simp -implicitDefEqProofs only[op,ef,cl,sq,reduceIte,j2,j3,j4,j5,j6,j7,j8,j9,y1,S1,h0,h1,h4,aB,bn,lI]
        exact⟨.i ⟨di,hd,a7,by rw[←hP],ar⟩,by rw[←hP],by rw[←hP];simp only;omega⟩
       ·rw[if_neg lI,if_pos (by omega)]at hP
        simp -implicitDefEqProofs (maxSteps:=1000000) (disch:=omega) only[aa,aQ,aR,aS,aU,aV,aW,wA,a6,wS,a0,wM,S2,op,ef,cl,sq,reduceIte,j2,j3,j4,j5,j6,j7,j8,j9,y1,S1,h0,h1,h4,aB,bn,lI,hd,lc]
        exact⟨(si+1,sj-1),by simp only;omega,.i (.swp hd (by rw[swp_size];exact a7) hP ar),rfl,rfl,by simp only;omega,by simp only;omega,by simp only;omega⟩
    ·rintro R H1⟨⟨di,hd,a7,rfl,ar⟩,h0,h1,h4,bn,DM⟩
     have lc:=aM hd
     simp -implicitDefEqProofs (maxSteps:=1000000) (disch:=omega) only[aa,aQ,aR,aS,aU,aV,aW,wA,a6,wS,a0,wM,S2,op,ef,cl,sq,reduceIte,j2,j3,j4,j5,j6,j7,j8,j9,y1,S1,h0,h1,h4,bn,hd,lc]
     exact .swp hd (by rw[swp_size];exact a7) rfl ar
set_option maxHeartbeats 8000000
open Go.Sort in
theorem shiftDown_eq {d:Array Nm}{k:Nat}(h:1≤k):shiftDown aY k d=if (!aY d[k]! d[k-1]!)=true then d else shiftDown aY (k-1) (swp d k (k-1)):=by
 cases k with
 | zero=>omega
 | succ k=>rw[shiftDown];rfl
open Go.Sort in
theorem QF (c n:Nat)(d:Array Nm)(a b:Nat)(H:af)(hn:d.size=n)(hc:H[c]?=some (.cells (aJ eN d.toList)))(hb:b≤n)(fG:a<b)(hs:n<2305843009213693951) :
  W env (.call 137 [.aA c 0 n 2,.int .i64 a,.int .i64 b,.fn 61 []]) H (fun o H'=>o=.val (.bool (partialInsertionSort aY d a b).2)∧SC c n H (fun x=>x=(partialInsertionSort aY d a b).1) H'):=by
 refine W.bu rfl rfl rfl ?_
 obtain⟨r,hr⟩:∃r,r=partialInsertionSort aY d a b:=⟨_,rfl⟩
 rw[←hr]
 simp -implicitDefEqProofs (maxSteps:=1000000) (disch:=omega) only[GU,aa,aQ,aR,aS,aU,aV,aW,wA,a6,wS,a0,wM,S2,op,ef,cl,sq,reduceIte,j2,j3,j4,j5,j6,j7,j8,j9,y1,S1]
 refine W.cT 0 (fun (j:Nat) R H'=>At H' (fun H'=>∃i,R 9=.int .i64 (i:Nat)∧a<i∧i≤b∧SC c n H (fun di=>partialIns aY a b (5-j) i di=r) H')∧R 0=.aA c 0 n 2∧R 1=.int .i64 a∧R 2=.int .i64 b∧R 3=.fn 61 []∧R 10=.int .i64 j∧j≤5) (fun j=>5-j) 0
  (fun R H'=>At H' (fun H'=>SC c n H (fun di=>(di,false)=r) H')) ⟨.i ⟨a+1,rfl,by omega,by omega,d,hc,hn,hr.symm,a9.refl _ _⟩,rfl,rfl,rfl,rfl,rfl,by omega⟩ ?_ ?_
 ·rintro j R H1⟨⟨i,h9,Hw,hib,di,hd,a7,hP,ar⟩,h0,h1,h2,h3,aC,hj⟩
  by_cases hj5:j<5
  rotate_left
  ·have:j=5:=by omega
   subst this
   simp -implicitDefEqProofs only[op,ef,cl,sq,reduceIte,j2,j3,j4,j5,j6,j7,j8,j9,y1,S1,h0,h1,h2,h3,aC]
   exact .i ⟨di,hd,a7,hP,ar⟩
  obtain⟨s,QG⟩:∃s,5-j=s+1:=⟨4-j,by omega⟩
  have wB:5-(j+1)=s:=by omega
  rw[QG,partialIns]at hP
  simp -implicitDefEqProofs only[op,ef,cl,sq,reduceIte,j2,j3,j4,j5,j6,j7,j8,j9,y1,S1,h0,h1,h2,h3,aC,hj5]
  obtain⟨si,qj⟩:∃si,si=scanSorted aY di b i:=⟨_,rfl⟩
  rw[←qj]at hP
  refine W.cT 2 (fun (k:Nat) R H'=>At H' (fun H'=>H'[c]?=some (.cells (aJ eN di.toList))∧a9 (fun x=>x=c) H H')∧R 0=.aA c 0 n 2∧R 1=.int .i64 a∧R 2=.int .i64 b∧R 3=.fn 61 []∧R 9=.int .i64 k∧R 10=.int .i64 j∧i≤k∧k≤b∧scanSorted aY di b k=si) (fun k=>b-k) i
   (fun R H'=>At H' (fun H'=>H'[c]?=some (.cells (aJ eN di.toList))∧a9 (fun x=>x=c) H H')∧R 0=.aA c 0 n 2∧R 1=.int .i64 a∧R 2=.int .i64 b∧R 3=.fn 61 []∧R 9=.int .i64 si∧R 10=.int .i64 j∧i≤si∧si≤b) ⟨.i ⟨hd,ar⟩,?_,?_,?_,?_,?_,?_,Nat.le_refl _,hib,qj.symm⟩ ?_ ?_
  ·simp -implicitDefEqProofs only[op,ef,cl,sq,reduceIte,j2,j3,j4,j5,j6,j7,j8,j9,y1,S1,h0]
  ·simp -implicitDefEqProofs only[op,ef,cl,sq,reduceIte,j2,j3,j4,j5,j6,j7,j8,j9,y1,S1,h1]
  ·simp -implicitDefEqProofs only[op,ef,cl,sq,reduceIte,j2,j3,j4,j5,j6,j7,j8,j9,y1,S1,h2]
  ·simp -implicitDefEqProofs only[op,ef,cl,sq,reduceIte,j2,j3,j4,j5,j6,j7,j8,j9,y1,S1,h3]
  ·simp -implicitDefEqProofs only[op,ef,cl,sq,reduceIte,j2,j3,j4,j5,j6,j7,j8,j9,y1,S1,h9]
  ·simp -implicitDefEqProofs only[op,ef,cl,sq,reduceIte,j2,j3,j4,j5,j6,j7,j8,j9,y1,S1,aC]
  ·rintro k R H2⟨⟨hd,ar⟩,h0,h1,h2,h3,h9,aC,sM,Ct,hk⟩
   have lc:=aM hd
   by_cases bO:k<b
   ·simp -implicitDefEqProofs (maxSteps:=1000000) (disch:=omega) only[aa,aQ,aR,aS,aU,aV,aW,wA,a6,wS,a0,wM,S2,op,ef,cl,sq,reduceIte,j2,j3,j4,j5,j6,j7,j8,j9,y1,S1,h0,h1,h2,h3,h9,aC,bO,hd,lc]
    refine mg _ _ _ _ _ _ _ (by simp -implicitDefEqProofs (maxSteps:=1000000) (disch:=omega) only[aa,aQ,aR,aS,aU,aV,aW,wA,a6,wS,a0,wM,S2,op,ef,cl,sq,reduceIte,j2,j3,j4,j5,j6,j7,j8,j9,y1,S1,h0,h1,h2,h3,h9,aC,bO,hd,lc]) ?_
    simp -implicitDefEqProofs (maxSteps:=1000000) (disch:=omega) only[aa,aQ,aR,aS,aU,aV,aW,wA,a6,wS,a0,wM,S2,op,ef,cl,sq,reduceIte,j2,j3,j4,j5,j6,j7,j8,j9,y1,S1,cB,h0,h1,h2,h3,h9,aC,bO,hd,lc,List.append_nil]
    refine ae _ _ _ _ _ _ _ _ (cq di[k]! di[k-1]! _) ?_
    rintro u H3⟨hu,hx⟩
    cases hu
    have hx:Ext H2 H3:=hx
    have hd:=hx.get hd
    have lc:=aM hd
    have ar:=ar.trans (ax (F:=fun _=>False) hx) (fun _ h=>h.elim)
    have cV:aY di[k]! di[k-1]! = decide (dN di[k]! di[k-1]!<0):=rfl
    by_cases c1:dN di[k]! di[k-1]!<0
    ·simp -implicitDefEqProofs (maxSteps:=1000000) (disch:=omega) only[aa,aQ,aR,aS,aU,aV,aW,wA,a6,wS,a0,wM,S2,op,ef,cl,sq,reduceIte,j2,j3,j4,j5,j6,j7,j8,j9,y1,S1,h0,h1,h2,h3,h9,aC,bO,c1]
     rw[scanSorted,if_neg (eb (by rw[cV,ct c1];rfl))]at hk
     subst hk
     exact⟨.i ⟨hd,ar⟩,rfl,sM,Ct⟩
    ·simp -implicitDefEqProofs (maxSteps:=1000000) (disch:=omega) only[aa,aQ,aR,aS,aU,aV,aW,wA,a6,wS,a0,wM,S2,op,ef,cl,sq,reduceIte,j2,j3,j4,j5,j6,j7,j8,j9,y1,S1,h0,h1,h2,h3,h9,aC,bO,c1]
     rw[scanSorted,if_pos (gg (ct bO) (fE (cV.trans (cr c1))))]at hk
     exact⟨k+1,by omega,.i ⟨hd,ar⟩,rfl,by omega,by omega,hk⟩
   ·simp -implicitDefEqProofs only[op,ef,cl,sq,reduceIte,j2,j3,j4,j5,j6,j7,j8,j9,y1,S1,h0,h1,h2,h3,h9,aC,bO]
    rw[scanSorted,if_neg (dw (cr bO))]at hk
    subst hk
    exact⟨.i ⟨hd,ar⟩,rfl,sM,Ct⟩
  ·rintro R H2⟨⟨hd,ar⟩,h0,h1,h2,h3,h9,aC,z8,acs⟩
   have lc:=aM hd
   by_cases lL:si=b
   ·rw[if_pos lL]at hP
    have e1:((si:Int)==(b:Int))=true:=by rw[lL];simp
    simp -implicitDefEqProofs (maxSteps:=1000000) (disch:=omega) only[aa,aQ,aR,aS,aU,aV,aW,wA,a6,wS,a0,wM,S2,op,ef,cl,sq,reduceIte,j2,j3,j4,j5,j6,j7,j8,j9,y1,S1,h0,h1,h2,h3,h9,aC,e1]
    rw[←hP]
    exact⟨rfl,di,hd,a7,rfl,ar⟩
   rw[if_neg lL]at hP
   have e1:((si:Int)==(b:Int))=false:=by simp;omega
   by_cases wz:b-a<50
   ·rw[if_pos wz]at hP
    simp -implicitDefEqProofs (maxSteps:=1000000) (disch:=omega) only[aa,aQ,aR,aS,aU,aV,aW,wA,a6,wS,a0,wM,S2,op,ef,cl,sq,reduceIte,j2,j3,j4,j5,j6,j7,j8,j9,y1,S1,h0,h1,h2,h3,h9,aC,e1,wz]
    rw[←hP]
    exact⟨rfl,di,hd,a7,rfl,ar⟩
   rw[if_neg wz]at hP
   simp -implicitDefEqProofs (maxSteps:=1000000) (disch:=omega) only[aa,aQ,aR,aS,aU,aV,aW,wA,a6,wS,a0,wM,S2,op,ef,cl,sq,reduceIte,j2,j3,j4,j5,j6,j7,j8,j9,y1,S1,h0,h1,h2,h3,h9,aC,e1,wz,hd,lc]
   obtain⟨d3,oZ⟩:∃d3,d3=if si-a≥2 then shiftDown aY (si-1) (swp di si (si-1))else swp di si (si-1):=⟨_,rfl⟩
   obtain⟨d4,sN⟩:∃d4,d4=if b-si≥2 then shiftUp aY b (si+1) d3 else d3:=⟨_,rfl⟩
   have hP:partialIns aY a b s si d4=r:=by rw[sN,oZ];exact hP
   obtain⟨d2,cz,jb,e2,eF⟩:=SC.swp (n:=n) (P:=fun x=>x=swp di si (si-1)) (x:=.cells (aJ eN (di.toList.set si di[si-1]!))) hd (by rw[swp_size];exact a7) rfl ar
   subst e2
   generalize ((H2.set c (.cells (aJ eN (di.toList.set si di[si-1]!)))).set c (.cells (aJ eN (swp di si (si-1)).toList)))=H5 at *
   by_cases hA:2≤si-a
   ·rw[if_pos hA]at oZ
    simp -implicitDefEqProofs (maxSteps:=1000000) (disch:=omega) only[aa,aQ,aR,aS,aU,aV,aW,wA,a6,wS,a0,wM,S2,op,ef,cl,sq,reduceIte,j2,j3,j4,j5,j6,j7,j8,j9,y1,S1,h0,h1,h2,h3,h9,aC,hA]
    refine W.cT 4 (fun (k:Nat) R H'=>At H' (fun H'=>SC c n H (fun dx=>shiftDown aY k dx=d3) H')∧R 0=.aA c 0 n 2∧R 1=.int .i64 a∧R 2=.int .i64 b∧R 3=.fn 61 []∧R 9=.int .i64 si∧R 10=.int .i64 j∧R 11=.int .i64 k∧k<b) (fun k=>k) (si-1)
     (fun R H'=>At H' (fun H'=>SC c n H (fun dx=>dx=d3) H')∧R 0=.aA c 0 n 2∧R 1=.int .i64 a∧R 2=.int .i64 b∧R 3=.fn 61 []∧R 9=.int .i64 si∧R 10=.int .i64 j) ⟨.i ⟨_,cz,jb,oZ.symm,eF⟩,?_,?_,?_,?_,?_,?_,?_,by omega⟩ ?_ ?_
    ·simp -implicitDefEqProofs only[op,ef,cl,sq,reduceIte,j2,j3,j4,j5,j6,j7,j8,j9,y1,S1,h0]
    ·simp -implicitDefEqProofs only[op,ef,cl,sq,reduceIte,j2,j3,j4,j5,j6,j7,j8,j9,y1,S1,h1]
    ·simp -implicitDefEqProofs only[op,ef,cl,sq,reduceIte,j2,j3,j4,j5,j6,j7,j8,j9,y1,S1,h2]
    ·simp -implicitDefEqProofs only[op,ef,cl,sq,reduceIte,j2,j3,j4,j5,j6,j7,j8,j9,y1,S1,h3]
    ·simp -implicitDefEqProofs only[op,ef,cl,sq,reduceIte,j2,j3,j4,j5,j6,j7,j8,j9,y1,S1,h9]
    ·simp -implicitDefEqProofs only[op,ef,cl,sq,reduceIte,j2,j3,j4,j5,j6,j7,j8,j9,y1,S1,aC]
    ·simp -implicitDefEqProofs only[op,ef,cl,sq,reduceIte,j2,j3,j4,j5,j6,j7,j8,j9,y1,S1]
    ·rintro k R H2⟨⟨dx,hd,a7,hk,ar⟩,h0,h1,h2,h3,h9,aC,bf,Ct⟩
     have lc:=aM hd
     by_cases nv:1≤k
     ·simp -implicitDefEqProofs (maxSteps:=1000000) (disch:=omega) only[aa,aQ,aR,aS,aU,aV,aW,wA,a6,wS,a0,wM,S2,op,ef,cl,sq,reduceIte,j2,j3,j4,j5,j6,j7,j8,j9,y1,S1,h0,h1,h2,h3,h9,aC,bf,nv,hd,lc]
      refine mg _ _ _ _ _ _ _ (by simp -implicitDefEqProofs (maxSteps:=1000000) (disch:=omega) only[aa,aQ,aR,aS,aU,aV,aW,wA,a6,wS,a0,wM,S2,op,ef,cl,sq,reduceIte,j2,j3,j4,j5,j6,j7,j8,j9,y1,S1,h0,h1,h2,h3,h9,aC,bf,nv,hd,lc]) ?_
      simp -implicitDefEqProofs (maxSteps:=1000000) (disch:=omega) only[aa,aQ,aR,aS,aU,aV,aW,wA,a6,wS,a0,wM,S2,op,ef,cl,sq,reduceIte,j2,j3,j4,j5,j6,j7,j8,j9,y1,S1,cB,h0,h1,h2,h3,h9,aC,bf,nv,hd,lc,List.append_nil]
      refine ae _ _ _ _ _ _ _ _ (cq dx[k]! dx[k-1]! _) ?_
      rintro u H3⟨hu,hx⟩
      cases hu
      have hx:Ext H2 H3:=hx
      have hd:=hx.get hd
      have lc:=aM hd
      have ar:=ar.trans (ax (F:=fun _=>False) hx) (fun _ h=>h.elim)
      have cV:aY dx[k]! dx[k-1]! = decide (dN dx[k]! dx[k-1]!<0):=rfl
      rw[shiftDown_eq nv]at hk
      by_cases c1:dN dx[k]! dx[k-1]!<0
      ·simp -implicitDefEqProofs (maxSteps:=1000000) (disch:=omega) only[aa,aQ,aR,aS,aU,aV,aW,wA,a6,wS,a0,wM,S2,op,ef,cl,sq,reduceIte,j2,j3,j4,j5,j6,j7,j8,j9,y1,S1,h0,h1,h2,h3,h9,aC,bf,nv,hd,lc,c1]
       rw[if_neg (lA (cV.trans (ct c1)))]at hk
       exact⟨k-1,by omega,.i (.swp hd (by rw[swp_size];exact a7) hk ar),rfl,by omega⟩
      ·simp -implicitDefEqProofs (maxSteps:=1000000) (disch:=omega) only[aa,aQ,aR,aS,aU,aV,aW,wA,a6,wS,a0,wM,S2,op,ef,cl,sq,reduceIte,j2,j3,j4,j5,j6,j7,j8,j9,y1,S1,h0,h1,h2,h3,h9,aC,bf,nv,hd,lc,c1]
       rw[if_pos (fE (cV.trans (cr c1)))]at hk
       exact .i ⟨dx,hd,a7,hk,ar⟩
     ·have Tj:k=0:=by omega
      subst Tj
      simp -implicitDefEqProofs only[op,ef,cl,sq,reduceIte,j2,j3,j4,j5,j6,j7,j8,j9,y1,S1,h0,h1,h2,h3,h9,aC,bf,nv]
      rw[shiftDown]at hk
      exact .i ⟨dx,hd,a7,hk,ar⟩
    ·rintro R H2⟨⟨dx,hd,qk,rfl,ar⟩,h0,h1,h2,h3,h9,aC⟩
     have lc:=aM hd
     by_cases hB:2≤b-si
     ·simp -implicitDefEqProofs (maxSteps:=1000000) (disch:=omega) only[aa,aQ,aR,aS,aU,aV,aW,wA,a6,wS,a0,wM,S2,op,ef,cl,sq,reduceIte,j2,j3,j4,j5,j6,j7,j8,j9,y1,S1,h0,h1,h2,h3,h9,aC,hB]
      rw[if_pos hB]at sN
      refine W.cT 6 (fun (k:Nat) R H'=>At H' (fun H'=>SC c n H (fun dx=>shiftUp aY b k dx=d4) H')∧R 0=.aA c 0 n 2∧R 1=.int .i64 a∧R 2=.int .i64 b∧R 3=.fn 61 []∧R 9=.int .i64 si∧R 10=.int .i64 j∧R 12=.int .i64 k∧1≤k∧k≤b) (fun k=>b-k) (si+1)
       (fun R H'=>At H' (fun H'=>SC c n H (fun dx=>dx=d4) H')∧R 0=.aA c 0 n 2∧R 1=.int .i64 a∧R 2=.int .i64 b∧R 3=.fn 61 []∧R 9=.int .i64 si∧R 10=.int .i64 j) ⟨.i ⟨dx,hd,qk,sN.symm,ar⟩,?_,?_,?_,?_,?_,?_,?_,by omega,by omega⟩ ?_ ?_
      ·simp -implicitDefEqProofs only[op,ef,cl,sq,reduceIte,j2,j3,j4,j5,j6,j7,j8,j9,y1,S1,h0]
      ·simp -implicitDefEqProofs only[op,ef,cl,sq,reduceIte,j2,j3,j4,j5,j6,j7,j8,j9,y1,S1,h1]
      ·simp -implicitDefEqProofs only[op,ef,cl,sq,reduceIte,j2,j3,j4,j5,j6,j7,j8,j9,y1,S1,h2]
      ·simp -implicitDefEqProofs only[op,ef,cl,sq,reduceIte,j2,j3,j4,j5,j6,j7,j8,j9,y1,S1,h3]
      ·simp -implicitDefEqProofs only[op,ef,cl,sq,reduceIte,j2,j3,j4,j5,j6,j7,j8,j9,y1,S1,h9]
      ·simp -implicitDefEqProofs only[op,ef,cl,sq,reduceIte,j2,j3,j4,j5,j6,j7,j8,j9,y1,S1,aC]
      ·simp -implicitDefEqProofs only[op,ef,cl,sq,reduceIte,j2,j3,j4,j5,j6,j7,j8,j9,y1,S1]
      ·rintro k R H2⟨⟨dx,hd,a7,hk,ar⟩,h0,h1,h2,h3,h9,aC,aB,nv,Ct⟩
       have lc:=aM hd
       by_cases bO:k<b
       ·simp -implicitDefEqProofs (maxSteps:=1000000) (disch:=omega) only[aa,aQ,aR,aS,aU,aV,aW,wA,a6,wS,a0,wM,S2,op,ef,cl,sq,reduceIte,j2,j3,j4,j5,j6,j7,j8,j9,y1,S1,h0,h1,h2,h3,h9,aC,aB,bO,hd,lc]
        refine mg _ _ _ _ _ _ _ (by simp -implicitDefEqProofs (maxSteps:=1000000) (disch:=omega) only[aa,aQ,aR,aS,aU,aV,aW,wA,a6,wS,a0,wM,S2,op,ef,cl,sq,reduceIte,j2,j3,j4,j5,j6,j7,j8,j9,y1,S1,h0,h1,h2,h3,h9,aC,aB,bO,hd,lc]) ?_
        simp -implicitDefEqProofs (maxSteps:=1000000) (disch:=omega) only[aa,aQ,aR,aS,aU,aV,aW,wA,a6,wS,a0,wM,S2,op,ef,cl,sq,reduceIte,j2,j3,j4,j5,j6,j7,j8,j9,y1,S1,cB,h0,h1,h2,h3,h9,aC,aB,bO,hd,lc,List.append_nil]
        refine ae _ _ _ _ _ _ _ _ (cq dx[k]! dx[k-1]! _) ?_
        rintro u H3⟨hu,hx⟩
        cases hu
        have hx:Ext H2 H3:=hx
        have hd:=hx.get hd
        have lc:=aM hd
        have ar:=ar.trans (ax (F:=fun _=>False) hx) (fun _ h=>h.elim)
        have cV:aY dx[k]! dx[k-1]! = decide (dN dx[k]! dx[k-1]!<0):=rfl
        rw[shiftUp,if_pos bO]at hk
        by_cases c1:dN dx[k]! dx[k-1]!<0
        ·simp -implicitDefEqProofs (maxSteps:=1000000) (disch:=omega) only[aa,aQ,aR,aS,aU,aV,aW,wA,a6,wS,a0,wM,S2,op,ef,cl,sq,reduceIte,j2,j3,j4,j5,j6,j7,j8,j9,y1,S1,h0,h1,h2,h3,h9,aC,aB,bO,hd,lc,c1]
         rw[if_neg (lA (cV.trans (ct c1)))]at hk
         exact⟨k+1,by omega,.i (.swp hd (by rw[swp_size];exact a7) hk ar),rfl,by omega,by omega⟩
        ·simp -implicitDefEqProofs (maxSteps:=1000000) (disch:=omega) only[aa,aQ,aR,aS,aU,aV,aW,wA,a6,wS,a0,wM,S2,op,ef,cl,sq,reduceIte,j2,j3,j4,j5,j6,j7,j8,j9,y1,S1,h0,h1,h2,h3,h9,aC,aB,bO,hd,lc,c1]
         rw[if_pos (fE (cV.trans (cr c1)))]at hk
         exact .i ⟨dx,hd,a7,hk,ar⟩
       ·simp -implicitDefEqProofs only[op,ef,cl,sq,reduceIte,j2,j3,j4,j5,j6,j7,j8,j9,y1,S1,h0,h1,h2,h3,h9,aC,aB,bO]
        rw[shiftUp,if_neg bO]at hk
        exact .i ⟨dx,hd,a7,hk,ar⟩
      ·rintro R H2⟨⟨dx,hd,a7,rfl,ar⟩,h0,h1,h2,h3,h9,aC⟩
       simp -implicitDefEqProofs (maxSteps:=1000000) (disch:=omega) only[aa,aQ,aR,aS,aU,aV,aW,wA,a6,wS,a0,wM,S2,op,ef,cl,sq,reduceIte,j2,j3,j4,j5,j6,j7,j8,j9,y1,S1,h0,h1,h2,h3,h9,aC]
       exact⟨j+1,by omega,.i ⟨si,rfl,by omega,by omega,dx,hd,a7,by rw[wB];exact hP,ar⟩,rfl,by omega⟩
     ·rw[if_neg hB]at sN
      subst sN
      simp -implicitDefEqProofs (maxSteps:=1000000) (disch:=omega) only[aa,aQ,aR,aS,aU,aV,aW,wA,a6,wS,a0,wM,S2,op,ef,cl,sq,reduceIte,j2,j3,j4,j5,j6,j7,j8,j9,y1,S1,h0,h1,h2,h3,h9,aC,hB]
      exact⟨j+1,by omega,.i ⟨si,rfl,by omega,by omega,d4,hd,qk,by rw[wB];exact hP,ar⟩,rfl,by omega⟩
   ·rw[if_neg hA]at oZ
    simp -implicitDefEqProofs (maxSteps:=1000000) (disch:=omega) only[aa,aQ,aR,aS,aU,aV,aW,wA,a6,wS,a0,wM,S2,op,ef,cl,sq,reduceIte,j2,j3,j4,j5,j6,j7,j8,j9,y1,S1,h0,h1,h2,h3,h9,aC,hA]
    have hd:=cz
    have qk:=jb
    have ar:=eF
    rw[←oZ]at hd qk
    by_cases hB:2≤b-si
    ·simp -implicitDefEqProofs (maxSteps:=1000000) (disch:=omega) only[aa,aQ,aR,aS,aU,aV,aW,wA,a6,wS,a0,wM,S2,op,ef,cl,sq,reduceIte,j2,j3,j4,j5,j6,j7,j8,j9,y1,S1,h0,h1,h2,h3,h9,aC,hB]
     rw[if_pos hB]at sN
     refine W.cT 6 (fun (k:Nat) R H'=>At H' (fun H'=>SC c n H (fun dx=>shiftUp aY b k dx=d4) H')∧R 0=.aA c 0 n 2∧R 1=.int .i64 a∧R 2=.int .i64 b∧R 3=.fn 61 []∧R 9=.int .i64 si∧R 10=.int .i64 j∧R 12=.int .i64 k∧1≤k∧k≤b) (fun k=>b-k) (si+1)
      (fun R H'=>At H' (fun H'=>SC c n H (fun dx=>dx=d4) H')∧R 0=.aA c 0 n 2∧R 1=.int .i64 a∧R 2=.int .i64 b∧R 3=.fn 61 []∧R 9=.int .i64 si∧R 10=.int .i64 j) ⟨.i ⟨d3,hd,qk,sN.symm,ar⟩,?_,?_,?_,?_,?_,?_,?_,by omega,by omega⟩ ?_ ?_
     ·simp -implicitDefEqProofs only[op,ef,cl,sq,reduceIte,j2,j3,j4,j5,j6,j7,j8,j9,y1,S1,h0]
     ·simp -implicitDefEqProofs only[op,ef,cl,sq,reduceIte,j2,j3,j4,j5,j6,j7,j8,j9,y1,S1,h1]
     ·simp -implicitDefEqProofs only[op,ef,cl,sq,reduceIte,j2,j3,j4,j5,j6,j7,j8,j9,y1,S1,h2]
     ·simp -implicitDefEqProofs only[op,ef,cl,sq,reduceIte,j2,j3,j4,j5,j6,j7,j8,j9,y1,S1,h3]
     ·simp -implicitDefEqProofs only[op,ef,cl,sq,reduceIte,j2,j3,j4,j5,j6,j7,j8,j9,y1,S1,h9]
     ·simp -implicitDefEqProofs only[op,ef,cl,sq,reduceIte,j2,j3,j4,j5,j6,j7,j8,j9,y1,S1,aC]
     ·simp -implicitDefEqProofs only[op,ef,cl,sq,reduceIte,j2,j3,j4,j5,j6,j7,j8,j9,y1,S1]
     ·rintro k R H2⟨⟨dx,hd,a7,hk,ar⟩,h0,h1,h2,h3,h9,aC,aB,nv,Ct⟩
      have lc:=aM hd
      by_cases bO:k<b
      ·simp -implicitDefEqProofs (maxSteps:=1000000) (disch:=omega) only[aa,aQ,aR,aS,aU,aV,aW,wA,a6,wS,a0,wM,S2,op,ef,cl,sq,reduceIte,j2,j3,j4,j5,j6,j7,j8,j9,y1,S1,h0,h1,h2,h3,h9,aC,aB,bO,hd,lc]
       refine mg _ _ _ _ _ _ _ (by simp -implicitDefEqProofs (maxSteps:=1000000) (disch:=omega) only[aa,aQ,aR,aS,aU,aV,aW,wA,a6,wS,a0,wM,S2,op,ef,cl,sq,reduceIte,j2,j3,j4,j5,j6,j7,j8,j9,y1,S1,h0,h1,h2,h3,h9,aC,aB,bO,hd,lc]) ?_
       simp -implicitDefEqProofs (maxSteps:=1000000) (disch:=omega) only[aa,aQ,aR,aS,aU,aV,aW,wA,a6,wS,a0,wM,S2,op,ef,cl,sq,reduceIte,j2,j3,j4,j5,j6,j7,j8,j9,y1,S1,cB,h0,h1,h2,h3,h9,aC,aB,bO,hd,lc,List.append_nil]
       refine ae _ _ _ _ _ _ _ _ (cq dx[k]! dx[k-1]! _) ?_
       rintro u H3⟨hu,hx⟩
       cases hu
       have hx:Ext H2 H3:=hx
       have hd:=hx.get hd
       have lc:=aM hd
       have ar:=ar.trans (ax (F:=fun _=>False) hx) (fun _ h=>h.elim)
       have cV:aY dx[k]! dx[k-1]! = decide (dN dx[k]! dx[k-1]!<0):=rfl
       rw[shiftUp,if_pos bO]at hk
       by_cases c1:dN dx[k]! dx[k-1]!<0
       ·simp -implicitDefEqProofs (maxSteps:=1000000) (disch:=omega) only[aa,aQ,aR,aS,aU,aV,aW,wA,a6,wS,a0,wM,S2,op,ef,cl,sq,reduceIte,j2,j3,j4,j5,j6,j7,j8,j9,y1,S1,h0,h1,h2,h3,h9,aC,aB,bO,hd,lc,c1]
        rw[if_neg (lA (cV.trans (ct c1)))]at hk
        exact⟨k+1,by omega,.i (.swp hd (by rw[swp_size];exact a7) hk ar),rfl,by omega,by omega⟩
       ·simp -implicitDefEqProofs (maxSteps:=1000000) (disch:=omega) only[aa,aQ,aR,aS,aU,aV,aW,wA,a6,wS,a0,wM,S2,op,ef,cl,sq,reduceIte,j2,j3,j4,j5,j6,j7,j8,j9,y1,S1,h0,h1,h2,h3,h9,aC,aB,bO,hd,lc,c1]
        rw[if_pos (fE (cV.trans (cr c1)))]at hk
        exact .i ⟨dx,hd,a7,hk,ar⟩
      ·simp -implicitDefEqProofs only[op,ef,cl,sq,reduceIte,j2,j3,j4,j5,j6,j7,j8,j9,y1,S1,h0,h1,h2,h3,h9,aC,aB,bO]
       rw[shiftUp,if_neg bO]at hk
       exact .i ⟨dx,hd,a7,hk,ar⟩
     ·rintro R H2⟨⟨dx,hd,a7,rfl,ar⟩,h0,h1,h2,h3,h9,aC⟩
      simp -implicitDefEqProofs (maxSteps:=1000000) (disch:=omega) only[aa,aQ,aR,aS,aU,aV,aW,wA,a6,wS,a0,wM,S2,op,ef,cl,sq,reduceIte,j2,j3,j4,j5,j6,j7,j8,j9,y1,S1,h0,h1,h2,h3,h9,aC]
      exact⟨j+1,by omega,.i ⟨si,rfl,by omega,by omega,dx,hd,a7,by rw[wB];exact hP,ar⟩,rfl,by omega⟩
    ·rw[if_neg hB]at sN
     subst sN
     simp -implicitDefEqProofs (maxSteps:=1000000) (disch:=omega) only[aa,aQ,aR,aS,aU,aV,aW,wA,a6,wS,a0,wM,S2,op,ef,cl,sq,reduceIte,j2,j3,j4,j5,j6,j7,j8,j9,y1,S1,h0,h1,h2,h3,h9,aC,hB]
     exact⟨j+1,by omega,.i ⟨si,rfl,by omega,by omega,d4,hd,qk,by rw[wB];exact hP,ar⟩,rfl,by omega⟩
 ·rintro R H1⟨di,hd,a7,hP,ar⟩
  simp -implicitDefEqProofs only[op,ef,cl,sq,reduceIte,j2,j3,j4,j5,j6,j7,j8,j9,y1,S1]
  rw[←hP]
  exact⟨rfl,di,hd,a7,rfl,ar⟩
theorem mU (a b:Nm):aY a b=true↔strLt a.1 b.1=true∨(a.1=b.1∧a.2<b.2):=by
 unfold aY dN Sw CU CV
 rw[decide_eq_true_eq]
 cases h1:strLt a.1 b.1
 ·cases h2:strLt b.1 a.1
  ·have e:=pZ h1 h2
   simp -implicitDefEqProofs only[Bool.false_eq_true,if_false,if_true,false_or,e,true_and]
   split
   ·simp[*]
   ·split<;>simp[*]
  ·have bQ:a.1≠b.1:=by intro e;rw[e,dY]at h2;cases h2
   simp[bQ]
 ·simp
theorem lf (a:Nm):aY a a=false:=by
 cases h:aY a a with
 | false=>rfl
 | true=>rcases(mU a a).1 h with h|h;rw[dY]at h;cases h;omega
theorem iJ {a b c:Nm}(h1:aY a b=true)(h2:aY b c=true):aY a c=true:=by
 rw[mU]at h1 h2 ⊢
 rcases h1 with h1|⟨e1,h1⟩<;>rcases h2 with h2|⟨e2,h2⟩
 ·exact .inl (dS h1 h2)
 ·exact .inl (e2▸h1)
 ·exact .inl (e1▸h2)
 ·exact .inr ⟨e1.trans e2,by omega⟩
theorem wC {a b:Nm}(h1:aY a b=false)(h2:aY b a=false):a=b:=by
 have n1:¬(strLt a.1 b.1=true∨(a.1=b.1∧a.2<b.2)):=fun h=>by rw[(mU a b).2 h]at h1;cases h1
 have n2:¬(strLt b.1 a.1=true∨(b.1=a.1∧b.2<a.2)):=fun h=>by rw[(mU b a).2 h]at h2;cases h2
 have e1:a.1=b.1:=pZ (by cases h:strLt a.1 b.1 with|false=>rfl|true=>exact absurd (.inl h) n1) (by cases h:strLt b.1 a.1 with|false=>rfl|true=>exact absurd (.inl h) n2)
 have q1:¬a.2<b.2:=fun h=>n1 (.inr ⟨e1,h⟩)
 have q2:¬b.2<a.2:=fun h=>n2 (.inr ⟨e1.symm,h⟩)
 exact Prod.ext e1 (by omega)
theorem rn:Go.Sort.SWO aY where
 irrefl:=lf
 trans _ _ _ h1 h2:=iJ h1 h2
 ntrans x y z h1 h2:=by
  cases h:aY x z with
  | false=>rfl
  | true =>
   cases h3:aY y x with
   | true=>rw[iJ h3 h]at h2;cases h2
   | false=>have:=wC h1 h3;subst this;rw[h]at h2;cases h2
theorem QH (H:af):W env (.call 132 [.sl .nil [],.int .i64 0,.int .i64 0,.fn 61 []]) H (kX (.bJ []) H):=by
 refine W.bu rfl rfl rfl ?_
 have wa:IntKind.i64.wrap ((0:Int)+1)=1:=by decide
 simp -implicitDefEqProofs only[Bs,op,ef,cl,sq,reduceIte,j2,j3,j4,j5,j6,j7,j8,j9,y1,S1,wa]
 refine W.cK (fun (_:Nat) R H'=>H'=H∧R 2=.int .i64 0∧R 8=.int .i64 1) (fun _=>0) 0 ⟨rfl,rfl,rfl⟩ ?_
 rintro _ R _⟨rfl,h2,h8⟩
 have l0:¬((1:Int)<0):=by decide
 simp -implicitDefEqProofs only[op,ef,cl,sq,reduceIte,j2,j3,j4,j5,j6,j7,j8,j9,y1,S1,h2,h8,l0]
 trivial
theorem acu (m:Nat)(H:af):W env (.call 117 [.sl .nil [],.int .i64 0,.int .i64 0,.int .i64 m,.fn 61 []]) H (kX (.bJ []) H):=by
 refine W.bu rfl rfl rfl ?_
 have w1:IntKind.i64.wrap ((0:Int)-0)=0:=by decide
 simp -implicitDefEqProofs only[fb,op,ef,cl,sq,reduceIte,j2,j3,j4,j5,j6,j7,j8,j9,y1,S1]
 refine W.cK (fun (_:Nat) R H'=>H'=H∧R 0=.sl .nil []∧R 1=.int .i64 0∧R 2=.int .i64 0∧R 4=.fn 61 []) (fun _=>0) 0 ⟨rfl,rfl,rfl,rfl,rfl⟩ ?_
 rintro _ R _⟨rfl,h0,h1,h2,h4⟩
 have l0:(0:Int)≤12:=by decide
 simp -implicitDefEqProofs only[op,ef,cl,sq,reduceIte,j2,j3,j4,j5,j6,j7,j8,j9,y1,S1,h0,h1,h2,h4,w1,l0]
 refine ae _ _ _ _ _ _ _ _ (QH _) ?_
 rintro u H2⟨hu,rfl⟩
 cases hu
 simp -implicitDefEqProofs only[op,ef,cl,sq,reduceIte,j2,j3,j4,j5,j6,j7,j8,j9,y1,S1]
 trivial
theorem VQ (H:af):W env (.call 93 [.sl .nil [],.fn 61 []]) H (kX (.bJ []) H):=by
 refine W.bu rfl rfl rfl ?_
 have w1:IntKind.u64.wrap ((0:Nat):Int)=((0:Nat):Int):=by decide
 have e0:((0:Nat):Int)=0:=rfl
 simp -implicitDefEqProofs only[Lh,op,ef,cl,sq,reduceIte,j2,j3,j4,j5,j6,j7,j8,j9,y1,S1,w1]
 refine ae _ _ _ _ _ _ _ _ (VD 0 (by omega) _) ?_
 rintro u H1⟨rfl,m,hu⟩
 cases hu
 simp -implicitDefEqProofs only[op,ef,cl,sq,reduceIte,j2,j3,j4,j5,j6,j7,j8,j9,y1,S1,e0]
 refine ae _ _ _ _ _ _ _ _ (acu m _) ?_
 rintro u H2⟨hu,rfl⟩
 cases hu
 simp -implicitDefEqProofs only[op,ef,cl,sq,reduceIte,j2,j3,j4,j5,j6,j7,j8,j9,y1,S1]
 trivial
def VT (es:List (Nm×T))(H:af):Out→af→Prop:=fun o H'=>Ext H H'∧∃t l,o=.val t∧iA eN 2 H.length H' t l∧l.Perm (es.map (·.1))∧l.Pairwise (fun a b=>aY a b=true)
set_option maxHeartbeats 8000000
def dq:C→Nat→Option C
 | .block id a,n=>if id=n then some a else dq a n
 | .seq a b,n=>match dq a n with|some c=>some c | .none=>dq b n
 | .cond _ a b,n=>match dq a n with|some c=>some c | .none=>dq b n
 | .loop a,n=>dq a n
 | _,_=>.none
def fm:C→Nat→C
 | .seq a _,0=>a
 | .seq _ b,k+1=>fm b k
 | c,_=>c
structure PR (R:aw)(c n a b cg:Nat)(wb wp:Bool):Prop where
 r0:R 0=.aA c 0 n 2
 r1:R 1=.int .i64 a
 r2:R 2=.int .i64 b
 r3:R 3=.int .i64 cg
 r4:R 4=.fn 61 []
 r10:R 10=.bool wb
 r11:R 11=.bool wp
 VU:R 12=.int .i64 (b-a:Nat)
open Go.Sort in
theorem acx (A:C)(hA:(dq fb.body 1).map (fm · 3)=some A)(c n a b cg:Nat)(wb wp:Bool)(d:Array Nm)(R:aw)(H0 H:af)(K:Out→af→Prop)(hp:PR R c n a b cg wb wp)(hd:SC c n H0 (fun x=>x=d) H)(hb:b≤n)(fG:a+12<b)(hs:n<16777216)(hl:1≤cg∧cg<1000)
  (rest:∀R' H',PR R' c n a b (if (!wb)=true then cg-1 else cg) wb wp→SC c n H0 (fun x=>x=if (!wb)=true then breakPatterns d a b else d) H'→K (.ex .normal R') H'):fp env A R H K:=by
 simp[fb,dq,fm,sq]at hA
 subst hA
 obtain⟨h0,h1,h2,h3,h4,aC,bf,aB⟩:=hp
 obtain⟨di,hc,hn,rfl,ar⟩:=hd
 cases wb with
 | true =>
  simp -implicitDefEqProofs (maxSteps:=1000000) (disch:=omega) only[op,ef,cl,sq,reduceIte,j2,j3,j4,j5,j6,j7,j8,j9,y1,S1,h0,h1,h2,h3,h4,aC,bf,aB]
  exact rest _ _ ⟨by simp -implicitDefEqProofs only[op,ef,cl,sq,reduceIte,j2,j3,j4,j5,j6,j7,j8,j9,y1,S1,h0],by simp -implicitDefEqProofs only[op,ef,cl,sq,reduceIte,j2,j3,j4,j5,j6,j7,j8,j9,y1,S1,h1],by simp -implicitDefEqProofs only[op,ef,cl,sq,reduceIte,j2,j3,j4,j5,j6,j7,j8,j9,y1,S1,h2],by simp -implicitDefEqProofs only[op,ef,cl,sq,reduceIte,j2,j3,j4,j5,j6,j7,j8,j9,y1,S1,h3],by simp -implicitDefEqProofs only[op,ef,cl,sq,reduceIte,j2,j3,j4,j5,j6,j7,j8,j9,y1,S1,h4],by simp -implicitDefEqProofs only[op,ef,cl,sq,reduceIte,j2,j3,j4,j5,j6,j7,j8,j9,y1,S1,aC],by simp -implicitDefEqProofs only[op,ef,cl,sq,reduceIte,j2,j3,j4,j5,j6,j7,j8,j9,y1,S1,bf],by simp -implicitDefEqProofs only[op,ef,cl,sq,reduceIte,j2,j3,j4,j5,j6,j7,j8,j9,y1,S1,aB]⟩ ⟨di,hc,hn,rfl,ar⟩
 | false =>
  simp -implicitDefEqProofs (maxSteps:=1000000) (disch:=omega) only[op,ef,cl,sq,reduceIte,j2,j3,j4,j5,j6,j7,j8,j9,y1,S1,h0,h1,h2,h3,h4,aC,bf,aB]
  refine ae _ _ _ _ _ _ _ _ (Lz c n di a b _ hn hc hb fG hs) ?_
  rintro u H2⟨hu,d2,cz,jb,e2,eF⟩
  cases hu
  simp -implicitDefEqProofs (maxSteps:=1000000) (disch:=omega) only[aa,aQ,aR,aS,aU,aV,aW,wA,a6,wS,a0,wM,S2,op,ef,cl,sq,reduceIte,j2,j3,j4,j5,j6,j7,j8,j9,y1,S1,h0,h1,h2,h3,h4,aC,bf,aB]
  exact rest _ _ ⟨by simp -implicitDefEqProofs only[op,ef,cl,sq,reduceIte,j2,j3,j4,j5,j6,j7,j8,j9,y1,S1,h0],by simp -implicitDefEqProofs only[op,ef,cl,sq,reduceIte,j2,j3,j4,j5,j6,j7,j8,j9,y1,S1,h1],by simp -implicitDefEqProofs only[op,ef,cl,sq,reduceIte,j2,j3,j4,j5,j6,j7,j8,j9,y1,S1,h2],by simp -implicitDefEqProofs only[op,ef,cl,sq,reduceIte,j2,j3,j4,j5,j6,j7,j8,j9,y1,S1],by simp -implicitDefEqProofs only[op,ef,cl,sq,reduceIte,j2,j3,j4,j5,j6,j7,j8,j9,y1,S1,h4],by simp -implicitDefEqProofs only[op,ef,cl,sq,reduceIte,j2,j3,j4,j5,j6,j7,j8,j9,y1,S1,aC],by simp -implicitDefEqProofs only[op,ef,cl,sq,reduceIte,j2,j3,j4,j5,j6,j7,j8,j9,y1,S1,bf],by simp -implicitDefEqProofs only[op,ef,cl,sq,reduceIte,j2,j3,j4,j5,j6,j7,j8,j9,y1,S1,aB]⟩ ⟨d2,cz,jb,e2,ar.trans eF fun _ h=>.inl h⟩
open Go.Sort in
theorem acy (A:C)(hA:(dq fb.body 1).map (fm · 5)=some A)(c n a b cg:Nat)(wb wp:Bool)(d:Array Nm)(pv:Nat)(hi:Hint)(R:aw)(H0 H:af)(K:Out→af→Prop)(hp:PR R c n a b cg wb wp)(bn:R 13=.int .i64 pv)(nW:R 14=.int .i64 (ig hi))(hd:SC c n H0 (fun x=>x=d) H)(hb:b≤n)(fG:a+12<b)(hs:n<16777216)(ni:a≤pv∧pv<b)
  (rest:∀R' H',PR R' c n a b cg wb wp→R' 13=.int .i64 (if hi=.decreasing then(b-1)-(pv-a)else pv:Nat)→R' 14=.int .i64 (ig (if hi=.decreasing then Hint.increasing else hi))→SC c n H0 (fun x=>x=if hi=.decreasing then reverseRange d a b else d) H'→K (.ex .normal R') H'):fp env A R H K:=by
 simp[fb,dq,fm,sq]at hA
 subst hA
 obtain⟨h0,h1,h2,h3,h4,aC,bf,aB⟩:=hp
 obtain⟨di,hc,hn,rfl,ar⟩:=hd
 have e:((ig hi)==2)=decide (hi=.decreasing):=by cases hi<;>decide
 by_cases hh:hi=.decreasing
 ·rw[decide_eq_true hh]at e
  simp -implicitDefEqProofs (maxSteps:=1000000) (disch:=omega) only[op,ef,cl,sq,reduceIte,j2,j3,j4,j5,j6,j7,j8,j9,y1,S1,h0,h1,h2,h3,h4,aC,bf,aB,bn,nW,e]
  refine ae _ _ _ _ _ _ _ _ (VE c n di a b _ hn hc hb (by omega) (by omega)) ?_
  rintro u H2⟨hu,d2,cz,jb,e2,eF⟩
  cases hu
  simp -implicitDefEqProofs (maxSteps:=1000000) (disch:=omega) only[aa,aQ,aR,aS,aU,aV,aW,wA,a6,wS,a0,wM,S2,op,ef,cl,sq,reduceIte,j2,j3,j4,j5,j6,j7,j8,j9,y1,S1,h0,h1,h2,h3,h4,aC,bf,aB,bn,nW]
  refine rest _ _ ⟨?_,?_,?_,?_,?_,?_,?_,?_⟩ ?_ ?_ ⟨d2,cz,jb,?_,ar.trans eF fun _ h=>.inl h⟩
  all_goals simp -implicitDefEqProofs only[op,ef,cl,sq,reduceIte,j2,j3,j4,j5,j6,j7,j8,j9,y1,S1,h0,h1,h2,h3,h4,aC,bf,aB,if_pos hh,ig]
  exact e2
 ·rw[decide_eq_false hh]at e
  simp -implicitDefEqProofs (maxSteps:=1000000) (disch:=omega) only[op,ef,cl,sq,reduceIte,j2,j3,j4,j5,j6,j7,j8,j9,y1,S1,h0,h1,h2,h3,h4,aC,bf,aB,bn,nW,e]
  refine rest _ _ ⟨?_,?_,?_,?_,?_,?_,?_,?_⟩ ?_ ?_ ⟨di,hc,hn,?_,ar⟩
  all_goals simp -implicitDefEqProofs only[op,ef,cl,sq,reduceIte,j2,j3,j4,j5,j6,j7,j8,j9,y1,S1,h0,h1,h2,h3,h4,aC,bf,aB,bn,nW,if_neg hh]
open Go.Sort in
theorem acz (A:C)(hA:(dq fb.body 1).map (fm · 6)=some A)(c n a b cg:Nat)(wb wp:Bool)(d:Array Nm)(pv:Nat)(hi:Hint)(R:aw)(H0 H:af)(K:Out→af→Prop)(hp:PR R c n a b cg wb wp)(bn:R 13=.int .i64 pv)(nW:R 14=.int .i64 (ig hi))(hd:SC c n H0 (fun x=>x=d) H)(hb:b≤n)(fG:a+12<b)(hs:n<16777216)
  (pi:Array Nm×Bool) (HH:pi=if (wb&&wp&&hi=.increasing)=true then partialInsertionSort aY d a b else(d,false))
  (jc:∀R' H',pi.2=true→SC c n H0 (fun x=>x=pi.1) H'→K (.ex .ret R') H')
  (fF:∀R' H',pi.2=false→PR R' c n a b cg wb wp→R' 13=.int .i64 pv→SC c n H0 (fun x=>x=pi.1) H'→K (.ex .normal R') H'):fp env A R H K:=by
 simp[fb,dq,fm,sq]at hA
 subst hA
 obtain⟨h0,h1,h2,h3,h4,aC,bf,aB⟩:=hp
 obtain⟨di,hc,hn,rfl,ar⟩:=hd
 have e:((ig hi)==1)=decide (hi=.increasing):=by cases hi<;>decide
 have no:(wb&&wp&&decide (hi=.increasing))=false→∀R',PR R' c n a b cg wb wp→R' 13=.int .i64 pv→K (.ex .normal R') H:=fun h R' q q'=>fF R' H (by rw[HH,h];rfl) q q' ⟨di,hc,hn,by rw[HH,h];rfl,ar⟩
 cases wb with
 | false =>
  simp -implicitDefEqProofs only[op,ef,cl,sq,reduceIte,j2,j3,j4,j5,j6,j7,j8,j9,y1,S1,h0,h1,h2,h3,h4,aC,bf,aB,bn,nW]
  refine no rfl _ ⟨?_,?_,?_,?_,?_,?_,?_,?_⟩ ?_
  all_goals simp -implicitDefEqProofs only[op,ef,cl,sq,reduceIte,j2,j3,j4,j5,j6,j7,j8,j9,y1,S1,h0,h1,h2,h3,h4,aC,bf,aB,bn]
 | true =>
  cases wp with
  | false =>
   simp -implicitDefEqProofs only[op,ef,cl,sq,reduceIte,j2,j3,j4,j5,j6,j7,j8,j9,y1,S1,h0,h1,h2,h3,h4,aC,bf,aB,bn,nW]
   refine no rfl _ ⟨?_,?_,?_,?_,?_,?_,?_,?_⟩ ?_
   all_goals simp -implicitDefEqProofs only[op,ef,cl,sq,reduceIte,j2,j3,j4,j5,j6,j7,j8,j9,y1,S1,h0,h1,h2,h3,h4,aC,bf,aB,bn]
  | true =>
   by_cases hh:hi=.increasing
   ·rw[decide_eq_true hh]at e
    rw[decide_eq_true hh]at HH
    simp -implicitDefEqProofs only[op,ef,cl,sq,reduceIte,j2,j3,j4,j5,j6,j7,j8,j9,y1,S1,h0,h1,h2,h3,h4,aC,bf,aB,bn,nW,e]
    refine ae _ _ _ _ _ _ _ _ (QF c n di a b _ hn hc hb (by omega) (by omega)) ?_
    rintro u H2⟨hu,d2,cz,jb,e2,eF⟩
    cases hu
    rw[if_pos (show(true&&true&&true)=true from rfl)]at HH
    rw[←HH]at e2 ⊢
    cases lM:pi.2 with
    | true =>
     simp -implicitDefEqProofs only[op,ef,cl,sq,reduceIte,j2,j3,j4,j5,j6,j7,j8,j9,y1,S1]
     exact jc _ _ lM ⟨d2,cz,jb,e2,ar.trans eF fun _ h=>.inl h⟩
    | false =>
     simp -implicitDefEqProofs only[op,ef,cl,sq,reduceIte,j2,j3,j4,j5,j6,j7,j8,j9,y1,S1]
     refine fF _ _ lM ⟨?_,?_,?_,?_,?_,?_,?_,?_⟩ ?_ ⟨d2,cz,jb,e2,ar.trans eF fun _ h=>.inl h⟩
     all_goals simp -implicitDefEqProofs only[op,ef,cl,sq,reduceIte,j2,j3,j4,j5,j6,j7,j8,j9,y1,S1,h0,h1,h2,h3,h4,aC,bf,aB,bn]
   ·rw[decide_eq_false hh]at e
    simp -implicitDefEqProofs only[op,ef,cl,sq,reduceIte,j2,j3,j4,j5,j6,j7,j8,j9,y1,S1,h0,h1,h2,h3,h4,aC,bf,aB,bn,nW,e]
    refine no (by rw[decide_eq_false hh];rfl) _ ⟨?_,?_,?_,?_,?_,?_,?_,?_⟩ ?_
    all_goals simp -implicitDefEqProofs only[op,ef,cl,sq,reduceIte,j2,j3,j4,j5,j6,j7,j8,j9,y1,S1,h0,h1,h2,h3,h4,aC,bf,aB,bn]
open Go.Sort in
theorem acA (A:C)(hA:(dq fb.body 1).map (fm · 7)=some A)(c n a b cg:Nat)(wb wp:Bool)(d:Array Nm)(pv:Nat)(R:aw)(H0 H:af)(K:Out→af→Prop)(hp:PR R c n a b cg wb wp)(bn:R 13=.int .i64 pv)(hd:SC c n H0 (fun x=>x=d) H)(hb:b≤n)(fG:a+12<b)(hs:n<16777216)(ni:a≤pv∧pv<b)
  (jc:∀R' H',(a>0&&!aY d[a-1]! d[pv]!)=true→R' 0=.aA c 0 n 2→R' 1=.int .i64 (partitionEqual aY d a b pv).1→R' 2=.int .i64 b→R' 3=.int .i64 cg→R' 4=.fn 61 []→R' 10=.bool wb→R' 11=.bool wp→SC c n H0 (fun x=>x=(partitionEqual aY d a b pv).2) H'→K (.ex (.exit 1) R') H')
  (fF:∀R' H',(a>0&&!aY d[a-1]! d[pv]!)=false→PR R' c n a b cg wb wp→R' 13=.int .i64 pv→SC c n H0 (fun x=>x=d) H'→K (.ex .normal R') H'):fp env A R H K:=by
 simp[fb,dq,fm,sq]at hA
 subst hA
 obtain⟨h0,h1,h2,h3,h4,aC,bf,aB⟩:=hp
 obtain⟨di,hd,hn,rfl,ar⟩:=hd
 have lc:=aM hd
 by_cases ha:0<a
 ·simp -implicitDefEqProofs (maxSteps:=1000000) (disch:=omega) only[aa,aQ,aR,aS,aU,aV,aW,wA,a6,wS,a0,wM,S2,op,ef,cl,sq,reduceIte,j2,j3,j4,j5,j6,j7,j8,j9,y1,S1,h0,h1,h2,h3,h4,aC,bf,aB,bn,ha,hd,lc]
  refine mg _ _ _ _ _ _ _ (by simp -implicitDefEqProofs (maxSteps:=1000000) (disch:=omega) only[aa,aQ,aR,aS,aU,aV,aW,wA,a6,wS,a0,wM,S2,op,ef,cl,sq,reduceIte,j2,j3,j4,j5,j6,j7,j8,j9,y1,S1,h0,h1,h2,h3,h4,aC,bf,aB,bn,ha,hd,lc]) ?_
  simp -implicitDefEqProofs (maxSteps:=1000000) (disch:=omega) only[aa,aQ,aR,aS,aU,aV,aW,wA,a6,wS,a0,wM,S2,op,ef,cl,sq,reduceIte,j2,j3,j4,j5,j6,j7,j8,j9,y1,S1,cB,h0,h1,h2,h3,h4,aC,bf,aB,bn,ha,hd,lc,List.append_nil]
  refine ae _ _ _ _ _ _ _ _ (cq di[a-1]! di[pv]! _) ?_
  rintro u H3⟨hu,hx⟩
  cases hu
  have hx:Ext H H3:=hx
  have hd:=hx.get hd
  have lc:=aM hd
  have ar:=ar.trans (ax (F:=fun _=>False) hx) (fun _ h=>h.elim)
  have cV:aY di[a-1]! di[pv]! = decide (dN di[a-1]! di[pv]!<0):=rfl
  by_cases c1:dN di[a-1]! di[pv]!<0
  ·simp -implicitDefEqProofs (maxSteps:=1000000) (disch:=omega) only[aa,aQ,aR,aS,aU,aV,aW,wA,a6,wS,a0,wM,S2,op,ef,cl,sq,reduceIte,j2,j3,j4,j5,j6,j7,j8,j9,y1,S1,h0,h1,h2,h3,h4,aC,bf,aB,bn,ha,hd,lc,c1]
   refine fF _ _ (by rw[cV,ct c1];simp) ⟨?_,?_,?_,?_,?_,?_,?_,?_⟩ ?_ ⟨di,hd,hn,rfl,ar⟩
   all_goals simp -implicitDefEqProofs only[op,ef,cl,sq,reduceIte,j2,j3,j4,j5,j6,j7,j8,j9,y1,S1,h0,h1,h2,h3,h4,aC,bf,aB,bn]
  ·simp -implicitDefEqProofs (maxSteps:=1000000) (disch:=omega) only[aa,aQ,aR,aS,aU,aV,aW,wA,a6,wS,a0,wM,S2,op,ef,cl,sq,reduceIte,j2,j3,j4,j5,j6,j7,j8,j9,y1,S1,h0,h1,h2,h3,h4,aC,bf,aB,bn,ha,hd,lc,c1]
   refine ae _ _ _ _ _ _ _ _ (VP c n di a b pv _ hn hd hb (by omega) (by omega) (by omega)) ?_
   rintro u H4⟨hu,d2,cz,jb,e2,eF⟩
   cases hu
   simp -implicitDefEqProofs only[op,ef,cl,sq,reduceIte,j2,j3,j4,j5,j6,j7,j8,j9,y1,S1]
   refine jc _ _ (by rw[cV,cr c1];simp;exact ha) ?_ ?_ ?_ ?_ ?_ ?_ ?_ ⟨d2,cz,jb,e2,ar.trans eF fun _ h=>.inl h⟩
   all_goals simp -implicitDefEqProofs only[op,ef,cl,sq,reduceIte,j2,j3,j4,j5,j6,j7,j8,j9,y1,S1,h0,h1,h2,h3,h4,aC,bf,aB,bn]
 ·simp -implicitDefEqProofs only[op,ef,cl,sq,reduceIte,j2,j3,j4,j5,j6,j7,j8,j9,y1,S1,h0,h1,h2,h3,h4,aC,bf,aB,bn,ha]
  refine fF _ _ (by rw[decide_eq_false ha];rfl) ⟨?_,?_,?_,?_,?_,?_,?_,?_⟩ ?_ ⟨di,hd,hn,rfl,ar⟩
  all_goals simp -implicitDefEqProofs only[op,ef,cl,sq,reduceIte,j2,j3,j4,j5,j6,j7,j8,j9,y1,S1,h0,h1,h2,h3,h4,aC,bf,aB,bn]
set_option maxHeartbeats 8000000
def HI:C→Nat→C
 | c,0=>c
 | .seq _ b,k+1=>HI b k
 | c,_=>c
open Go.Sort in
theorem HJ {d d1 d2:Array Nm}{a b cg fo pv:Nat}{wb wp:Bool}{cp:Nat×Hint}{hi:Hint}{pi:Array Nm×Bool}(aB:¬b-a≤12)(hl:¬cg=0)
  (e1:d1=if (!wb)=true then breakPatterns d a b else d) (el:fo=if (!wb)=true then cg-1 else cg) (ec:cp=choosePivot aY d1 a b) (e2:d2=if cp.2=.decreasing then reverseRange d1 a b else d1)
  (ep:pv=if cp.2=.decreasing then(b-1)-(cp.1-a)else cp.1) (eh:hi=if cp.2=.decreasing then .increasing else cp.2) (LD:pi=if (wb&&wp&&hi=.increasing)=true then partialInsertionSort aY d2 a b else(d2,false)) :
  pdq aY d a b cg wb wp=if pi.2=true then pi.1 else if (a>0&&!aY pi.1[a-1]! pi.1[pv]!)=true then(if a<(partitionEqual aY pi.1 a b pv).1∧(partitionEqual aY pi.1 a b pv).1≤b then pdq aY (partitionEqual aY pi.1 a b pv).2 (partitionEqual aY pi.1 a b pv).1 b fo wb wp else(partitionEqual aY pi.1 a b pv).2)
   else(if a≤(partition aY pi.1 a b pv).1∧(partition aY pi.1 a b pv).1<b then if (partition aY pi.1 a b pv).1-a<b-(partition aY pi.1 a b pv).1 then pdq aY (pdq aY (partition aY pi.1 a b pv).2.2 a (partition aY pi.1 a b pv).1 fo true true) ((partition aY pi.1 a b pv).1+1) b fo (decide ((partition aY pi.1 a b pv).1-a≥(b-a)/8)) (partition aY pi.1 a b pv).2.1
    else pdq aY (pdq aY (partition aY pi.1 a b pv).2.2 ((partition aY pi.1 a b pv).1+1) b fo true true) a (partition aY pi.1 a b pv).1 fo (decide (b-(partition aY pi.1 a b pv).1≥(b-a)/8)) (partition aY pi.1 a b pv).2.1 else(partition aY pi.1 a b pv).2.2):=by
 subst LD eh ep e2 ec el e1
 rw[pdq,if_neg aB,if_neg hl]
 rfl
open Go.Sort in
theorem C6 (d:Array Nm){a b pv:Nat}(h1:a≤pv)(h2:pv<b)(hb:b≤d.size):a<(partitionEqual aY d a b pv).1∧(partitionEqual aY d a b pv).1≤b:=by
 have:=partEqLoop_spec (lt:=aY) a b b (a+1) (b-1) (swp d a pv) (by omega) (by omega) (by omega) (by omega) (by rw[swp_size];exact hb) (fun t h h'=>by omega) (fun t h h'=>by omega)
 exact⟨this.1,this.2.1⟩
theorem acB (A:C)(hA:(dq fb.body 1).map (fm · 0)=some A)(c n a b cg:Nat)(wb wp:Bool)(R:aw)(H:af)(K:Out→af→Prop)(h0:R 0=.aA c 0 n 2)(h1:R 1=.int .i64 a)(h2:R 2=.int .i64 b)(h3:R 3=.int .i64 cg)(h4:R 4=.fn 61 [])(aC:R 10=.bool wb)(bf:R 11=.bool wp)(fG:a≤b)(hb:b<16777216)
  (rest:∀R',PR R' c n a b cg wb wp→K (.ex .normal R') H):fp env A R H K:=by
 simp[fb,dq,fm,sq]at hA
 subst hA
 simp -implicitDefEqProofs (maxSteps:=1000000) (disch:=omega) only[aa,aQ,aR,aS,aU,aV,aW,wA,a6,wS,a0,wM,S2,op,ef,cl,sq,reduceIte,j2,j3,j4,j5,j6,j7,j8,j9,y1,S1,h0,h1,h2,h3,h4,aC,bf]
 refine rest _ ⟨?_,?_,?_,?_,?_,?_,?_,?_⟩
 all_goals simp -implicitDefEqProofs only[op,ef,cl,sq,reduceIte,j2,j3,j4,j5,j6,j7,j8,j9,y1,S1,h0,h1,h2,h3,h4,aC,bf]
open Go.Sort in
theorem acC (A:C)(hA:(dq fb.body 1).map (fm · 1)=some A)(c n a b cg:Nat)(wb wp:Bool)(d:Array Nm)(R:aw)(H0 H:af)(K:Out→af→Prop)(hp:PR R c n a b cg wb wp)(hd:SC c n H0 (fun x=>x=d) H)(hb:b≤n)(fG:a≤b)(hs:n<16777216)
  (jc:∀R' H',b-a≤12→SC c n H0 (fun x=>x=insertionSort aY d a b) H'→K (.ex .ret R') H')
  (fF:∀R',¬b-a≤12→PR R' c n a b cg wb wp→K (.ex .normal R') H):fp env A R H K:=by
 simp[fb,dq,fm,sq]at hA
 subst hA
 obtain⟨h0,h1,h2,h3,h4,aC,bf,aB⟩:=hp
 obtain⟨di,hc,hn,rfl,ar⟩:=hd
 by_cases hle:b-a≤12
 ·simp -implicitDefEqProofs only[op,ef,cl,sq,reduceIte,j2,j3,j4,j5,j6,j7,j8,j9,y1,S1,h0,h1,h2,h3,h4,aC,bf,aB,hle]
  have hi:=VB c di a b H hc (by omega) fG (by omega)
  rw[hn]at hi
  refine ae _ _ _ _ _ _ _ _ hi ?_
  rintro u H2⟨hu,cz,eF⟩
  cases hu
  simp -implicitDefEqProofs only[op,ef,cl,sq,reduceIte,j2,j3,j4,j5,j6,j7,j8,j9,y1,S1]
  exact jc _ _ hle ⟨_,cz,by rw[(insertionSort_holds rn di a b fG (by omega)).1.1];exact hn,rfl,ar.trans eF fun _ h=>.inl h⟩
 ·simp -implicitDefEqProofs only[op,ef,cl,sq,reduceIte,j2,j3,j4,j5,j6,j7,j8,j9,y1,S1,h0,h1,h2,h3,h4,aC,bf,aB,hle]
  refine fF _ hle ⟨?_,?_,?_,?_,?_,?_,?_,?_⟩
  all_goals simp -implicitDefEqProofs only[op,ef,cl,sq,reduceIte,j2,j3,j4,j5,j6,j7,j8,j9,y1,S1,h0,h1,h2,h3,h4,aC,bf,aB]
open Go.Sort in
theorem acD (A:C)(hA:(dq fb.body 1).map (fm · 2)=some A)(c n a b cg:Nat)(wb wp:Bool)(d:Array Nm)(R:aw)(H0 H:af)(K:Out→af→Prop)(hp:PR R c n a b cg wb wp)(hd:SC c n H0 (fun x=>x=d) H)(hb:b≤n)(fG:a+12<b)(hs:n<16777216)
  (jc:∀R' H',cg=0→SC c n H0 (fun x=>x=heapSort aY d a b) H'→K (.ex .ret R') H')
  (fF:∀R',¬cg=0→PR R' c n a b cg wb wp→K (.ex .normal R') H):fp env A R H K:=by
 simp[fb,dq,fm,sq]at hA
 subst hA
 obtain⟨h0,h1,h2,h3,h4,aC,bf,aB⟩:=hp
 obtain⟨di,hc,hn,rfl,ar⟩:=hd
 by_cases hl:cg=0
 ·subst hl
  have e:(((0:Nat):Int)==0)=true:=rfl
  simp -implicitDefEqProofs only[op,ef,cl,sq,reduceIte,j2,j3,j4,j5,j6,j7,j8,j9,y1,S1,h0,h1,h2,h3,h4,aC,bf,aB,e]
  refine ae _ _ _ _ _ _ _ _ (QA c n di a b _ hn hc hb (by omega) (by omega)) ?_
  rintro u H2⟨hu,d2,cz,jb,e2,eF⟩
  cases hu
  simp -implicitDefEqProofs only[op,ef,cl,sq,reduceIte,j2,j3,j4,j5,j6,j7,j8,j9,y1,S1]
  exact jc _ _ rfl ⟨_,cz,jb,e2,ar.trans eF fun _ h=>.inl h⟩
 ·have e:((cg:Int)==0)=false:=by simp;omega
  simp -implicitDefEqProofs only[op,ef,cl,sq,reduceIte,j2,j3,j4,j5,j6,j7,j8,j9,y1,S1,h0,h1,h2,h3,h4,aC,bf,aB,e]
  refine fF _ hl ⟨?_,?_,?_,?_,?_,?_,?_,?_⟩
  all_goals simp -implicitDefEqProofs only[op,ef,cl,sq,reduceIte,j2,j3,j4,j5,j6,j7,j8,j9,y1,S1,h0,h1,h2,h3,h4,aC,bf,aB]
open Go.Sort in
theorem acE (A:C)(hA:(dq fb.body 1).map (fm · 4)=some A)(c n a b cg:Nat)(wb wp:Bool)(d:Array Nm)(R:aw)(H0 H:af)(K:Out→af→Prop)(hp:PR R c n a b cg wb wp)(hd:SC c n H0 (fun x=>x=d) H)(hb:b≤n)(fG:a+12<b)(hs:n<16777216)
  (rest:∀R' H',PR R' c n a b cg wb wp→R' 13=.int .i64 (choosePivot aY d a b).1→R' 14=.int .i64 (ig (choosePivot aY d a b).2)→SC c n H0 (fun x=>x=d) H'→K (.ex .normal R') H'):fp env A R H K:=by
 simp[fb,dq,fm,sq]at hA
 subst hA
 obtain⟨h0,h1,h2,h3,h4,aC,bf,aB⟩:=hp
 obtain⟨di,hc,hn,rfl,ar⟩:=hd
 simp -implicitDefEqProofs only[op,ef,cl,sq,reduceIte,j2,j3,j4,j5,j6,j7,j8,j9,y1,S1,h0,h1,h2,h3,h4,aC,bf,aB]
 refine ae _ _ _ _ _ _ _ _ (HB c n di a b _ hn hc hb fG (by omega)) ?_
 rintro u H2⟨hu,hx⟩
 cases hu
 simp -implicitDefEqProofs only[op,ef,cl,sq,reduceIte,j2,j3,j4,j5,j6,j7,j8,j9,y1,S1]
 refine rest _ _ ⟨?_,?_,?_,?_,?_,?_,?_,?_⟩ ?_ ?_ ⟨di,hx.get hc,hn,rfl,ar.trans (ax (F:=fun _=>False) hx) (fun _ h=>h.elim)⟩
 all_goals simp -implicitDefEqProofs only[op,ef,cl,sq,reduceIte,j2,j3,j4,j5,j6,j7,j8,j9,y1,S1,h0,h1,h2,h3,h4,aC,bf,aB]
theorem Yg {a:Nat}(h:a<9223372036854775808):IntKind.i64.wrap ((a:Int).tdiv 8)=((a/8:Nat):Int):=by rw[Int.tdiv_eq_ediv_of_nonneg (by omega),wrap64 (by omega)];omega
open Go.Sort in
theorem acF (A:C)(hA:(dq fb.body 1).map (HI · 8)=some A)(c n a b cg:Nat)(wb wp:Bool)(d:Array Nm)(pv:Nat)(R:aw)(H0 H:af)(K:Out→af→Prop)(hp:PR R c n a b cg wb wp)(bn:R 13=.int .i64 pv)(hd:SC c n H0 (fun x=>x=d) H)(hb:b≤n)(fG:a+12<b)(hs:n<16777216)(ni:a≤pv∧pv<b)
  (ih:∀a' b' (d':Array Nm) H',b'-a'<b-a→a'≤b'→b'≤n→d'.size=n→H'[c]?=some (.cells (aJ eN d'.toList))→W env (.call 117 [.aA c 0 n 2,.int .i64 a',.int .i64 b',.int .i64 cg,.fn 61 []]) H' (zS c n (pdq aY d' a' b' cg true true) H'))
  (rest:∀R' H' a' b' (d':Array Nm) (LF:Bool),a≤a'→a'≤b'→b'≤b→b'-a'<b-a→R' 0=.aA c 0 n 2→R' 1=.int .i64 (a':Nat)→R' 2=.int .i64 (b':Nat)→R' 3=.int .i64 cg→R' 4=.fn 61 []→R' 10=.bool LF→R' 11=.bool (partition aY d a b pv).2.1 →
   pdq aY d' a' b' cg LF (partition aY d a b pv).2.1=(if (partition aY d a b pv).1-a<b-(partition aY d a b pv).1 then pdq aY (pdq aY (partition aY d a b pv).2.2 a (partition aY d a b pv).1 cg true true) ((partition aY d a b pv).1+1) b cg (decide ((partition aY d a b pv).1-a≥(b-a)/8)) (partition aY d a b pv).2.1
    else pdq aY (pdq aY (partition aY d a b pv).2.2 ((partition aY d a b pv).1+1) b cg true true) a (partition aY d a b pv).1 cg (decide (b-(partition aY d a b pv).1≥(b-a)/8)) (partition aY d a b pv).2.1) →
   SC c n H0 (fun x=>x=d') H'→K (.ex .normal R') H'):fp env A R H K:=by
 simp[fb,dq,HI,sq]at hA
 subst hA
 obtain⟨h0,h1,h2,h3,h4,aC,bf,aB⟩:=hp
 obtain⟨di,hc,hn,rfl,ar⟩:=hd
 have qy:=partition_holds aY rn di a b pv ni.1 ni.2 (by omega)
 simp -implicitDefEqProofs only[op,ef,cl,sq,reduceIte,j2,j3,j4,j5,j6,j7,j8,j9,y1,S1,h0,h1,h2,h3,h4,aC,bf,aB,bn]
 refine ae _ _ _ _ _ _ _ _ (QE c n di a b pv _ hn hc hb (by omega) (by omega) (by omega)) ?_
 rintro u H2⟨hu,d2,cz,jb,e2,eF⟩
 cases hu
 generalize partition aY di a b pv=r at *
 obtain⟨mid,ap,d4⟩:=r
 simp only at qy e2 rest ⊢
 subst e2
 obtain⟨m1,m2,_⟩:=qy
 have kZ:=ar.trans eF fun _ h=>.inl h
 by_cases al:mid-a<b-mid
 ·rw[if_pos al]at rest
  simp -implicitDefEqProofs (maxSteps:=1000000) (disch:=omega) only[aa,aQ,aR,aS,aU,aV,aW,wA,a6,wS,a0,wM,S2,op,ef,cl,sq,reduceIte,j2,j3,j4,j5,j6,j7,j8,j9,y1,S1,Yg,h0,h1,h2,h3,h4,aC,bf,aB,bn,al]
  refine ae _ _ _ _ _ _ _ _ (ih a mid d2 _ (by omega) m1 (by omega) jb cz) ?_
  rintro u H3⟨hu,d3,oZ,AF,e3,qi⟩
  cases hu
  simp -implicitDefEqProofs (maxSteps:=1000000) (disch:=omega) only[aa,aQ,aR,aS,aU,aV,aW,wA,a6,wS,a0,wM,S2,op,ef,cl,sq,reduceIte,j2,j3,j4,j5,j6,j7,j8,j9,y1,S1,h0,h1,h2,h3,h4,aC,bf,aB,bn]
  refine rest _ _ (mid+1) b d3 (decide ((b-a)/8≤mid-a)) (by omega) (by omega) (Nat.le_refl _) (by omega) ?_ ?_ ?_ ?_ ?_ ?_ ?_ (by rw[e3]) ⟨d3,oZ,AF,rfl,kZ.trans qi fun _ h=>.inl h⟩
  all_goals simp -implicitDefEqProofs only[op,ef,cl,sq,reduceIte,j2,j3,j4,j5,j6,j7,j8,j9,y1,S1,h0,h1,h2,h3,h4,aC,bf,aB]
 ·rw[if_neg al]at rest
  simp -implicitDefEqProofs (maxSteps:=1000000) (disch:=omega) only[aa,aQ,aR,aS,aU,aV,aW,wA,a6,wS,a0,wM,S2,op,ef,cl,sq,reduceIte,j2,j3,j4,j5,j6,j7,j8,j9,y1,S1,Yg,h0,h1,h2,h3,h4,aC,bf,aB,bn,al]
  refine ae _ _ _ _ _ _ _ _ (ih (mid+1) b d2 _ (by omega) m2 (by omega) jb cz) ?_
  rintro u H3⟨hu,d3,oZ,AF,e3,qi⟩
  cases hu
  simp -implicitDefEqProofs (maxSteps:=1000000) (disch:=omega) only[aa,aQ,aR,aS,aU,aV,aW,wA,a6,wS,a0,wM,S2,op,ef,cl,sq,reduceIte,j2,j3,j4,j5,j6,j7,j8,j9,y1,S1,h0,h1,h2,h3,h4,aC,bf,aB,bn]
  refine rest _ _ a mid d3 (decide ((b-a)/8≤b-mid)) (by omega) (by omega) (by omega) (by omega) ?_ ?_ ?_ ?_ ?_ ?_ ?_ (by rw[e3]) ⟨d3,oZ,AF,rfl,kZ.trans qi fun _ h=>.inl h⟩
  all_goals simp -implicitDefEqProofs only[op,ef,cl,sq,reduceIte,j2,j3,j4,j5,j6,j7,j8,j9,y1,S1,h0,h1,h2,h3,h4,aC,bf,aB]
set_option maxHeartbeats 8000000
open Go.Sort in
theorem VV (c n:Nat)(hs:n<16777216):∀m a b cg (d:Array Nm) H,b-a=m→a≤b→b≤n→cg<1000→d.size=n→H[c]?=some (.cells (aJ eN d.toList)) →
  W env (.call 117 [.aA c 0 n 2,.int .i64 (a:Nat),.int .i64 (b:Nat),.int .i64 (cg:Nat),.fn 61 []]) H (zS c n (pdq aY d a b cg true true) H):=by
 intro m
 induction m using Nat.strongRecOn with
 | _ m ih =>
 intro a b cg d H hm fG hb acG hn hc
 subst hm
 refine W.bu rfl rfl rfl ?_
 simp -implicitDefEqProofs only[fb,op,ef,cl,sq,reduceIte,j2,j3,j4,j5,j6,j7,j8,j9,y1,S1]
 refine W.cK (fun (q:Nat×Nat×Nat×Bool×Bool) R H'=>At H' (fun H'=>SC c n H (fun di=>pdq aY di q.1 q.2.1 q.2.2.1 q.2.2.2.1 q.2.2.2.2=pdq aY d a b cg true true) H')∧R 0=.aA c 0 n 2∧R 1=.int .i64 q.1∧R 2=.int .i64 q.2.1∧R 3=.int .i64 q.2.2.1∧R 4=.fn 61 []∧R 10=.bool q.2.2.2.1∧R 11=.bool q.2.2.2.2∧a≤q.1∧q.1≤q.2.1∧q.2.1≤b∧q.2.2.1≤cg) (fun q=>q.2.1-q.1) (a,b,cg,true,true) ⟨.i ⟨d,hc,hn,rfl,a9.refl _ _⟩,rfl,rfl,rfl,rfl,rfl,rfl,rfl,Nat.le_refl _,fG,Nat.le_refl _,Nat.le_refl _⟩ ?_
 rintro⟨a1,b1,l1,wb,wp⟩ R H1 ⟨⟨di,hd,a7,hP,ar⟩,h0,h1,h2,h3,h4,aC,bf,q1,q2,q3,q4⟩
 simp only at hP h1 h2 h3 aC bf q1 q2 q3 q4 ⊢
 rw[rb,ga]
 refine acB _ rfl c n a1 b1 l1 wb wp R H1 _ h0 h1 h2 h3 h4 aC bf q2 (by omega) ?_
 intro R1 p1
 rw[dX,cU,ga]
 refine acC _ rfl c n a1 b1 l1 wb wp di R1 H H1 _ p1 ⟨di,hd,a7,rfl,ar⟩ (by omega) q2 hs ?_ ?_
 ·rintro R' H' hle⟨d',iu,fI,rfl,qX⟩
  rw[pdq,if_pos hle]at hP
  simp -implicitDefEqProofs only[op,ef,cl,sq,reduceIte,j2,j3,j4,j5,j6,j7,j8,j9,y1,S1]
  exact⟨rfl,_,iu,fI,hP,qX⟩
 intro R2 aB p2
 rw[dX,cU,ga]
 refine acD _ rfl c n a1 b1 l1 wb wp di R2 H H1 _ p2 ⟨di,hd,a7,rfl,ar⟩ (by omega) (by omega) hs ?_ ?_
 ·rintro R' H' y6⟨d',iu,fI,rfl,qX⟩
  rw[pdq,if_neg aB,if_pos y6]at hP
  simp -implicitDefEqProofs only[op,ef,cl,sq,reduceIte,j2,j3,j4,j5,j6,j7,j8,j9,y1,S1]
  exact⟨rfl,_,iu,fI,hP,qX⟩
 intro R3 y6 p3
 rw[dX,cU,ga]
 refine acx _ rfl c n a1 b1 l1 wb wp di R3 H H1 _ p3 ⟨di,hd,a7,rfl,ar⟩ (by omega) (by omega) hs (by omega) ?_
 rintro R4 H4 p4⟨d1,sN,DC,e1,zb⟩
 obtain⟨fo,el⟩:∃l,l=if (!wb)=true then l1-1 else l1:=⟨_,rfl⟩
 have tn:fo≤l1:=by rw[el];split<;>omega
 rw[←el]at p4
 rw[dX,cU,ga]
 refine acE _ rfl c n a1 b1 fo wb wp d1 R4 H H4 _ p4 ⟨d1,sN,DC,rfl,zb⟩ (by omega) (by omega) hs ?_
 rintro R5 H5 p5 bn nW⟨LG,hd5,QG,Od,VW⟩
 subst Od
 have VX:=choosePivot_holds aY LG a1 b1 (by omega)
 obtain⟨cp,ec⟩:∃x,x=choosePivot aY LG a1 b1:=⟨_,rfl⟩
 rw[←ec]at bn nW VX
 rw[dX,cU,ga]
 refine acy _ rfl c n a1 b1 fo wb wp LG cp.1 cp.2 R5 H H5 _ p5 bn nW ⟨LG,hd5,QG,rfl,VW⟩ (by omega) (by omega) hs VX ?_
 rintro R6 H6 p6 bn nW⟨d2,hd6,hs6,e2,hf6⟩
 obtain⟨pv,ep⟩:∃x,x=if cp.2=.decreasing then(b1-1)-(cp.1-a1)else cp.1:=⟨_,rfl⟩
 obtain⟨hi,eh⟩:∃x,x=if cp.2=.decreasing then Hint.increasing else cp.2:=⟨_,rfl⟩
 rw[←ep]at bn
 rw[←eh]at nW
 have ni:a1≤pv∧pv<b1:=by rw[ep];split<;>omega
 rw[dX,cU,ga]
 obtain⟨pi,LD⟩:∃x,x=if (wb&&wp&&hi=.increasing)=true then partialInsertionSort aY d2 a1 b1 else(d2,false):=⟨_,rfl⟩
 rw[HJ aB y6 e1 el ec e2 ep eh LD]at hP
 refine acz _ rfl c n a1 b1 fo wb wp d2 pv hi R6 H H6 _ p6 bn nW ⟨d2,hd6,hs6,rfl,hf6⟩ (by omega) (by omega) hs pi LD ?_ ?_
 ·rintro R' H' Hu⟨d',iu,fI,rfl,qX⟩
  rw[if_pos Hu]at hP
  simp -implicitDefEqProofs only[op,ef,cl,sq,reduceIte,j2,j3,j4,j5,j6,j7,j8,j9,y1,S1]
  exact⟨rfl,_,iu,fI,hP,qX⟩
 rintro R7 H7 Ht p7 bn⟨d3,hd7,LH,e3,hf7⟩
 rw[if_neg (by rw[Ht];simp),←e3]at hP
 rw[dX,cU,ga]
 refine acA _ rfl c n a1 b1 fo wb wp d3 pv R7 H H7 _ p7 bn ⟨d3,hd7,LH,rfl,hf7⟩ (by omega) (by omega) hs ni ?_ ?_
 ·rintro R' H' lI g0 g1 g2 g3 g4 HK zd⟨d',iu,fI,e',qX⟩
  have hr:=C6 d3 ni.1 ni.2 (by omega)
  rw[if_pos lI,if_pos hr,←e']at hP
  simp -implicitDefEqProofs only[op,ef,cl,sq,reduceIte,j2,j3,j4,j5,j6,j7,j8,j9,y1,S1]
  exact⟨((partitionEqual aY d3 a1 b1 pv).1,b1,fo,wb,wp),by simp only;omega,.i ⟨_,iu,fI,hP,qX⟩,g0,g1,g2,g3,g4,HK,zd,by simp only;omega,by simp only;omega,by simp only;omega,by simp only;omega⟩
 rintro R8 H8 lI p8 bn⟨LI,Tq,hs8,e3',Jw⟩
 subst e3'
 have hr:=partition_holds aY rn LI a1 b1 pv ni.1 ni.2 (by omega)
 rw[if_neg (by rw[lI];simp),if_pos ⟨hr.1,hr.2.1⟩]at hP
 rw[dX,cU]
 refine acF _ rfl c n a1 b1 fo wb wp LI pv R8 H H8 _ p8 bn ⟨LI,Tq,hs8,rfl,Jw⟩ (by omega) (by omega) hs ni (fun a' b' d' H' al QI iB fI gB=>ih _ (by omega) a' b' fo d' H' rfl QI iB (by omega) fI gB) ?_
 rintro R' H' a' b' d' LF QI HL iB al g0 g1 g2 g3 g4 HK zd e'⟨d'',iu,fI,rfl,qX⟩
 simp -implicitDefEqProofs only[op,ef,cl,sq,reduceIte,j2,j3,j4,j5,j6,j7,j8,j9,y1,S1]
 exact⟨(a',b',fo,LF,(partition aY LI a1 b1 pv).2.1),by simp only;omega,.i ⟨_,iu,fI,by simp only;rw[e'];exact hP,qX⟩,g0,g1,g2,g3,g4,HK,zd,by simp only;omega,HL,by simp only;omega,by simp only;omega⟩
open Go.Sort in
theorem LJ (c:Nat)(d:Array Nm)(H:af)(hc:H[c]?=some (.cells (aJ eN d.toList)))(hs:d.size<16777216) :
  W env (.call 93 [.aA c 0 d.size 2,.fn 61 []]) H (zS c d.size (sort aY d) H):=by
 refine W.bu rfl rfl rfl ?_
 have w1:IntKind.u64.wrap (d.size:Int)=(d.size:Int):=qz (by omega)
 simp -implicitDefEqProofs only[Lh,op,ef,cl,sq,reduceIte,j2,j3,j4,j5,j6,j7,j8,j9,y1,S1,w1]
 refine ae _ _ _ _ _ _ _ _ (HD d.size hs _) ?_
 rintro u H1⟨hu,rfl⟩
 cases hu
 have hb:=rm (n:=d.size) (k:=24) hs
 simp -implicitDefEqProofs only[op,ef,cl,sq,reduceIte,j2,j3,j4,j5,j6,j7,j8,j9,y1,S1]
 refine ae _ _ _ _ _ _ _ _ (VV c d.size hs _ 0 d.size (bitsLen d.size) d _ rfl (Nat.zero_le _) (Nat.le_refl _) (by omega) rfl hc) ?_
 rintro u H2⟨hu,h2⟩
 cases hu
 simp -implicitDefEqProofs only[op,ef,cl,sq,reduceIte,j2,j3,j4,j5,j6,j7,j8,j9,y1,S1]
 exact⟨rfl,h2⟩
theorem o3 {d:Array Nm}(hn:d.toList.Nodup):(Go.Sort.sort aY d).toList.Perm d.toList∧(Go.Sort.sort aY d).toList.Pairwise (fun a b=>aY a b=true):=by
 obtain⟨⟨hs,_,hp⟩,HM⟩:=Go.Sort.sort_sorts aY rn d
 have e1:(Go.Sort.sort aY d).extract 0 d.size=Go.Sort.sort aY d:=by
  conv=>lhs;arg 3;rw[←hs]
  simp
 have fR:(Go.Sort.sort aY d).toList.Perm d.toList:=by
  rw[e1]at hp
  simpa using hp
 refine⟨fR,?_⟩
 have DI:(Go.Sort.sort aY d).toList.Nodup:=fR.nodup_iff.2 hn
 rw[List.pairwise_iff_getElem]
 intro i j hi hj sH
 have h1:=HM i j (Nat.zero_le _) sH (by rw[←hs];simpa using hj)
 have gi:=jA (d:=Go.Sort.sort aY d) (i:=i) (by simpa using hi)
 have gj:=jA (d:=Go.Sort.sort aY d) (i:=j) (by simpa using hj)
 rw[List.getElem?_eq_getElem hi]at gi
 rw[List.getElem?_eq_getElem hj]at gj
 rw[Option.some.inj gi,Option.some.inj gj]
 cases h:aY (Go.Sort.sort aY d)[i]! (Go.Sort.sort aY d)[j]! with
 | true=>rfl
 | false =>
  have e:=wC h h1
  rw[←Option.some.inj gi,←Option.some.inj gj]at e
  have:=(List.getElem_inj DI).1 e
  omega
theorem C7 (es:List (Nm×T))(c mb:Nat)(H:af)(fh:(es.map (·.1)).Nodup)(jg:es.length≤8000000)(hc:H[c]?=some (.cells [.map mb]))(hm:H[mb]?=some (.map (bh kN es))) :
  W env (.call 59 [.fn 94 [.ptr c 0],.fn 61 []]) H (VT es H):=by
 refine W.bu rfl rfl rfl ?_
 simp -implicitDefEqProofs only[PN,op,ef,cl,sq,reduceIte,j2,j3,j4,j5,j6,j7,j8,j9,y1,S1]
 refine ae _ _ _ _ _ _ _ _ (Qv es c mb H fh (by omega) hc hm) ?_
 rintro u H1⟨hx,t,cd,hu,BB,mS⟩
 cases hu
 have fR:cd.Perm (es.map (·.1)):=(List.perm_ext_iff_of_nodup mS.Hr fh).2 fun k=>mS.CX k
 have og:cd.length=es.length:=by have:=mS.len;simpa using this
 rcases BB with⟨rfl,rfl⟩|⟨d,rfl,hd,Jn⟩
 ·simp -implicitDefEqProofs only[op,ef,cl,sq,reduceIte,j2,j3,j4,j5,j6,j7,j8,j9,y1,S1]
  refine ae _ _ _ _ _ _ _ _ (VQ _) ?_
  rintro u H2⟨hu,rfl⟩
  cases hu
  simp -implicitDefEqProofs only[op,ef,cl,sq,reduceIte,j2,j3,j4,j5,j6,j7,j8,j9,y1,S1]
  exact⟨hx,_,[],rfl,jy _ _ _ _,fR,List.Pairwise.nil⟩
 ·simp -implicitDefEqProofs only[op,ef,cl,sq,reduceIte,j2,j3,j4,j5,j6,j7,j8,j9,y1,S1]
  have:=LJ d cd.toArray H1 (by simpa using hd) (by simpa using (by omega:cd.length<16777216))
  simp -implicitDefEqProofs only[List.size_toArray]at this
  refine ae _ _ _ _ _ _ _ _ this ?_
  rintro u H2⟨hu,d2,h2,qM,rfl,ar⟩
  cases hu
  simp -implicitDefEqProofs only[op,ef,cl,sq,reduceIte,j2,j3,j4,j5,j6,j7,j8,j9,y1,S1]
  have hs:=o3 (d:=cd.toArray) (by simpa using mS.Hr)
  simp -implicitDefEqProofs only[List.size_toArray]at hs
  refine⟨nV fun a x VY=>ar.get (hx.get VY) (by have:=aM VY;omega),_,_,rfl,.inr ⟨d,?_,h2,Jn⟩,hs.1.trans fR,hs.2⟩
  rw[hs.1.length_eq]
theorem mA {α:Type}{enc:α→List T}{n:Nat}(hn:∀x,(enc x).length=n)(h0:n≠0){n0:Nat}{H:af}{t:T}{l:List α}(hm:iA enc n n0 H t l){i:Nat}{x:α}(hx:l[i]?=some x):∃b,H[b]?=some (.cells (aJ enc l))∧fw n i t=some (.ptr b (i*n))∧jn n (i*n) (some (.cells (aJ enc l)))=some (enc x):=by
 have hi:=(List.getElem?_eq_some_iff.1 hx).1
 rcases hm with⟨rfl,_⟩|⟨b,rfl,hb,_⟩
 ·simp at hi
 ·refine⟨b,hb,by rw[jZ];simp[hi,h0],?_⟩
  have:=cG hn hx 0 n (by omega)
  simp -implicitDefEqProofs only[Nat.add_zero,List.drop_zero]at this
  rw[this,List.take_of_length_le (by rw[hn];omega)]
def eK (x:Nm×Hd):List T:=[.str x.1.1,.int .u64 x.1.2,.str x.2.value,.sl .arg (x.2.keys.map eS),.int .i64 x.2.aZ]
def qC (s:dA)(l:List Nm):List (Nm×Hd):=l.map fun n=>(n,qK (aj s.vs n))
def VZ (s:dA)(H:af):Out→af→Prop:=fun o H'=>Ext H H'∧∃k l,gy k l∧o=.val (.sl k ((qC s l).map eK))∧l.Perm (s.vs.map (·.1))∧l.Pairwise (fun a b=>aY a b=true)
theorem QJ (b:Bk)(s:dA)(F:Nat→Prop)(H:af)(hs:SH H b s F)(hi:gQ s)(hn:s.vs.length≤8000000):W env (.call 18 [.ptr b.s 0]) H (VZ s H):=by
 obtain⟨im,pm,sa⟩:=hs
 refine W.bu rfl rfl rfl ?_
 simp -implicitDefEqProofs only[Pj,op,ef,cl,sq,reduceIte,j2,j3,j4,j5,j6,j7,j8,j9,y1,S1,sa.hs]
 refine ae _ _ _ _ _ _ _ (fun o H'=>o=.val (.fn 94 [.ptr H.length 0])∧H'=H++[.cells [.map b.v]]) ?_ ?_
 ·refine W.bu rfl rfl rfl ?_
  simp -implicitDefEqProofs only[PO,op,ef,cl,sq,reduceIte,j2,j3,j4,j5,j6,j7,j8,j9,y1,S1]
  exact rfl
 rintro u H1⟨hu,rfl⟩
 cases hu
 have lv:=aM sa.hv
 have yB:(eE s.vs).map (·.1)=s.vs.map (·.1):=by simp[eE]
 simp -implicitDefEqProofs only[op,ef,cl,sq,reduceIte,j2,j3,j4,j5,j6,j7,j8,j9,y1,S1]
 refine ae _ _ _ _ _ _ _ _ (C7 (eE s.vs) H.length b.v _ (by rw[yB];exact hi.nd) (by simpa[eE]using hn) (aK rfl) (by rw[aP lv];exact sa.hv)) ?_
 rintro t H2⟨mN,_,l,hu,BB,fR,LK⟩
 cases hu
 rw[yB]at fR
 have tn:l.length≤8000000:=by rw[fR.length_eq];simpa using hn
 have hlen:=BB.len
 have kr:Ext H H2:=(Ext.rfl'.app _).trans mN
 simp -implicitDefEqProofs only[op,ef,cl,sq,reduceIte,j2,j3,j4,j5,j6,j7,j8,j9,y1,S1,hlen]
 have aeG:∀Hx,jE Hx .sl t=some l.length:=fun Hx=>by
  rcases BB with⟨e,rfl⟩|⟨c,rfl,_,_⟩
  ·rw[e];rfl
  ·rfl
 refine W.cK (fun (i:Nat) R H'=>At H' (fun H'=>∃kw,R 3=.sl kw ((qC s (l.take i)).map eK)∧Ext H H'∧Ext H2 H'∧ji H2.length H' kw∧gy kw (l.take i))∧R 0=.ptr b.s 0∧R 11=t∧R 12=.int .i64 l.length∧R 13=.int .i64 i∧i≤l.length) (fun i=>l.length-i) 0 ⟨.i ⟨.nil,rfl,kr,Ext.rfl',iw _ _,fun _=>rfl⟩,rfl,rfl,rfl,rfl,Nat.zero_le _⟩ ?_
 rintro i R H3⟨⟨kw,h3,mo,z9,mQ,jO⟩,h0,bf,aB,bn,l3⟩
 by_cases al:i<l.length
 ·obtain⟨m,hm⟩:=bK al
  have ws:=av (show i<9223372036854775807 by omega)
  obtain⟨c,g1,g2,g3⟩:=mA (enc:=eN) (n:=2) (fun _=>rfl) (by decide) (BB.ext z9) hm
  have BD:=sa.jL (ax (F:=fun _=>False) mo) (fun _ _ _ h=>h)
  have l0:=aM BD.hs
  have lv3:=aM BD.hv
  have ke:=fun Hx z ok=>mh wh z ok Hx (eE s.vs) m
  simp -implicitDefEqProofs only[kN,eN]at ke
  have hh:=zO s.vs m
  simp -implicitDefEqProofs only[op,ef,cl,sq,reduceIte,j2,j3,j4,j5,j6,j7,j8,j9,y1,S1,S2,S3,List.length_set,h0,bf,aB,bn,al,aa,g1,g2,g3,eN,BD.hs,BD.hv,l0,lv3,ke,hh,fD]
  refine ae _ _ _ _ _ _ _ _ (C2 b s F m.1 m.2 _ ⟨im,pm,BD.jL (ax (F:=fun _=>False) (Ext.rfl'.app _)) (fun _ _ _ h=>h)⟩ hi) ?_
  rintro u H4⟨mV,kk,bO,hu⟩
  cases hu
  have c0:H4[H3.length]?=some (.cells [.str m.1,.int .u64 m.2]):=mV.get (by rw[aK rfl])
  have C8:Ext H3 H4:=(Ext.rfl'.app _).trans mV
  have s4:=C8.get BD.hs
  have v4:=C8.get BD.hv
  obtain⟨hd,qd⟩:∃hd,hd=qK (aj s.vs m):=⟨_,rfl⟩
  rw[←qd]at hh bO
  have bB:=all_map (enc:=eK) (n:=5) (fun _=>rfl) (qC s (l.take i))
  have TA:((qC s (l.take i)).map eK).length≤8000000:=by simp -implicitDefEqProofs only[qC,List.length_map,List.length_take];omega
  obtain⟨k',H5,ha,HN,cO⟩:=jJ (bytes:=72) ((qC s (l.take i)).map eK) [[T.str m.1,.int .u64 m.2,.str hd.value,.sl .arg (hd.keys.map eS),.int .i64 hd.aZ]] (mQ.ext C8) (Nat.le_trans z9.len C8.len) (by simp) (ft (by simp -implicitDefEqProofs only[List.length_cons,List.length_nil];omega))
  have tF:=qb ha (by simp)
  simp -implicitDefEqProofs only[op,ef,cl,sq,reduceIte,j2,j3,j4,j5,j6,j7,j8,j9,y1,S1]at ha
  simp -implicitDefEqProofs only[op,ef,cl,sq,reduceIte,j2,j3,j4,j5,j6,j7,j8,j9,y1,S1,Vp,h3,c0,s4,v4,ke,hh,fD,←qd,bB,ha,h0,bf,aB,bn,ws]
  refine⟨i+1,by omega,.i ⟨k',?_,cO.ext H (by have:=kr.len;omega) (mo.trans C8),cO.ext H2 (Nat.le_refl _) (z9.trans C8),HN,fun h=>absurd h tF⟩,rfl,by omega⟩
  rw[bN hm]
  simp -implicitDefEqProofs only[qC,List.map_append,List.map_cons,List.map_nil,eK,←qd]
 ·have nU:i=l.length:=by omega
  subst nU
  rw[List.take_length]at h3 jO
  simp -implicitDefEqProofs only[op,ef,cl,sq,reduceIte,j2,j3,j4,j5,j6,j7,j8,j9,y1,S1,h3,aB,bn,al]
  exact⟨mo,kw,l,jO,rfl,fR,LK⟩
theorem u6:∀(l l':List Nm),l.Pairwise (fun a b=>aY a b=true)→l'.Pairwise (fun a b=>aY a b=true)→(∀x,x∈l↔x∈l')→l=l'
 | [],[],_,_,_=>rfl
 | [],b :: l',_,_,h=>by have:=(h b).2 (by simp);simp at this
 | a :: l,[],_,_,h=>by have:=(h a).1 (by simp);simp at this
 | a :: l,b :: l',h1,h2,h=>by
  rw[List.pairwise_cons]at h1 h2
  have e:a=b:=by
   rcases List.mem_cons.1 ((h a).1 (by simp))with e|e
   ·exact e
   ·rcases List.mem_cons.1 ((h b).2 (by simp))with e2|e2
    ·exact e2.symm
    ·have q1:=h2.1 a e
     have q2:=h1.1 b e2
     have:=iJ q1 q2
     rw[lf]at this;cases this
  subst e
  rw[u6 l l' h1.2 h2.2 fun x=>?_]
  have hx:=h x
  simp -implicitDefEqProofs only[List.mem_cons]at hx
  constructor
  ·intro hm
   rcases hx.1 (.inr hm)with e|e
   ·subst e;have:=h1.1 x hm;rw[lf]at this;cases this
   ·exact e
  ·intro hm
   rcases hx.2 (.inr hm)with e|e
   ·subst e;have:=h2.1 x hm;rw[lf]at this;cases this
   ·exact e
theorem mem_keys {α β:Type}[DecidableEq α]{es:List (α×β)}{k:α}:k∈es.map (·.1)↔(aj es k).isSome=true:=by
 cases h:aj es k with
 | none=>simp[bS.1 h]
 | some v =>
  simp -implicitDefEqProofs only[Option.isSome_some,iff_true]
  exact List.mem_map.2 ⟨_,CZ h,rfl⟩
theorem QK {α:Type}{l l':List α}(h1:l.Nodup)(h2:l'.Nodup)(h:∀x,x∈l↔x∈l'):l.length=l'.length:=((List.perm_ext_iff_of_nodup h1 h2).2 h).length_eq
def tA:ByteArray:=⟨#[97]⟩
def tB:ByteArray:=⟨#[98]⟩
def tX:ByteArray:=⟨#[120]⟩
def tY:ByteArray:=⟨#[121]⟩
def tZ:ByteArray:=⟨#[122]⟩
abbrev l1:List (ByteArray×ByteArray):=[(tA,tX),(tB,tY)]
abbrev l2:List (ByteArray×ByteArray):=[(tA,tZ)]
theorem SH.ext {H H':af}{b:Bk}{s:dA}{F:Nat→Prop}(h:SH H b s F)(hx:Ext H H'):SH H' b s F:=by
 obtain⟨im,pm,sa⟩:=h
 exact⟨im,pm,sa.jL (ax (F:=fun _=>False) hx) (fun _ _ _ h=>h)⟩
theorem a9.more {H H' xo:af}{G:Nat→Prop}(h:a9 (fun _=>False) H H')(h':a9 G H' xo)(hg:∀c,G c→H.length≤c):a9 (fun _=>False) H xo:=h.trans h' fun c hc=>.inr (hg c hc)
theorem a9.ext {H H' xo:af}{F:Nat→Prop}(h:a9 F H H')(h':Ext H' xo):a9 F H xo:=h.trans (ax (F:=fun _=>False) h') fun c hc=>hc.elim
theorem fS {H H':af}(h:a9 (fun _=>False) H H'):Ext H H':=nV fun c x hx=>h.get hx id
theorem li0 {k:SK}{a b c:List T}(h:a.length=5):fw 5 0 (.sl k [a,b,c])=some (.cX a):=by simp[fw,h]
theorem li1 {k:SK}{a b c:List T}(h:b.length=5):fw 5 1 (.sl k [a,b,c])=some (.cX b):=by simp[fw,h]
end Go.Proofs.YtdcpehdijdllpaaGreat.St
end

section
namespace Go.Proofs.YtdcpehdijdllpaaGreat.St
open Go.Rmp Go.Proofs.YtdcpehdijdllpaaGreat.Ir
set_option maxRecDepth 10000
def acP (c:Nat)(d':Array ByteArray)(H:af):Out→af→Prop:=fun o H'=>o=.val (.bJ [])∧H'[c]?=some (.cells (aJ eS d'.toList))∧a9 (fun x=>x=c) H H'
theorem sO {Hx:af}{c:Nat}(d:Array ByteArray){i j:Nat}(hi:i<d.size)(hj:j<d.size) :
  qI Hx c [.str d[j]!] (i*1) (some (.cells (aJ eS d.toList)))=some (Hx.set c (.cells (aJ eS (d.toList.set i d[j]!)))) ∧
  ∀Hy,qI Hy c [.str d[i]!] (j*1) (some (.cells (aJ eS (d.toList.set i d[j]!))))=some (Hy.set c (.cells (aJ eS (Go.Sort.swp d i j).toList))):=by
 have g1:=jx (enc:=eS) (n:=1) (y:=d[j]!) (fun _=>rfl) (jA hi) Hx c (eS d[j]!) 0 (by simp[eS]) (by simp[eS])
 obtain⟨z,hz⟩:=bK (l:=d.toList.set i d[j]!) (i:=j) (by simpa using hj)
 have g2:=fun Hy=>jx (enc:=eS) (n:=1) (y:=d[i]!) (fun _=>rfl) hz Hy c (eS d[i]!) 0 (by simp[eS]) (by simp[eS])
 refine⟨by simpa[eS]using g1,fun Hy=>?_⟩
 rw[yw]
 simpa[eS]using g2 Hy
theorem Aa {d:Array ByteArray}{i:Nat}(h:i<d.size):jn 1 (i*1) (some (.cells (aJ eS d.toList)))=some [.str d[i]!]:=by
 have:=cG (enc:=eS) (n:=1) (fun _=>rfl) (jA h) 0 1 (by decide)
 simpa[eS]using this
open Go.Sort in
theorem V0 (c:Nat)(d:Array ByteArray)(a b:Nat)(H:af)(hc:H[c]?=some (.cells (aJ eS d.toList)))(hb:b≤d.size)(fG:a≤b)(hs:d.size<4611686018427387903) :
  W env (.call 142 [.aA c 0 d.size 1,.int .i64 a,.int .i64 b]) H (acP c (insertionSort strLt d a b) H):=by
 refine W.bu rfl rfl rfl ?_
 have wa:=av (show a<9223372036854775807 by omega)
 simp -implicitDefEqProofs only[Bu,op,ef,cl,sq,reduceIte,j2,j3,j4,j5,j6,j7,j8,j9,y1,S1,wa]
 refine W.cK (fun (i:Nat) R H'=>At H' (fun H'=>∃di:Array ByteArray,H'[c]?=some (.cells (aJ eS di.toList))∧di.size=d.size∧insOuter strLt a b i di=insertionSort strLt d a b∧a9 (fun x=>x=c) H H')∧R 0=.aA c 0 d.size 1∧R 1=.int .i64 a∧R 2=.int .i64 b∧R 6=.int .i64 i∧a+1≤i) (fun i=>b-i) (a+1) ⟨.i ⟨d,hc,rfl,rfl,a9.refl _ _⟩,rfl,rfl,rfl,rfl,Nat.le_refl _⟩ ?_
 rintro i R H1⟨⟨di,hd,a7,wy,ar⟩,h0,h1,h2,h6,xi⟩
 by_cases al:i<b
 ·have wi:=av (show i<9223372036854775807 by omega)
  simp -implicitDefEqProofs only[op,ef,cl,sq,reduceIte,j2,j3,j4,j5,j6,j7,j8,j9,y1,S1,h0,h1,h2,h6,al]
  refine W.cT 2 (fun (j:Nat) R H'=>At H' (fun H'=>∃dj:Array ByteArray,H'[c]?=some (.cells (aJ eS dj.toList))∧dj.size=d.size∧insInner strLt a j dj=insInner strLt a i di∧a9 (fun x=>x=c) H H')∧R 0=.aA c 0 d.size 1∧R 1=.int .i64 a∧R 2=.int .i64 b∧R 6=.int .i64 i∧R 7=.int .i64 j∧j≤i) (fun j=>j) i
   (fun R H'=>At H' (fun H'=>∃dj:Array ByteArray,H'[c]?=some (.cells (aJ eS dj.toList))∧dj.size=d.size∧dj=insInner strLt a i di∧a9 (fun x=>x=c) H H')∧R 0=.aA c 0 d.size 1∧R 1=.int .i64 a∧R 2=.int .i64 b∧R 6=.int .i64 i) ?_ ?_ ?_
  ·refine⟨.i ⟨di,hd,a7,rfl,ar⟩,?_,?_,?_,?_,?_,Nat.le_refl _⟩
   all_goals (simp -implicitDefEqProofs only[op,ef,cl,sq,reduceIte,j2,j3,j4,j5,j6,j7,j8,j9,y1,S1,h0,h1,h2,h6])
  ·rintro j R H2⟨⟨dj,cz,qM,sK,kZ⟩,q0,q1,q2,q6,q7,Tp⟩
   by_cases Qy:a<j
   ·obtain⟨j',rfl⟩:∃j',j=j'+1:=⟨j-1,by omega⟩
    have wp:IntKind.i64.wrap (((j'+1:Nat):Int)-1)=(j':Int):=by rw[wrap64 (by omega)];omega
    have j1:j'+1<d.size:=by omega
    have j0:j'<d.size:=by omega
    have i1:fw 1 (j'+1) (.aA c 0 d.size 1)=some (.ptr c ((j'+1)*1)):=by rw[jZ];simp[j1]
    have i0:fw 1 j' (.aA c 0 d.size 1)=some (.ptr c (j'*1)):=by rw[jZ];simp[j0]
    have v1:=Aa (d:=dj) (i:=j'+1) (by omega)
    have v0:=Aa (d:=dj) (i:=j') (by omega)
    simp -implicitDefEqProofs only[op,ef,cl,sq,reduceIte,j2,j3,j4,j5,j6,j7,j8,j9,y1,S1,q0,q1,q2,q6,q7,Qy,aa,i1,i0,wp,cz,v1,v0]
    refine ae _ _ _ _ _ _ _ _ (dZ dj[j'+1]! dj[j']! _) ?_
    rintro u H3⟨hu,rfl⟩
    cases hu
    have oZ:=cz
    obtain⟨s1,s2⟩:=sO (Hx:=H3) (c:=c) dj (i:=j'+1) (j:=j') (by omega) (by omega)
    cases nG:strLt dj[j'+1]! dj[j']! with
    | true =>
     simp -implicitDefEqProofs only[op,ef,cl,sq,reduceIte,j2,j3,j4,j5,j6,j7,j8,j9,y1,S1,q0,q1,q2,q6,q7,aa,i1,i0,wp,oZ,v1,v0,s1,S2,s2,aM oZ]
     exact⟨j',by omega,.i ⟨swp dj (j'+1) j',bR (by rw[List.length_set];exact aM oZ),by rw[swp_size];exact qM,by rw[←sK];conv=>{ rhs;rw[insInner,if_pos (by simp -implicitDefEqProofs only[Bool.and_eq_true,decide_eq_true_eq];exact⟨Qy,nG⟩)] },(kZ.set (.inl rfl) _).set (.inl rfl) _⟩,rfl,by omega⟩
    | false =>
     simp -implicitDefEqProofs only[op,ef,cl,sq,reduceIte,j2,j3,j4,j5,j6,j7,j8,j9,y1,S1,q0,q1,q2,q6,q7]
     exact .i ⟨dj,oZ,qM,by rw[←sK,insInner];simp[nG],kZ⟩
   ·simp -implicitDefEqProofs only[op,ef,cl,sq,reduceIte,j2,j3,j4,j5,j6,j7,j8,j9,y1,S1,q0,q1,q2,q6,q7,Qy]
    refine .i ⟨dj,cz,qM,?_,kZ⟩
    rw[←sK]
    cases j with
    | zero=>rfl
    | succ j=>rw[insInner,if_neg (by simp -implicitDefEqProofs only[Bool.and_eq_true,decide_eq_true_eq];omega)]
  ·rintro R H2⟨⟨dj,cz,qM,sK,kZ⟩,q0,q1,q2,q6⟩
   simp -implicitDefEqProofs only[op,ef,cl,sq,reduceIte,j2,j3,j4,j5,j6,j7,j8,j9,y1,S1,q0,q1,q2,q6,wi]
   refine⟨i+1,by omega,.i ⟨dj,cz,qM,?_,kZ⟩,rfl,by omega⟩
   rw[←wy,sK]
   conv=>rhs;rw[insOuter,if_pos al]
 ·simp -implicitDefEqProofs only[op,ef,cl,sq,reduceIte,j2,j3,j4,j5,j6,j7,j8,j9,y1,S1,h0,h1,h2,h6,al]
  rw[insOuter,if_neg al]at wy
  subst wy
  exact⟨rfl,hd,ar⟩
theorem mW:Go.Sort.SWO strLt where
 irrefl:=dY
 trans _ _ _ h1 h2:=dS h1 h2
 ntrans x y z h1 h2:=by
  cases h:strLt x z with
  | false=>rfl
  | true =>
   cases h3:strLt y x with
   | true=>rw[dS h3 h]at h2;cases h2
   | false=>have:=pZ h1 h3;subst this;rw[h]at h2;cases h2
theorem QL (H:af):W env (.call 142 [.sl .nil [],.int .i64 0,.int .i64 0]) H (kX (.bJ []) H):=by
 refine W.bu rfl rfl rfl ?_
 have wa:IntKind.i64.wrap ((0:Int)+1)=1:=by decide
 simp -implicitDefEqProofs only[Bu,op,ef,cl,sq,reduceIte,j2,j3,j4,j5,j6,j7,j8,j9,y1,S1,wa]
 refine W.cK (fun (_:Nat) R H'=>H'=H∧R 2=.int .i64 0∧R 6=.int .i64 1) (fun _=>0) 0 ⟨rfl,rfl,rfl⟩ ?_
 rintro _ R _⟨rfl,h2,h6⟩
 have l0:¬((1:Int)<0):=by decide
 simp -implicitDefEqProofs only[op,ef,cl,sq,reduceIte,j2,j3,j4,j5,j6,j7,j8,j9,y1,S1,h2,h6,l0]
 trivial
theorem QM (m:Nat)(H:af):W env (.call 122 [.sl .nil [],.int .i64 0,.int .i64 0,.int .i64 m]) H (kX (.bJ []) H):=by
 refine W.bu rfl rfl rfl ?_
 have w1:IntKind.i64.wrap ((0:Int)-0)=0:=by decide
 simp -implicitDefEqProofs only[fc,op,ef,cl,sq,reduceIte,j2,j3,j4,j5,j6,j7,j8,j9,y1,S1]
 refine W.cK (fun (_:Nat) R H'=>H'=H∧R 0=.sl .nil []∧R 1=.int .i64 0∧R 2=.int .i64 0) (fun _=>0) 0 ⟨rfl,rfl,rfl,rfl⟩ ?_
 rintro _ R _⟨rfl,h0,h1,h2⟩
 have l0:(0:Int)≤12:=by decide
 simp -implicitDefEqProofs only[op,ef,cl,sq,reduceIte,j2,j3,j4,j5,j6,j7,j8,j9,y1,S1,h0,h1,h2,w1,l0]
 refine ae _ _ _ _ _ _ _ _ (QL _) ?_
 rintro u H2⟨hu,rfl⟩
 cases hu
 simp -implicitDefEqProofs only[op,ef,cl,sq,reduceIte,j2,j3,j4,j5,j6,j7,j8,j9,y1,S1]
 trivial
theorem LL (H:af):W env (.call 99 [.sl .nil []]) H (kX (.bJ []) H):=by
 refine W.bu rfl rfl rfl ?_
 have w1:IntKind.u64.wrap ((0:Nat):Int)=((0:Nat):Int):=by decide
 have e0:((0:Nat):Int)=0:=rfl
 simp -implicitDefEqProofs only[Li,op,ef,cl,sq,reduceIte,j2,j3,j4,j5,j6,j7,j8,j9,y1,S1,w1]
 refine ae _ _ _ _ _ _ _ _ (VD 0 (by omega) _) ?_
 rintro u H1⟨rfl,m,hu⟩
 cases hu
 simp -implicitDefEqProofs only[op,ef,cl,sq,reduceIte,j2,j3,j4,j5,j6,j7,j8,j9,y1,S1,e0]
 refine ae _ _ _ _ _ _ _ _ (QM m _) ?_
 rintro u H2⟨hu,rfl⟩
 cases hu
 simp -implicitDefEqProofs only[op,ef,cl,sq,reduceIte,j2,j3,j4,j5,j6,j7,j8,j9,y1,S1]
 trivial
def QN (es:List (ByteArray×T))(H:af):Out→af→Prop:=fun o H'=>Ext H H'∧∃t l,o=.val t∧iA eS 1 H.length H' t l∧l.Perm (es.map (·.1))∧l.Pairwise (fun a b=>strLt a b=true)
def eL (x:ByteArray×Nat):List T:=[.str x.1,.int .u64 x.2]
def qD (s:dA)(l:List ByteArray):List (ByteArray×Nat):=l.map fun k=>(k,bT s k)
def QO (s:dA)(H:af):Out→af→Prop:=fun o H'=>Ext H H'∧∃k l,gy k l∧o=.val (.sl k ((qD s l).map eL))∧l.Perm (s.ls.map (·.1))∧l.Pairwise (fun a b=>strLt a b=true)
end Go.Proofs.YtdcpehdijdllpaaGreat.St
end
