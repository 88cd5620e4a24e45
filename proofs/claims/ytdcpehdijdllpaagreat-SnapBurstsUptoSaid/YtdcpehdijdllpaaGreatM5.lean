/- Part of a proof of a law of this seat: the machine of plain values, its simulation, and the contracts of the functions that the law reaches. Conditions: none beyond the given row. -/
import Derived.Test.YtdcpehdijdllpaaGreatM4
import Derived.Test.YtdcpehdijdllpaaGreatRows
import Derived.WalkKit
import Derived.ProofKit
import Derived.OpenShut
import Derived.JoinedCond
import Derived.ChangeBears
open Int renaming reduceLT → q5, reduceLE → q6, reduceBEq → q7, reduceBNe → q9, reduceEq → j1
open Nat renaming reduceAdd → j2, reduceLeDiff → j3, reduceLT → j4, reduceEqDiff → j5
set_option linter.unusedSimpArgs false
set_option linter.unusedVariables false
set_option linter.unnecessarySimpa false
set_option maxHeartbeats 4000000
section
namespace Go.Proofs.YtdcpehdijdllpaaGreat.St
open Go.Rmp Go.Proofs.YtdcpehdijdllpaaGreat.Ir
set_option maxRecDepth 10000
theorem mK:∀l:List Nat,bytesOf (l.map eB)=some (l.map UInt8.ofNat)
 | []=>rfl
 | x :: l=>by
  show(bytesOf (l.map eB)).map (UInt8.ofNat ((x:Int)).toNat :: ·)=_
  rw[mK l];rfl
theorem OX {k:SK}{l:List Nat}:∀R Hx a,(X.r a).ev R=.sl k (l.map eB)→ak R Hx (.CH (.r a))=some (.str (xq l),Hx):=fun R Hx a ha=>by
 have cn:=xu l
 simp -implicitDefEqProofs only[ak,ha,bK,cn,if_true,mK]
 rfl
theorem AB {n v:Nat}{l r:List Nat}(h:pN n l=some (v,r)):n≤l.length∧r=l.drop n:=by
 unfold pN at h
 split at h
 ·cases h
 ·simp -implicitDefEqProofs only[Option.some.injEq,Prod.mk.injEq]at h
  exact⟨by omega,h.2.symm⟩
theorem lN {m v:Nat}{l r:List Nat}(h:pC m l=some (v,r)):pN 4 l=some (v,r)∧v≤m:=by
 unfold pC at h
 cases hp:pN 4 l with
 | none=>rw[hp]at h;cases h
 | some x =>
  obtain⟨v',r'⟩:=x
  rw[hp]at h
  simp only at h
  split at h
  ·cases h
  ·simp -implicitDefEqProofs only[Option.some.injEq,Prod.mk.injEq]at h
   obtain⟨rfl,rfl⟩:=h
   exact⟨rfl,by omega⟩
def vC (m:Nat):Option (List Nat)→Nat×Option (List Nat)
 | none=>(0,none)
 | some l=>match pC m l with
  | none=>(0,none)
  | some (v,r)=>(v,some r)
def fO (m:Nat):Option (List Nat)→ByteArray×Option (List Nat)
 | none=>(⟨#[]⟩,none)
 | some l=>match pT m l with
  | none=>(⟨#[]⟩,none)
  | some (v,r)=>(v,some r)
theorem u3 {H:af}{c:Nat}{st:Option (List Nat)}(h:RD H c st)(m:Nat)(hm:m<9223372036854775808):W env (.call 53 [.ptr c 0,.int .i64 m]) H (P3 c (.int .i64 (vC m st).1) (vC m st).2 H):=by
 refine W.bS rfl rfl rfl ?_
 simp -implicitDefEqProofs only[NH,op,ef,cl,sq,reduceIte,q5,q6,q7,q9,j1,j2,j3,j4,j5,S1]
 cases st with
 | none =>
  refine ae _ _ _ _ _ _ _ _ (xz h m hm) ?_
  rintro u H1⟨hu,rfl⟩
  cases hu
  simp -implicitDefEqProofs only[op,ef,cl,sq,reduceIte,q5,q6,q7,q9,j1,j2,j3,j4,j5,S1]
  exact⟨rfl,h,bl.refl _ _⟩
 | some l =>
  obtain⟨k,h1,h2,h3⟩:=h.ok
  have lc:=aW h1
  refine ae _ _ _ _ _ _ _ _ (tR h m hm) ?_
  intro u H1 hq
  unfold Vz at hq
  cases hp:pC m l with
  | none =>
   have es:vC m (some l)=(0,none):=by simp -implicitDefEqProofs only[vC,hp]
   rw[hp]at hq
   rw[es]
   obtain⟨hu,hr,hk⟩:=hq
   cases hu
   simp -implicitDefEqProofs only[op,ef,cl,sq,reduceIte,q5,q6,q7,q9,j1,j2,j3,j4,j5,S1]
   exact⟨rfl,hr,hk⟩
  | some x =>
   obtain⟨v,r⟩:=x
   have es:vC m (some l)=(v,some r):=by simp -implicitDefEqProofs only[vC,hp]
   rw[hp]at hq
   rw[es]
   obtain⟨hu,rfl⟩:=hq
   cases hu
   obtain⟨oU,_⟩:=lN hp
   obtain⟨Hf,rfl⟩:=AB oU
   have BW:=Cc (k:=k) Hf
   simp -implicitDefEqProofs only[op,ef,cl,sq,reduceIte,q5,q6,q7,q9,j1,j2,j3,j4,j5,S1,h1,lc,↓BW,S2]
   exact⟨rfl,RD.Vw (k:=k.cut l.length 4 l.length) (bT lc) (by rw[List.length_drop];omega) (h3.drop 4),bl.set (F:=fun b=>b=c) (bl.refl _ _) (.inl rfl) _⟩
theorem LX {H:af}{c:Nat}{st:Option (List Nat)}(h:RD H c st):W env (.call 54 [.ptr c 0]) H (fun o H'=>H'=H∧∃e:Int,o=.val (.int .i64 e)∧(e=0↔st≠none)):=by
 refine W.bS rfl rfl rfl ?_
 cases st with
 | none =>
  obtain⟨k,rest,e,h1,h2,h3,h4⟩:=h.bad
  simp -implicitDefEqProofs only[Js,op,ef,cl,sq,reduceIte,q5,q6,q7,q9,j1,j2,j3,j4,j5,S1,h1]
  exact⟨e,rfl,by simp[h4]⟩
 | some l =>
  obtain⟨k,h1,h2,h3⟩:=h.ok
  simp -implicitDefEqProofs only[Js,op,ef,cl,sq,reduceIte,q5,q6,q7,q9,j1,j2,j3,j4,j5,S1,h1]
  exact⟨0,rfl,by simp⟩
theorem Ue {H:af}{c:Nat}{st:Option (List Nat)}(h:RD H c st):W env (.call 57 [.ptr c 0]) H (fun o H'=>H'=H∧∃e:Int,o=.val (.int .i64 e)∧(e=0↔st=some [])):=by
 refine W.bS rfl rfl rfl ?_
 cases st with
 | none =>
  obtain⟨k,rest,e,h1,h2,h3,h4⟩:=h.bad
  have e1:(e==0)=false:=by simpa using h4
  simp -implicitDefEqProofs only[EX,op,ef,cl,sq,reduceIte,q5,q6,q7,q9,j1,j2,j3,j4,j5,S1,h1,e1]
  exact⟨e,rfl,by simp[h4]⟩
 | some l =>
  obtain⟨k,h1,h2,h3⟩:=h.ok
  by_cases hl:l=[]
  ·subst hl
   simp -implicitDefEqProofs only[EX,op,ef,cl,sq,reduceIte,q5,q6,q7,q9,j1,j2,j3,j4,j5,S1,h1,List.map_nil,List.length_nil]
   exact⟨0,rfl,by simp⟩
  ·have ym:0<l.length:=List.length_pos_iff.2 hl
   have e1:decide ((l.length:Int)>0)=true:=by simp;exact ym
   simp -implicitDefEqProofs only[EX,op,ef,cl,sq,reduceIte,q5,q6,q7,q9,j1,j2,j3,j4,j5,S1,h1,List.length_map,e1]
   exact⟨5,rfl,by simp[hl]⟩
theorem nU {H:af}{c:Nat}{st:Option (List Nat)}(h:RD H c st)(m:Nat)(hm:m<9223372036854775808):W env (.call 55 [.ptr c 0,.int .i64 m]) H (P3 c (.str (fO m st).1) (fO m st).2 H):=by
 refine W.bS rfl rfl rfl ?_
 simp -implicitDefEqProofs only[NI,op,ef,cl,sq,reduceIte,q5,q6,q7,q9,j1,j2,j3,j4,j5,S1]
 cases st with
 | none =>
  refine ae _ _ _ _ _ _ _ _ (xz h m hm) ?_
  rintro u H1⟨hu,rfl⟩
  cases hu
  simp -implicitDefEqProofs only[op,ef,cl,sq,reduceIte,q5,q6,q7,q9,j1,j2,j3,j4,j5,S1]
  exact⟨rfl,h,bl.refl _ _⟩
 | some l =>
  obtain⟨k,h1,h2,h3⟩:=h.ok
  have lc:=aW h1
  refine ae _ _ _ _ _ _ _ _ (tR h m hm) ?_
  intro u H1 hq
  unfold Vz at hq
  cases hp:pC m l with
  | none =>
   have es:fO m (some l)=(⟨#[]⟩,none):=by
    have:pT m l=none:=by
     unfold pT
     unfold pC at hp
     cases h4:pN 4 l with
     | none=>rfl
     | some x =>
      obtain⟨v,r⟩:=x
      rw[h4]at hp
      simp only at hp ⊢
      split at hp
      ·rename_i hc;rw[if_pos hc]
      ·cases hp
    simp -implicitDefEqProofs only[fO,this]
   rw[hp]at hq
   rw[es]
   obtain⟨hu,hr,hk⟩:=hq
   cases hu
   simp -implicitDefEqProofs only[op,ef,cl,sq,reduceIte,q5,q6,q7,q9,j1,j2,j3,j4,j5,S1]
   exact⟨rfl,hr,hk⟩
  | some x =>
   obtain⟨v,r⟩:=x
   rw[hp]at hq
   obtain⟨hu,rfl⟩:=hq
   cases hu
   obtain⟨oU,hvm⟩:=lN hp
   have hv4:v<4294967296:=(iV h3 oU).2.1
   obtain⟨Hf,hr⟩:=AB oU
   have w4:IntKind.i64.wrap ((l.length:Int)-4)=((l.length-4:Nat):Int):=by rw[wrap64 (by omega)];omega
   have ept:pT m l=if r.length<v then none else some (xq (r.take v),r.drop v):=by
    unfold pT;rw[oU];simp only;rw[if_neg (by omega)]
   have hrl:r.length=l.length-4:=by rw[hr,List.length_drop]
   by_cases Jf:r.length<v
   ·have es:fO m (some l)=(⟨#[]⟩,none):=by simp -implicitDefEqProofs only[fO,ept,Jf,if_true]
    have e1:decide (((l.length-4:Nat):Int)<(v:Int))=true:=by simp;omega
    rw[es]
    simp -implicitDefEqProofs only[op,ef,cl,sq,reduceIte,q5,q6,q7,q9,j1,j2,j3,j4,j5,S1,h1,lc,List.length_map,w4,e1,S2]
    exact⟨rfl,RD.Vx (bT lc) h2 h3 (by decide),bl.set (F:=fun b=>b=c) (bl.refl _ _) (.inl rfl) _⟩
   ·have es:fO m (some l)=(xq (r.take v),some (r.drop v)):=by simp -implicitDefEqProofs only[fO,ept,Jf,if_false]
    have e1:decide (((l.length-4:Nat):Int)<(v:Int))=false:=by simp;omega
    have w5:IntKind.i64.wrap (4+(v:Int))=((4+v:Nat):Int):=by rw[wrap64 (by omega)];omega
    have BW:=Ko (k:=k) (l:=l) (n:=v) (by omega)
    have VB:=rB (k:=k) (l:=l) (n:=4+v) (by omega)
    have hd:r.drop v=l.drop (4+v):=by rw[hr,List.drop_drop]
    rw[es]
    rw[←hr]at BW
    have rZ:=OX (k:=k.cut l.length 4 (4+v)) (l:=r.take v)
    rw[←hd]at VB
    simp -implicitDefEqProofs only[op,ef,cl,sq,reduceIte,q5,q6,q7,q9,j1,j2,j3,j4,j5,S1,h1,lc,List.length_map,w4,e1,w5,↓BW,↓VB,↓rZ,S2]
    exact⟨rfl,RD.Vw (k:=k.cut l.length (4+v) l.length) (bT lc) (by rw[hd,List.length_drop];omega) (by rw[hd];exact h3.drop _),bl.set (F:=fun b=>b=c) (bl.refl _ _) (.inl rfl) _⟩
theorem OY (k:SK)(l:List Nat)(hk:gx k l)(hl:l.length≤4294967296)(hb:dt l)(H:af):W env (.call 48 [.sl k (l.map eB)]) H (fun o H'=>Ext H H'∧∃c,H.length≤c∧o=.val (.ptr c 0)∧RD H' c (some l)):=by
 refine W.bS rfl rfl rfl ?_
 simp -implicitDefEqProofs only[NB,op,ef,cl,sq,reduceIte,q5,q6,q7,q9,j1,j2,j3,j4,j5,S1]
 refine ae _ _ _ _ _ _ _ _ (Az k l hk hl _) ?_
 rintro u H1⟨ib,k',_,_,hu⟩
 cases hu
 have ib:Ext H H1:=ib
 simp -implicitDefEqProofs only[op,ef,cl,sq,reduceIte,q5,q6,q7,q9,j1,j2,j3,j4,j5,S1]
 exact⟨ib.app _,H1.length,ib.len,rfl,RD.Vw (aX rfl) hl hb⟩
def CG (c m:Nat)(l:List Nat):Option (List ByteArray×List Nat):=match pC c l with
 | none=>none
 | some (n,r)=>pM (pT m) r n
def o6 (c m:Nat):Option (List Nat)→List ByteArray×Option (List Nat)
 | none=>([],none)
 | some l=>match CG c m l with
  | none=>([],none)
  | some (v,r)=>(v,some r)
def stM {α:Type}(p:List Nat→Option (α×List Nat))(n:Nat):Option (List Nat)→List α×Option (List Nat)
 | none=>([],none)
 | some l=>match pM p l n with
  | none=>([],none)
  | some (v,r)=>(v,some r)
def xA {α:Type}(p:List Nat→Option (α×List Nat))(H:af)(c n:Nat)(st:Option (List Nat))(i:Nat)(xs:List α):Prop :=
 (∃l r,st=some l∧pM p l i=some (xs,r)∧RD H c (some r))∨(RD H c none∧∀l,st=some l→pM p l n=none)
theorem RD.lt {H:af}{c:Nat}{st:Option (List Nat)}(h:RD H c st):c<H.length:=by
 obtain⟨k,rest,e,h1,_⟩:=h.at_;exact aW h1
theorem wZ.ma {n0:Nat}{H H':af}{k:SK}(h:wZ n0 H k H'):bl (fun c=>∃e,k=.own c e) H H':=⟨h.len,fun c hc hn=>by
 obtain⟨x,hx⟩:=cB hc
 rw[hx];exact h.get c x hx fun e he=>hn ⟨e,he⟩⟩
theorem lC.ma {n0:Nat}{H H':af}{k:SK}(h:lC n0 H k){F:Nat→Prop}(hf:bl F H H')(hF:∀t,n0≤t→¬F t):lC n0 H' k:=by
 rcases h with h|h|⟨t,e,h,h1,h2⟩
 ·exact .inl h
 ·exact .inr (.inl h)
 ·exact .inr (.inr ⟨t,e,h,h1,hf.get h2 (hF t h1)⟩)
theorem lC.own {n0:Nat}{H:af}{k:SK}(h:lC n0 H k){t e:Nat}(hk:k=.own t e):n0≤t:=by
 rcases h with h|h|⟨t',e',h,h1,h2⟩
 ·rw[h]at hk;cases hk
 ·rw[h]at hk;cases hk
 ·rw[h]at hk;cases hk;exact h1
def RTQ (c:Nat)(xs:List ByteArray)(st:Option (List Nat))(H:af):Out→af→Prop:=fun o H'=>∃kk,gx kk xs∧o=.val (.sl kk (xs.map eS))∧RD H' c st∧bl (fun b=>b=c) H H'
set_option maxHeartbeats 1000000 in
theorem Cd {H:af}{c:Nat}{st:Option (List Nat)}(h:RD H c st)(cm m:Nat)(PB:cm≤8000000)(hm:m<9223372036854775808):W env (.call 56 [.ptr c 0,.int .i64 cm,.int .i64 m]) H (RTQ c (o6 cm m st).1 (o6 cm m st).2 H):=by
 obtain⟨k0,rest,e0,d0,xF,Hc,_,_⟩:=h.at_
 have lc:=aW d0
 refine W.bS rfl rfl rfl ?_
 simp -implicitDefEqProofs only[NJ,op,ef,cl,sq,reduceIte,q5,q6,q7,q9,j1,j2,j3,j4,j5,S1,d0]
 refine ae _ _ _ _ _ _ _ _ (u3 h cm (by omega)) ?_
 rintro u H1⟨hu,hr,hf⟩
 cases hu
 obtain⟨n,hn⟩:∃n,n=(vC cm st).1:=⟨_,rfl⟩
 obtain⟨jT,Ce⟩:∃jT,jT=(vC cm st).2:=⟨_,rfl⟩
 have PG:n≤cm∧(jT=none→n=0)∧o6 cm m st=stM (pT m) n jT:=by
  rw[hn,Ce]
  cases st with
  | none=>exact⟨Nat.zero_le _,fun _=>rfl,rfl⟩
  | some l =>
   cases hp:pC cm l with
   | none =>
    have:vC cm (some l)=(0,none):=by simp -implicitDefEqProofs only[vC,hp]
    rw[this]
    exact⟨Nat.zero_le _,fun _=>rfl,by simp -implicitDefEqProofs only[o6,CG,hp,stM]⟩
   | some x =>
    obtain⟨v,r⟩:=x
    have:vC cm (some l)=(v,some r):=by simp -implicitDefEqProofs only[vC,hp]
    rw[this]
    exact⟨(lN hp).2,(fun h=>by cases h),by simp -implicitDefEqProofs only[o6,CG,hp,stM];cases pM (pT m) r v<;>rfl⟩
 rw[←hn]
 rw[←Ce]at hr
 obtain⟨hn1,IE,qI⟩:=PG
 have Sx:c<H1.length:=hr.lt
 have Uf:xA (pT m) H1 c n jT 0 []:=by
  cases jT with
  | none=>exact .inr ⟨hr,fun l h=>by cases h⟩
  | some l=>exact .inl ⟨l,l,rfl,rfl,hr⟩
 simp -implicitDefEqProofs only[op,ef,cl,sq,reduceIte,q5,q6,q7,q9,j1,j2,j3,j4,j5,S1]
 refine W.gu 0 [(0,_),(2,_),(7,_),(17,_)] (fun (i:Nat) R H'=>At H' (fun H'=>∃kk xs,R 9=.sl kk (xs.map eS)∧lC H1.length H' kk∧gx kk xs∧xs.length=i∧xA (pT m) H' c n jT i xs∧bl (fun b=>b=c) H1 H')∧R 18=.int .i64 i∧i≤n) (fun i=>n-i) 0
  (fun R H'=>At H' (fun H'=>∃kk xs,R 9=.sl kk (xs.map eS)∧gx kk xs∧xA (pT m) H' c n jT n xs∧bl (fun b=>b=c) H1 H')) ⟨.i ⟨.nil,[],rfl,iE _ _,fun _=>rfl,rfl,Uf,bl.refl _ _⟩,rfl,Nat.zero_le _⟩ ?_ ?_
 ·rintro i R H2⟨⟨kk,xs,g9,mD,mF,Bv,rY,dN⟩,Z4,hi⟩
  by_cases ax:i<n
  rotate_left
  ·have nk:i=n:=by omega
   subst nk
   simp -implicitDefEqProofs only[aq,aj,op,ef,cl,sq,reduceIte,q5,q6,q7,q9,j1,j2,j3,j4,j5,S1,g9,Z4,ax,dr]
   exact .i ⟨kk,xs,rfl,mF,rY,dN⟩
  have qc:=aU (show i<9223372036854775807 by omega)
  obtain⟨iY,Ug,bR⟩:∃iY,RD H2 c iY∧∀H3,RD H3 c (fO m iY).2→xA (pT m) H3 c n jT (i+1) (xs++[(fO m iY).1])∧((fO m iY).2=none→RD H3 c none∧∀l,jT=some l→pM (pT m) l n=none):=by
   rcases rY with⟨l,r,e1,e2,e3⟩|⟨e1,e2⟩
   ·refine⟨some r,e3,fun H3 xG=>?_⟩
    cases hp:pT m r with
    | none =>
     have es:fO m (some r)=(⟨#[]⟩,none):=by simp -implicitDefEqProofs only[fO,hp]
     have gB:∀l,jT=some l→pM (pT m) l n=none:=fun l' e'=>by
      rw[e1]at e';cases e'
      exact As (by rw[iJ e2,hp]) (show i+1≤n by omega)
     rw[es]at xG ⊢
     exact⟨.inr ⟨xG,gB⟩,fun _=>⟨xG,gB⟩⟩
    | some y =>
     obtain⟨s,r'⟩:=y
     have es:fO m (some r)=(s,some r'):=by simp -implicitDefEqProofs only[fO,hp]
     rw[es]at xG ⊢
     exact⟨.inl ⟨l,r',e1,by rw[iJ e2,hp],xG⟩,fun h=>by cases h⟩
   ·refine⟨none,e1,fun H3 xG=>⟨.inr ⟨xG,e2⟩,fun _=>⟨xG,e2⟩⟩⟩
  have yJ:c<H2.length:=Ug.lt
  simp -implicitDefEqProofs only[aq,aj,op,ef,cl,sq,reduceIte,q5,q6,q7,q9,j1,j2,j3,j4,j5,S1,g9,Z4,ax]
  refine ae _ _ _ _ _ _ _ _ (nU Ug m hm) ?_
  rintro u H3⟨hu,xG,oT⟩
  cases hu
  have Z5:=lC.ma mD oT (fun t ht=>by omega)
  have cn:=all_map (enc:=eS) (n:=1) (fun _=>rfl) xs
  obtain⟨k4,H4,ha,hk4,Cn⟩:=kR (bytes:=16) (xs.map eS) [eS (fO m iY).1] Z5 (Nat.le_trans dN.1 oT.1) (by simp) (kS (by simp -implicitDefEqProofs only[List.length_map,List.length_cons,List.length_nil];omega))
  have A8:gK H3 16 kk (xs.map eS) [[.str (fO m iY).1]]=some (.sl k4 ((xs++[(fO m iY).1]).map eS),H4):=by rw[List.map_append];exact ha
  have oO:gx k4 (xs++[(fO m iY).1]):=fun e=>absurd e (uJ ha (by simp))
  have hF:bl (fun c=>∃e,kk=.own c e) H3 H4:=wZ.ma Cn
  have hcn:¬ ∃e,kk=.own c e:=fun ⟨e,he⟩=>by have:=lC.own mD he;omega
  have VC:RD H4 c (fO m iY).2:=by
   obtain⟨k,rest,e,h1,h2⟩:=xG.at_
   exact⟨k,rest,e,hF.get h1 hcn,h2⟩
  have xJ:bl (fun b=>b=c) H1 H4:=(dN.trans oT fun b hb=>.inl hb).trans hF fun b ⟨e,he⟩=>.inr (lC.own mD he)
  obtain⟨oU,xK⟩:=bR H4 VC
  obtain⟨k5,abv,e5,d5,hl5,hb5,ho5,VD⟩:=VC.at_
  by_cases oX:(fO m iY).2=none
  ·obtain⟨kb,kc⟩:=xK oX
   have e5n:e5≠0:=VD oX
   have e1:(e5 != 0)=true:=by simpa using e5n
   simp -implicitDefEqProofs only[op,ef,cl,sq,reduceIte,q5,q6,q7,q9,j1,j2,j3,j4,j5,S1,g9,cn,A8,d5,e1,dr]
   exact .i ⟨k4,xs++[(fO m iY).1],rfl,oO,.inr ⟨kb,kc⟩,xJ⟩
  ·have e50:e5=0:=by
    cases hs:(fO m iY).2 with
    | none=>exact absurd hs oX
    | some l=>exact(ho5 l hs).1
   subst e50
   have e1:((0:Int) != 0)=false:=rfl
   simp -implicitDefEqProofs only[op,ef,cl,sq,reduceIte,q5,q6,q7,q9,j1,j2,j3,j4,j5,S1,g9,Z4,cn,A8,d5,e1,qc]
   exact⟨i+1,by omega,.i ⟨k4,xs++[(fO m iY).1],rfl,hk4,oO,by simp[Bv],oU,xJ⟩,rfl,ax⟩
 rintro R H2⟨kk,xs,g9,mF,rY,dN⟩
 have Kq:=hf.trans dN fun b hb=>.inl hb
 rw[qI]
 rcases rY with⟨l,r,e1,e2,e3⟩|⟨e1,e2⟩
 ·obtain⟨k2,d2,_,_⟩:=e3.ok
  have er:stM (pT m) n jT=(xs,some r):=by rw[e1];simp -implicitDefEqProofs only[stM,e2]
  rw[er]
  simp -implicitDefEqProofs only[aq,aj,op,ef,cl,sq,reduceIte,q5,q6,q7,q9,j1,j2,j3,j4,j5,S1,g9,d2]
  exact⟨kk,mF,rfl,e3,Kq⟩
 ·obtain⟨k2,e9,e5,d2,hl2,kc,VD⟩:=e1.bad
  have Uh:stM (pT m) n jT=([],none):=by
   cases jT with
   | none=>rfl
   | some l=>simp -implicitDefEqProofs only[stM,e2 l rfl]
  rw[Uh]
  have Mf:(e5 != 0)=true:=by simpa using VD
  have yJ:=aW d2
  simp -implicitDefEqProofs only[aq,aj,op,ef,cl,sq,reduceIte,q5,q6,q7,q9,j1,j2,j3,j4,j5,S1,d2,Mf,yJ,S2]
  exact⟨.nil,fun _=>rfl,rfl,RD.Vx (bT yJ) xF Hc VD,Kq.set (.inl rfl) _⟩
def rR (l:List Nat):Option (Nm×List Nat):=match pT 65535 l with
 | none=>none
 | some (k,r)=>match pN 8 r with
  | none=>none
  | some (v,r')=>some ((k,v),r')
def AD (xs:List Nm):List (ByteArray×T):=xs.foldl (fun es x=>cq es x.1 (.int .u64 x.2)) []
def AE (xs:List Nm)(k:ByteArray):Nat:=xs.foldl (fun v x=>if x.1=k then x.2 else v) 0
theorem xB (xs:List Nm)(x:Nm):AD (xs++[x])=cq (AD xs) x.1 (.int .u64 x.2):=by simp[AD]
theorem GL (xs:List Nm)(x:Nm)(k:ByteArray):AE (xs++[x]) k=if x.1=k then x.2 else AE xs k:=by simp[AE]
def nx {α:Type}(p:List Nat→Option (α×List Nat)):Option (List Nat)→Option (List Nat)
 | none=>none
 | some l=>match p l with
  | none=>none
  | some (_,r)=>some r
def Kr {α:Type}(p:List Nat→Option (α×List Nat))(n:Nat):Option (List Nat)→Option (List α×List Nat)
 | none=>none
 | some l=>pM p l n
theorem Z6 (st:Option (List Nat)):nx rR st=(eg 8 (fO 65535 st).2).2∧∀l x r,st=some l→rR l=some (x,r)→(fO 65535 st).1=x.1∧(eg 8 (fO 65535 st).2).1=x.2:=by
 cases st with
 | none=>exact⟨rfl,fun l x r h=>by cases h⟩
 | some l =>
  cases h1:pT 65535 l with
  | none =>
   have e:fO 65535 (some l)=(⟨#[]⟩,none):=by simp -implicitDefEqProofs only[fO,h1]
   have e2:rR l=none:=by simp -implicitDefEqProofs only[rR,h1]
   rw[e]
   exact⟨by simp -implicitDefEqProofs only[nx,e2];rfl,fun l' x r h h'=>by cases h;rw[e2]at h';cases h'⟩
  | some y =>
   obtain⟨k,r⟩:=y
   have e:fO 65535 (some l)=(k,some r):=by simp -implicitDefEqProofs only[fO,h1]
   rw[e]
   cases h2:pN 8 r with
   | none =>
    have e2:rR l=none:=by simp -implicitDefEqProofs only[rR,h1,h2]
    have e3:eg 8 (some r)=(0,none):=by simp -implicitDefEqProofs only[eg,h2]
    exact⟨by simp -implicitDefEqProofs only[nx,e2,e3],fun l' x r h h'=>by cases h;rw[e2]at h';cases h'⟩
   | some z =>
    obtain⟨v,r'⟩:=z
    have e2:rR l=some ((k,v),r'):=by simp -implicitDefEqProofs only[rR,h1,h2]
    have e3:eg 8 (some r)=(v,some r'):=by simp -implicitDefEqProofs only[eg,h2]
    refine⟨by simp -implicitDefEqProofs only[nx,e2,e3],fun l' x r h h'=>?_⟩
    cases h
    rw[e2]at h'
    simp -implicitDefEqProofs only[Option.some.injEq,Prod.mk.injEq]at h'
    obtain⟨rfl,rfl⟩:=h'
    exact⟨rfl,by rw[e3]⟩
def rS {α:Type}(p:List Nat→Option (α×List Nat))(st:Option (List Nat)):Option (List α×List Nat):=match st with
 | none=>none
 | some l=>match pC 2147483647 l with
  | none=>none
  | some (n,r)=>pM p r n
theorem GM {α:Type}(p:List Nat→Option (α×List Nat))(st:Option (List Nat)):∃n jT,n=(vC 2147483647 st).1∧jT=(vC 2147483647 st).2∧n≤2147483647∧(jT=none→n=0)∧rS p st=Kr p n jT:=by
 cases st with
 | none=>exact⟨0,none,rfl,rfl,by decide,fun _=>rfl,rfl⟩
 | some l =>
  cases hp:pC 2147483647 l with
  | none =>
   have:vC 2147483647 (some l)=(0,none):=by simp -implicitDefEqProofs only[vC,hp]
   rw[this]
   exact⟨0,none,rfl,rfl,by decide,fun _=>rfl,by simp -implicitDefEqProofs only[rS,hp,Kr]⟩
  | some x =>
   obtain⟨v,r⟩:=x
   have:vC 2147483647 (some l)=(v,some r):=by simp -implicitDefEqProofs only[vC,hp]
   rw[this]
   exact⟨v,some r,rfl,rfl,(lN hp).2,(fun h=>by cases h),by simp -implicitDefEqProofs only[rS,hp,Kr]⟩
theorem xA.step {α:Type}{p:List Nat→Option (α×List Nat)}{H:af}{c n i:Nat}{jT:Option (List Nat)}{xs:List α}(h:xA p H c n jT i xs)(hi:i<n):∃iY,RD H c iY∧∀H3 Ui x,RD H3 c Ui→(∀l,iY=some l→Ui=nx p (some l)∧∀y r,p l=some (y,r)→x=y)→(iY=none→Ui=none)→xA p H3 c n jT (i+1) (xs++[x]):=by
 rcases h with⟨l,r,e1,e2,e3⟩|⟨e1,e2⟩
 ·refine⟨some r,e3,fun H3 Ui x xG hs _=>?_⟩
  obtain⟨h1,h2⟩:=hs r rfl
  unfold nx at h1
  cases hp:p r with
  | none =>
   simp -implicitDefEqProofs only[hp]at h1
   subst h1
   exact .inr ⟨xG,fun l' e'=>by
    rw[e1]at e';cases e'
    exact As (by rw[iJ e2,hp]) (show i+1≤n by omega)⟩
  | some y =>
   obtain⟨y,r'⟩:=y
   simp -implicitDefEqProofs only[hp]at h1
   have:=h2 y r' hp
   subst h1;subst this
   exact .inl ⟨l,r',e1,by rw[iJ e2,hp],xG⟩
 ·refine⟨none,e1,fun H3 Ui x xG _ hn=>?_⟩
  have:=hn rfl
  subst this
  exact .inr ⟨xG,e2⟩
theorem xA.wf {α:Type}{p:List Nat→Option (α×List Nat)}{H:af}{c n i:Nat}{jT:Option (List Nat)}{xs:List α}(h:xA p H c n jT i xs):∃iY,RD H c iY∧(iY=none→∀l,jT=some l→pM p l n=none):=by
 rcases h with⟨l,r,e1,e2,e3⟩|⟨e1,e2⟩
 ·exact⟨some r,e3,fun h=>by cases h⟩
 ·exact⟨none,e1,fun _=>e2⟩
theorem xA.end_ {α:Type}{p:List Nat→Option (α×List Nat)}{H:af}{c n:Nat}{st jT:Option (List Nat)}{xs:List α}(h:xA p H c n jT n xs)(hp:rS p st=Kr p n jT):(∃r,rS p st=some (xs,r)∧RD H c (some r))∨(rS p st=none∧RD H c none):=by
 rw[hp]
 rcases h with⟨l,r,e1,e2,e3⟩|⟨e1,e2⟩
 ·exact .inl ⟨r,by rw[e1];exact e2,e3⟩
 ·refine .inr ⟨?_,e1⟩
  cases jT with
  | none=>rfl
  | some l=>exact e2 l rfl
def OZ (c:Nat)(st:Option (List Nat))(H:af):Out→af→Prop:=fun o H'=>∃kk xs mb,o=.val (.bN [.sl kk (xs.map eW),.map mb])∧H'[mb]?=some (.map (ba T.str (AD xs)))∧H.length≤mb∧bl (fun b=>b=c) H H'∧((∃r,rS rR st=some (xs,r)∧RD H' c (some r))∨(rS rR st=none∧RD H' c none))
set_option maxHeartbeats 1000000 in
theorem Cf {H:af}{c:Nat}{st:Option (List Nat)}(h:RD H c st):W env (.call 52 [.ptr c 0]) H (OZ c st H):=by
 have lc:=h.lt
 obtain⟨H1,vB⟩:∃H1,H1=H++[B.map []]:=⟨_,rfl⟩
 have ib:Ext H H1:=⟨_,vB⟩
 have Cu:=h.ext ib
 have d1:H1[H.length]?=some (.map (ba T.str (AD []))):=by rw[vB];exact aX rfl
 have l1:H1.length=H.length+1:=by rw[vB];simp
 refine W.bS rfl rfl rfl ?_
 simp -implicitDefEqProofs only[NG,op,ef,cl,sq,reduceIte,q5,q6,q7,q9,j1,j2,j3,j4,j5,S1]
 rw[←vB]
 refine ae _ _ _ _ _ _ _ _ (u3 Cu 2147483647 (by decide)) ?_
 rintro u H2⟨hu,hr,hf⟩
 cases hu
 obtain⟨n,jT,hn,Ce,PG,jf,Z7⟩:=GM rR st
 rw[←hn]
 rw[←Ce]at hr
 have d2:=hf.get d1 (by omega)
 have Kq:bl (fun b=>b=c) H H2:=(aA ib).trans hf fun b hb=>.inl hb
 have Mu:c<H2.length:=hr.lt
 have hl2:H1.length≤H2.length:=hf.1
 have Uf:xA rR H2 c n jT 0 []:=by
  cases jT with
  | none=>exact .inr ⟨hr,fun l h=>by cases h⟩
  | some l=>exact .inl ⟨l,l,rfl,rfl,hr⟩
 simp -implicitDefEqProofs only[op,ef,cl,sq,reduceIte,q5,q6,q7,q9,j1,j2,j3,j4,j5,S1]
 refine W.gu 0 [(0,_),(5,_)] (fun (i:Nat) R H'=>At H' (fun H'=>∃kk xs,R 4=.sl kk (xs.map eW)∧lC H2.length H' kk∧xs.length=i∧H'[H.length]?=some (.map (ba T.str (AD xs)))∧xA rR H' c n jT i xs∧bl (fun b=>b=c) H H'∧H2.length≤H'.length)∧R 6=.int .i64 ((n-i:Nat):Int)∧i≤n) (fun i=>n-i) 0
  (fun R H'=>At H' (fun H'=>∃kk xs,R 4=.sl kk (xs.map eW)∧H'[H.length]?=some (.map (ba T.str (AD xs)))∧xA rR H' c n jT n xs∧bl (fun b=>b=c) H H')) ⟨.i ⟨.nil,[],rfl,iE _ _,rfl,d2,Uf,Kq,Nat.le_refl _⟩,rfl,Nat.zero_le _⟩ ?_ ?_
 ·rintro i R H3⟨⟨kk,xs,g4,mD,Bv,d3,rY,oT,hl3⟩,g6,hi⟩
  by_cases ax:i<n
  rotate_left
  ·have nk:i=n:=by omega
   subst nk
   have e:decide (((i-i:Nat):Int)>0)=false:=by simp
   simp -implicitDefEqProofs only[aq,aj,op,ef,cl,sq,reduceIte,q5,q6,q7,q9,j1,j2,j3,j4,j5,S1,g4,g6,e,dr]
   exact .i ⟨kk,xs,rfl,d3,rY,oT⟩
  obtain⟨Z8,Uj,oX⟩:=rY.wf
  have e:decide (((n-i:Nat):Int)>0)=true:=by simp;omega
  simp -implicitDefEqProofs only[aq,aj,op,ef,cl,sq,reduceIte,q5,q6,q7,q9,j1,j2,j3,j4,j5,S1,g4,g6,e]
  refine ae _ _ _ _ _ _ _ _ (LX Uj) ?_
  rintro u VE⟨rfl,er,hu,LY⟩
  cases hu
  by_cases hw:Z8=none
  ·have GN:¬er=0:=fun h0=>(LY.1 h0) hw
   have e1:(er==0)=false:=by simpa using GN
   simp -implicitDefEqProofs only[op,ef,cl,sq,reduceIte,q5,q6,q7,q9,j1,j2,j3,j4,j5,S1,e1,g4,dr]
   refine .i ⟨kk,xs,rfl,d3,.inr ⟨by rw[←hw];exact Uj,oX hw⟩,oT⟩
  have GN:er=0:=LY.2 hw
  subst GN
  obtain⟨iY,uw,bR⟩:=rY.step ax
  have yJ:c<VE.length:=uw.lt
  have e1:((0:Int)==0)=true:=rfl
  simp -implicitDefEqProofs only[op,ef,cl,sq,reduceIte,q5,q6,q7,q9,j1,j2,j3,j4,j5,S1,e1]
  refine ae _ _ _ _ _ _ _ _ (nU uw 65535 (by decide)) ?_
  rintro u H4⟨hu,VC,xJ⟩
  cases hu
  simp -implicitDefEqProofs only[op,ef,cl,sq,reduceIte,q5,q6,q7,q9,j1,j2,j3,j4,j5,S1]
  refine ae _ _ _ _ _ _ _ _ (OW VC) ?_
  rintro u H5⟨hu,hr5,To⟩
  cases hu
  obtain⟨s1,s2⟩:=Z6 iY
  obtain⟨x,hx⟩:∃x:Nm,x=((fO 65535 iY).1,(eg 8 (fO 65535 iY).2).1):=⟨_,rfl⟩
  have x1:(fO 65535 iY).1=x.1:=by rw[hx]
  have x2:(eg 8 (fO 65535 iY).2).1=x.2:=by rw[hx]
  rw[x1,x2]
  have Uk:=xJ.trans To fun b hb=>.inl hb
  obtain⟨H6,J7⟩:∃H6,H6=H5++[B.cells (eW x)]:=⟨_,rfl⟩
  have xo:Ext H5 H6:=⟨_,J7⟩
  have d6:H6[H5.length]?=some (.cells (eW x)):=by rw[J7];exact aX rfl
  have GO:bl (fun b=>b=c) VE H6:=Uk.ext xo
  have Ks:=lC.ma mD GO (fun t ht=>by omega)
  have l5:VE.length≤H5.length:=Uk.1
  have m6:=GO.get d3 (by omega)
  have cn:=all_map (enc:=eW) (n:=2) (fun _=>rfl) xs
  obtain⟨k7,H7,ha,hk7,JW⟩:=kR (bytes:=24) (xs.map eW) [eW x] Ks (Nat.le_trans hl3 GO.1) (by simp) (kS (by simp -implicitDefEqProofs only[List.length_map,List.length_cons,List.length_nil];omega))
  have A8:gK H6 24 kk (xs.map eW) [[.str x.1,.int .u64 x.2]]=some (.sl k7 ((xs++[x]).map eW),H7):=by rw[List.map_append];exact ha
  have m7:=JW.cells Ks m6 (by simp)
  have d7:=JW.cells Ks d6 (by simp)
  have l7:=aW m7
  obtain⟨H8,GC⟩:∃H8,H8=H7.set H.length (.map (ba T.str (AD (xs++[x])))):=⟨_,rfl⟩
  have Ul:=GC
  rw[xB]at Ul
  have hF7:bl (fun b=>b=c) H H7:=(oT.trans GO fun b hb=>.inl hb).trans (wZ.ma JW) fun b ⟨e,he⟩=>.inr (by have:=lC.own mD he;omega)
  have hF8:bl (fun b=>b=c) H H8:=by rw[GC];exact hF7.set (.inr (Nat.le_refl _)) _
  have r8:RD H8 c (eg 8 (fO 65535 iY).2).2:=by
   obtain⟨k,rest,e,h1,h2⟩:=(hr5.ext xo).at_
   have h3:=JW.cells Ks h1 (by simp)
   exact⟨k,rest,e,by rw[GC,bh (by omega)];exact h3,h2⟩
  have Z9:lC H2.length H8 k7:=by rw[GC];exact hk7.set m7 (by simp) _
  have pm8:=bR H8 (eg 8 (fO 65535 iY).2).2 x r8 (fun l hl=>⟨by rw[←s1,hl],fun y r hy=>by
   obtain⟨y1,y2⟩:=s2 l y r hl hy
   rw[hx,y1,y2]⟩) (fun hl=>by rw[hl];rfl)
  have wd:IntKind.i64.wrap (((n-i:Nat):Int)-1)=((n-(i+1):Nat):Int):=by rw[wrap64 (by omega)];omega
  simp -implicitDefEqProofs only[eW]at J7 d6 d7
  simp -implicitDefEqProofs only[op,ef,cl,sq,reduceIte,q5,q6,q7,q9,j1,j2,j3,j4,j5,S1,S2]
  rw[←J7]
  simp -implicitDefEqProofs only[op,ef,cl,sq,reduceIte,q5,q6,q7,q9,j1,j2,j3,j4,j5,S1,g4,g6,d6,d7,cn,A8,m7,l7,wd]
  rw[←Ul]
  exact⟨i+1,by omega,.i ⟨k7,xs++[x],rfl,Z9,by simp[Bv],by rw[GC];exact bT l7,pm8,hF8,by rw[GC,List.length_set];have:=JW.len;have:=GO.1;omega⟩,rfl,ax⟩
 rintro R H3⟨kk,xs,g4,d3,rY,oT⟩
 simp -implicitDefEqProofs only[aq,aj,op,ef,cl,sq,reduceIte,q5,q6,q7,q9,j1,j2,j3,j4,j5,S1,g4]
 exact⟨kk,xs,H.length,rfl,d3,Nat.le_refl _,oT,rY.end_ Z7⟩
def pF (l:List Nat):Option (Kd×List Nat):=match pT 65535 l with
 | none=>none
 | some (k,r1)=>match pN 8 r1 with
  | none=>none
  | some (v,r2)=>match pT 65535 r2 with
   | none=>none
   | some (w,r3)=>match CG 1024 65535 r3 with
    | none=>none
    | some (ks,r4)=>some (⟨k,v,w,.arg,ks,-1⟩,r4)
def VF (st:Option (List Nat)):=fO 65535 st
def VG (st:Option (List Nat)):=eg 8 (VF st).2
def Um (st:Option (List Nat)):=fO 65535 (VG st).2
def Kt (st:Option (List Nat)):=o6 1024 65535 (Um st).2
theorem Un (st:Option (List Nat)):nx pF st=(Kt st).2∧(st=none→(Kt st).2=none)∧∀l x r,st=some l→pF l=some (x,r)→(VF st).1=x.key∧(VG st).1=x.id∧(Um st).1=x.value∧(Kt st).1=x.keys∧x.kk=.arg∧x.bf=-1:=by
 have n1:eg 8 none=(0,none):=rfl
 have n2:fO 65535 none=(⟨#[]⟩,none):=rfl
 have n3:o6 1024 65535 none=([],none):=rfl
 cases st with
 | none=>exact⟨rfl,fun _=>rfl,fun l x r h=>by cases h⟩
 | some l =>
  unfold Kt Um VG VF
  cases h1:pT 65535 l with
  | none =>
   have e:fO 65535 (some l)=(⟨#[]⟩,none):=by simp -implicitDefEqProofs only[fO,h1]
   have e2:pF l=none:=by simp -implicitDefEqProofs only[pF,h1]
   rw[e]
   exact⟨by simp -implicitDefEqProofs only[nx,e2,n1,n2,n3],(fun h=>by cases h),fun l' x r h h'=>by cases h;rw[e2]at h';cases h'⟩
  | some y =>
   obtain⟨k,r1⟩:=y
   have e:fO 65535 (some l)=(k,some r1):=by simp -implicitDefEqProofs only[fO,h1]
   rw[e]
   cases h2:pN 8 r1 with
   | none =>
    have e2:pF l=none:=by simp -implicitDefEqProofs only[pF,h1,h2]
    have e3:eg 8 (some r1)=(0,none):=by simp -implicitDefEqProofs only[eg,h2]
    exact⟨by simp -implicitDefEqProofs only[nx,e2,e3,n1,n2,n3],(fun h=>by cases h),fun l' x r h h'=>by cases h;rw[e2]at h';cases h'⟩
   | some z =>
    obtain⟨v,r2⟩:=z
    have e3:eg 8 (some r1)=(v,some r2):=by simp -implicitDefEqProofs only[eg,h2]
    simp -implicitDefEqProofs only[e3]
    cases h3:pT 65535 r2 with
    | none =>
     have e2:pF l=none:=by simp -implicitDefEqProofs only[pF,h1,h2,h3]
     have e4:fO 65535 (some r2)=(⟨#[]⟩,none):=by simp -implicitDefEqProofs only[fO,h3]
     exact⟨by simp -implicitDefEqProofs only[nx,e2,e4,n3],(fun h=>by cases h),fun l' x r h h'=>by cases h;rw[e2]at h';cases h'⟩
    | some w =>
     obtain⟨w,r3⟩:=w
     have e4:fO 65535 (some r2)=(w,some r3):=by simp -implicitDefEqProofs only[fO,h3]
     simp -implicitDefEqProofs only[e4]
     cases h4:CG 1024 65535 r3 with
     | none =>
      have e2:pF l=none:=by simp -implicitDefEqProofs only[pF,h1,h2,h3,h4]
      have e5:o6 1024 65535 (some r3)=([],none):=by simp -implicitDefEqProofs only[o6,h4]
      exact⟨by simp -implicitDefEqProofs only[nx,e2,e5],(fun h=>by cases h),fun l' x r h h'=>by cases h;rw[e2]at h';cases h'⟩
     | some q =>
      obtain⟨ks,r4⟩:=q
      have e2:pF l=some (⟨k,v,w,.arg,ks,-1⟩,r4):=by simp -implicitDefEqProofs only[pF,h1,h2,h3,h4]
      have e5:o6 1024 65535 (some r3)=(ks,some r4):=by simp -implicitDefEqProofs only[o6,h4]
      refine⟨by simp -implicitDefEqProofs only[nx,e2,e5],(fun h=>by cases h),fun l' x r h h'=>?_⟩
      cases h
      rw[e2]at h'
      simp -implicitDefEqProofs only[Option.some.injEq,Prod.mk.injEq]at h'
      obtain⟨rfl,rfl⟩:=h'
      simp -implicitDefEqProofs only[e5]
      exact⟨trivial,trivial,trivial,trivial,trivial,trivial⟩
def u4 (now:Int)(L:List Nm)(x:Kd):Kd:={ x with bf:=if x.id<AE L x.key then now else -1 }
def pH (l:List Nat):Option (Nat×List Nat):=match pN 4 l with
 | none=>none
 | some (f,r1)=>match pN 1 r1 with
  | none=>none
  | some (k,r2)=>match pN 8 r2 with
   | none=>none
   | some (g,r3)=>if f=1918987632∧k=1∧1≤g∧g≤9223372036854775807 then some (g,r3)else none
def pR (l:List Nat):Option (Nat×List Nm×List Kd):=match pH l with
 | none=>none
 | some (g,r3)=>match rS rR (some r3)with
  | none=>none
  | some (L,r4)=>match rS pF (some r4)with
   | none=>none
   | some (K,r5)=>if r5=[]then some (g,L,K)else none
theorem stH (l:List Nat):if (eg 4 (some l)).1=1918987632∧(eg 1 (eg 4 (some l)).2).1=1∧1≤(eg 8 (eg 1 (eg 4 (some l)).2).2).1∧(eg 8 (eg 1 (eg 4 (some l)).2).2).1≤9223372036854775807 then ∃r,pH l=some ((eg 8 (eg 1 (eg 4 (some l)).2).2).1,r)∧(eg 8 (eg 1 (eg 4 (some l)).2).2).2=some r else pH l=none:=by
 have n1:eg 8 none=(0,none):=rfl
 have n2:eg 1 none=(0,none):=rfl
 cases h1:pN 4 l with
 | none =>
  have e:eg 4 (some l)=(0,none):=by simp -implicitDefEqProofs only[eg,h1]
  rw[e,if_neg (fun h=>by have:=h.1;cases this)]
  simp -implicitDefEqProofs only[pH,h1]
 | some x =>
  obtain⟨f,r1⟩:=x
  have e:eg 4 (some l)=(f,some r1):=by simp -implicitDefEqProofs only[eg,h1]
  rw[e]
  simp only
  cases h2:pN 1 r1 with
  | none =>
   have e2:eg 1 (some r1)=(0,none):=by simp -implicitDefEqProofs only[eg,h2]
   rw[e2,if_neg (fun h=>by have:=h.2.1;cases this)]
   simp -implicitDefEqProofs only[pH,h1,h2]
  | some y =>
   obtain⟨k,r2⟩:=y
   have e2:eg 1 (some r1)=(k,some r2):=by simp -implicitDefEqProofs only[eg,h2]
   rw[e2]
   simp only
   cases h3:pN 8 r2 with
   | none =>
    have e3:eg 8 (some r2)=(0,none):=by simp -implicitDefEqProofs only[eg,h3]
    rw[e3,if_neg (fun h=>by have:=h.2.2.1;simp at this)]
    simp -implicitDefEqProofs only[pH,h1,h2,h3]
   | some z =>
    obtain⟨g,r3⟩:=z
    have e3:eg 8 (some r2)=(g,some r3):=by simp -implicitDefEqProofs only[eg,h3]
    rw[e3]
    simp only
    by_cases hc:f=1918987632∧k=1∧1≤g∧g≤9223372036854775807
    ·rw[if_pos hc]
     exact⟨r3,by simp -implicitDefEqProofs only[pH,h1,h2,h3];rw[if_pos hc],rfl⟩
    ·rw[if_neg hc]
     simp -implicitDefEqProofs only[pH,h1,h2,h3];rw[if_neg hc]
theorem AF (xs:List Nm)(k:ByteArray):(ah (AD xs) k=none∧AE xs k=0)∨ah (AD xs) k=some (.int .u64 (AE xs k)):=by
 have h:∀n,n≤xs.length→(ah (AD (xs.take n)) k=none∧AE (xs.take n) k=0)∨ah (AD (xs.take n)) k=some (.int .u64 (AE (xs.take n) k)):=by
  intro n
  induction n with
  | zero=>exact fun _=>.inl ⟨rfl,rfl⟩
  | succ n ih =>
   intro hn
   obtain⟨x,hx⟩:=cB (l:=xs) (i:=n) (by omega)
   rw[fJ hx,xB,GL,bn]
   by_cases e:k=x.1
   ·rw[if_pos e,if_pos e.symm];exact .inr rfl
   ·rw[if_neg e,if_neg (fun h=>e h.symm)];exact ih (by omega)
 have:=h xs.length (Nat.le_refl _)
 rwa[List.take_length]at this
theorem O0 {l r:List Nat}{x:Kd}(h:pF l=some (x,r)):x.kk=.arg∧x.keys.length≤1024:=by
 have hs:=(Un (some l)).2.2 l x r rfl h
 refine⟨hs.2.2.2.2.1,?_⟩
 rw[←hs.2.2.2.1]
 unfold Kt
 generalize (Um (some l)).2=st
 cases st with
 | none=>exact Nat.zero_le _
 | some r3 =>
  unfold o6
  simp only
  cases h4:CG 1024 65535 r3 with
  | none=>exact Nat.zero_le _
  | some q =>
   obtain⟨ks,r4⟩:=q
   simp only
   unfold CG at h4
   cases h5:pC 1024 r3 with
   | none=>rw[h5]at h4;cases h4
   | some y =>
    obtain⟨n,r5⟩:=y
    rw[h5]at h4
    rw[uV h4]
    exact(lN h5).2
theorem O1 {α:Type}{p:List Nat→Option (α×List Nat)}{Q:α→Prop}(hQ:∀l x r,p l=some (x,r)→Q x){l r:List Nat}:∀{n:Nat} {xs:List α},pM p l n=some (xs,r)→∀x∈xs,Q x
 | n,xs,h=>by
  induction n generalizing xs r with
  | zero=>simp -implicitDefEqProofs only[pM,Option.some.injEq,Prod.mk.injEq]at h;rw[←h.1];intro x hx;cases hx
  | succ n ih =>
   cases h1:pM p l n with
   | none=>simp -implicitDefEqProofs only[pM,h1]at h;cases h
   | some y =>
    obtain⟨ys,r1⟩:=y
    rw[iJ h1]at h
    cases h2:p r1 with
    | none=>rw[h2]at h;cases h
    | some z =>
     obtain⟨z,r2⟩:=z
     rw[h2]at h
     simp -implicitDefEqProofs only[Option.some.injEq,Prod.mk.injEq]at h
     rw[←h.1]
     intro x hx
     rcases List.mem_append.1 hx with hx|hx
     ·exact ih _ h1 x hx
     ·simp at hx;subst hx;exact hQ _ _ _ h2
theorem Ku {α:Type}{p:List Nat→Option (α×List Nat)}{Q:α→Prop}(hQ:∀l x r,p l=some (x,r)→Q x){st:Option (List Nat)}{xs:List α}{r:List Nat}(h:rS p st=some (xs,r)):∀x∈xs,Q x:=by
 unfold rS at h
 cases st with
 | none=>cases h
 | some l =>
  simp only at h
  cases h1:pC 2147483647 l with
  | none=>rw[h1]at h;cases h
  | some y =>
   obtain⟨n,r1⟩:=y
   rw[h1]at h
   exact O1 hQ h
def jO (l:List Nat):Prop:=4≤l.length∧dh 4 (gb (l.take (l.length-4)))=l.drop (l.length-4)
def LZ (l : List Nat)(now : Int)(H : af) : Out → af → Prop := fun o H' =>
  (¬bm now ∧ o = .val (.bN [.int .i64 0, .bV, .int .i64 1]) ∧ Ext H H') ∨
  (bm now ∧ ¬jO l ∧ o = .val (.bN [.int .i64 0, .bV, .int .i64 90]) ∧ Ext H H') ∨
  (bm now ∧ jO l ∧ pR (l.take (l.length - 4)) = none ∧ o = .val (.bN [.int .i64 0, .bV, .int .i64 2]) ∧ Ext H H') ∨
  (bm now ∧ jO l ∧ ∃g L K, pR (l.take (l.length - 4)) = some (g, L, K) ∧
    ((mI (K.map (u4 now L)) L ∧ ∃b F, o = .val (.bN [.int .i64 g, .ptr b.s 0, .int .i64 0]) ∧ mc H H' b (ga (K.map (u4 now L)) L) F K.length) ∨
     (¬mI (K.map (u4 now L)) L ∧ o = .val (.bN [.int .i64 0, .bV, .int .i64 2]) ∧ Ext H H')))
theorem tU {H0 H H':af}{c:Nat}(hx:Ext H0 H)(hf:bl (fun b=>b=c) H H')(hc:H0.length≤c):Ext H0 H' :=
 gC ((aA (F:=fun _=>False) hx).trans hf fun b hb=>.inr (by omega))
theorem Kv {l m:List Nat}(hl:dt l)(hm:dt m):xq l=xq m↔l=m:=⟨fun h=>by rw[←Gq hl,←Gq hm,h],fun h=>by rw[h]⟩
set_option maxHeartbeats 8000000 in
theorem y6 (k:SK)(l:List Nat)(hk:gx k l)(hb:dt l)(hl:l.length≤4294967296)(now:Int)(OP:jO l→∀g L K,pR (l.take (l.length-4))=some (g,L,K)→K.length≤8000000∧L.length≤8000000)(H:af) :
  W env (.call 17 [.sl k (l.map eB),.int .i64 now]) H (LZ l now H):=by
 refine W.bS rfl rfl rfl ?_
 by_cases ht:¬bm now
 ·have hd:now<0∨(¬now<0∧now>1099511627776):=by unfold bm at ht;omega
  rcases hd with h1|⟨h1,h2⟩
  ·simp -implicitDefEqProofs only[BN,op,ef,cl,sq,reduceIte,q5,q6,q7,q9,j1,j2,j3,j4,j5,S1,h1]
   exact .inl ⟨ht,rfl,Ext.rfl'⟩
  ·simp -implicitDefEqProofs only[BN,op,ef,cl,sq,reduceIte,q5,q6,q7,q9,j1,j2,j3,j4,j5,S1,h1,h2]
   exact .inl ⟨ht,rfl,Ext.rfl'⟩
 have ht:bm now:=Classical.not_not.1 ht
 have t1:¬now<0:=by unfold bm at ht;omega
 have t2:¬now>1099511627776:=by unfold bm at ht;omega
 by_cases hlen:l.length<4
 ·have w4:IntKind.i64.wrap ((l.length:Int)-4)=(l.length:Int)-4:=wrap64 (by omega)
  have e:decide ((l.length:Int)-4<0)=true:=by simp;omega
  simp -implicitDefEqProofs only[BN,op,ef,cl,sq,reduceIte,q5,q6,q7,q9,j1,j2,j3,j4,j5,S1,t1,t2,List.length_map,w4,e]
  exact .inr (.inl ⟨ht,fun h=>by have:=h.1;omega,rfl,Ext.rfl'⟩)
 obtain⟨n,hn⟩:∃n,n=l.length-4:=⟨_,rfl⟩
 have w4:IntKind.i64.wrap ((l.length:Int)-4)=(n:Int):=by rw[wrap64 (by omega)];omega
 have e:¬((n:Int)<0):=by omega
 have dF:=rA (k:=k) (l:=l) (n:=n) (by omega)
 have VB:=rB (k:=k) (l:=l) (n:=n) (by omega)
 have rZ:=OX (k:=k.cut l.length n l.length) (l:=l.drop n)
 have Nh:dt (l.take n):=hb.take n
 simp -implicitDefEqProofs only[BN,op,ef,cl,sq,reduceIte,q5,q6,q7,q9,j1,j2,j3,j4,j5,S1,t1,t2,List.length_map,w4,e,↓dF,↓VB,↓rZ]
 refine ae _ _ _ _ _ _ _ _ (GB _ (l.take n) Nh (by rw[List.length_take];omega) _) ?_
 rintro u H1⟨ib,hu⟩
 cases hu
 have ib:Ext H H1:=ib
 have O2:=OX (k:=.full) (l:=dh 4 (gb (l.take n)))
 have ha0:=xu (l.drop n)
 have Hc:=mK (l.drop n)
 have vN:(⟨((l.drop n).map UInt8.ofNat).toArray⟩:ByteArray)=xq (l.drop n):=rfl
 by_cases HE:jO l
 rotate_left
 ·have bF:¬xq (dh 4 (gb (l.take n)))=xq (l.drop n):=fun h=>HE ⟨by omega,by rw[←hn];exact(Kv (eH _ _) (hb.drop n)).1 h⟩
  simp -implicitDefEqProofs only[op,ef,cl,sq,reduceIte,q5,q6,q7,q9,j1,j2,j3,j4,j5,S1,↓O2,bF,ha0,Hc,vN]
  exact .inr (.inl ⟨ht,HE,rfl,ib⟩)
 have heq:xq (dh 4 (gb (l.take n)))=xq (l.drop n):=by have:=HE.2;rw[←hn]at this;rw[this]
 obtain⟨bd,Uo⟩:∃bd,bd=l.take n:=⟨_,rfl⟩
 have hq:l.take (l.length-4)=bd:=by rw[←hn,Uo]
 rw[hq]at OP
 have jV:bd.length≤4294967296:=by rw[Uo,List.length_take];omega
 rw[←Uo]at dF Nh O2
 have jJ:gx (k.cut l.length 0 n) bd:=fun e=>by
  have:k=.nil:=by
   cases k<;>simp -implicitDefEqProofs only[SK.cut]at e
   ·rfl
   ·cases e
   ·split at e<;>cases e
   ·split at e<;>cases e
  rw[Uo,hk this];simp
 rw[←Uo]at heq ⊢
 simp -implicitDefEqProofs only[op,ef,cl,sq,reduceIte,q5,q6,q7,q9,j1,j2,j3,j4,j5,S1,↓O2,heq,↓dF,ha0,Hc,vN]
 refine ae _ _ _ _ _ _ _ _ (OY _ bd jJ jV Nh _) ?_
 rintro u H2⟨xI,c,lh,hu,r2⟩
 cases hu
 have xI:Ext H H2:=ib.trans xI
 have hc:H.length≤c:=Nat.le_trans ib.len lh
 simp -implicitDefEqProofs only[op,ef,cl,sq,reduceIte,q5,q6,q7,q9,j1,j2,j3,j4,j5,S1]
 refine ae _ _ _ _ _ _ _ _ (Z2 r2) ?_
 rintro u H3⟨hu,r3,f3⟩
 cases hu
 have rN:=tU xI f3 hc
 simp -implicitDefEqProofs only[op,ef,cl,sq,reduceIte,q5,q6,q7,q9,j1,j2,j3,j4,j5,S1]
 refine ae _ _ _ _ _ _ _ _ (Z3 r3) ?_
 rintro u H4⟨hu,r4,f4⟩
 cases hu
 have xK:=tU rN f4 hc
 simp -implicitDefEqProofs only[op,ef,cl,sq,reduceIte,q5,q6,q7,q9,j1,j2,j3,j4,j5,S1]
 refine ae _ _ _ _ _ _ _ _ (OW r4) ?_
 rintro u H5⟨hu,r5,f5⟩
 cases hu
 have oY:=tU xK f5 hc
 have hH:=stH bd
 generalize (eg 8 (eg 1 (eg 4 (some bd)).2).2)=q8 at *
 generalize (eg 1 (eg 4 (some bd)).2).1=q1 at *
 generalize (eg 4 (some bd)).1=q4 at *
 have bad:∀{H':af},Ext H H'→pR bd=none→LZ l now H (.val (.bN [.int .i64 0,.bV,.int .i64 2])) H':=fun hx hp=>.inr (.inr (.inl ⟨ht,HE,by rw[hq];exact hp,rfl,hx⟩))
 by_cases c1:q4=1918987632
 rotate_left
 ·have d1:((q4:Int) != 1918987632)=true:=by simp;omega
  rw[if_neg (fun h=>c1 h.1)]at hH
  simp -implicitDefEqProofs only[op,ef,cl,sq,reduceIte,q5,q6,q7,q9,j1,j2,j3,j4,j5,S1,d1]
  exact bad oY (by simp -implicitDefEqProofs only[pR,hH])
 by_cases c2:q1=1
 rotate_left
 ·have d1:((q4:Int) != 1918987632)=false:=by simp;omega
  have d2:((q1:Int) != 1)=true:=by simp;omega
  rw[if_neg (fun h=>c2 h.2.1)]at hH
  simp -implicitDefEqProofs only[op,ef,cl,sq,reduceIte,q5,q6,q7,q9,j1,j2,j3,j4,j5,S1,d1,d2]
  exact bad oY (by simp -implicitDefEqProofs only[pR,hH])
 have d1:((q4:Int) != 1918987632)=false:=by simp;omega
 have d2:((q1:Int) != 1)=false:=by simp;omega
 by_cases c3:1≤q8.1
 rotate_left
 ·have d3:decide ((q8.1:Int)<1)=true:=by simp;omega
  rw[if_neg (fun h=>c3 h.2.2.1)]at hH
  simp -implicitDefEqProofs only[op,ef,cl,sq,reduceIte,q5,q6,q7,q9,j1,j2,j3,j4,j5,S1,d1,d2,d3]
  exact bad oY (by simp -implicitDefEqProofs only[pR,hH])
 have d3:decide ((q8.1:Int)<1)=false:=by simp;omega
 by_cases c4:q8.1≤9223372036854775807
 rotate_left
 ·have d4:decide ((q8.1:Int)>9223372036854775807)=true:=by simp;omega
  rw[if_neg (fun h=>c4 h.2.2.2)]at hH
  simp -implicitDefEqProofs only[op,ef,cl,sq,reduceIte,q5,q6,q7,q9,j1,j2,j3,j4,j5,S1,d1,d2,d3,d4]
  exact bad oY (by simp -implicitDefEqProofs only[pR,hH])
 have d4:decide ((q8.1:Int)>9223372036854775807)=false:=by simp;omega
 rw[if_pos ⟨c1,c2,c3,c4⟩]at hH
 obtain⟨rr,hH,hq8⟩:=hH
 rw[hq8]at r5
 simp -implicitDefEqProofs only[op,ef,cl,sq,reduceIte,q5,q6,q7,q9,j1,j2,j3,j4,j5,S1,d1,d2,d3,d4]
 refine ae _ _ _ _ _ _ _ _ (Cf r5) ?_
 rintro u H6⟨kL,L,mb,hu,dm,Hv,f6,hP⟩
 cases hu
 have xo:=tU oY f6 hc
 have Ml:mb≠c:=by have:=r5.lt;omega
 obtain⟨O3,r6,hL6⟩:∃O3,RD H6 c O3∧((∃r,O3=some r∧rS rR (some rr)=some (L,r))∨(O3=none∧rS rR (some rr)=none)):=by
  rcases hP with⟨r,h1,h2⟩|⟨h1,h2⟩
  ·exact⟨some r,h2,.inl ⟨r,rfl,h1⟩⟩
  ·exact⟨none,h2,.inr ⟨rfl,h1⟩⟩
 simp -implicitDefEqProofs only[op,ef,cl,sq,reduceIte,q5,q6,q7,q9,j1,j2,j3,j4,j5,S1]
 refine ae _ _ _ _ _ _ _ _ (u3 r6 2147483647 (by decide)) ?_
 rintro u H7⟨hu,r7,f7⟩
 cases hu
 have tO:=tU xo f7 hc
 obtain⟨m,jT,hm,Ce,aet,vN,Z7⟩:=GM pF O3
 rw[←hm]
 rw[←Ce]at r7
 have dm7:=f7.get dm Ml
 have lc7:c<H7.length:=r7.lt
 have Uf:xA pF H7 c m jT 0 []:=by
  cases jT with
  | none=>exact .inr ⟨r7,fun l h=>by cases h⟩
  | some l=>exact .inl ⟨l,l,rfl,rfl,r7⟩
 simp -implicitDefEqProofs only[op,ef,cl,sq,reduceIte,q5,q6,q7,q9,j1,j2,j3,j4,j5,S1]
 refine W.gu 0 [(1,_),(8,_),(11,_),(12,_),(13,_)] (fun (i:Nat) R H'=>At H' (fun H'=>∃kk xs,R 14=.sl kk ((xs.map (u4 now L)).map me)∧lC H7.length H' kk∧xs.length=i∧H'[mb]?=some (.map (ba T.str (AD L)))∧xA pF H' c m jT i xs∧bl (fun b=>b=c) H7 H')∧R 15=.int .i64 ((m-i:Nat):Int)∧i≤m) (fun i=>m-i) 0
  (fun R H'=>At H' (fun H'=>∃kk xs,R 14=.sl kk ((xs.map (u4 now L)).map me)∧xA pF H' c m jT m xs∧bl (fun b=>b=c) H7 H')) ⟨.i ⟨.nil,[],rfl,iE _ _,rfl,dm7,Uf,bl.refl _ _⟩,rfl,Nat.zero_le _⟩ ?_ ?_
 ·rintro i R H8⟨⟨kk,xs,sC,mD,Bv,d8,rY,Hz⟩,HF,hi⟩
  by_cases ax:i<m
  rotate_left
  ·have nk:i=m:=by omega
   subst nk
   have e:decide (((i-i:Nat):Int)>0)=false:=by simp
   simp -implicitDefEqProofs only[aq,aj,op,ef,cl,sq,reduceIte,q5,q6,q7,q9,j1,j2,j3,j4,j5,S1,sC,HF,e,dr]
   exact .i ⟨kk,xs,rfl,rY,Hz⟩
  obtain⟨Z8,Uj,oX⟩:=rY.wf
  have e:decide (((m-i:Nat):Int)>0)=true:=by simp;omega
  simp -implicitDefEqProofs only[aq,aj,op,ef,cl,sq,reduceIte,q5,q6,q7,q9,j1,j2,j3,j4,j5,S1,sC,HF,e]
  refine ae _ _ _ _ _ _ _ _ (LX Uj) ?_
  rintro u H8'⟨rfl,er,hu,LY⟩
  cases hu
  by_cases hw:Z8=none
  ·have GN:¬er=0:=fun h0=>(LY.1 h0) hw
   have e1:(er==0)=false:=by simpa using GN
   simp -implicitDefEqProofs only[op,ef,cl,sq,reduceIte,q5,q6,q7,q9,j1,j2,j3,j4,j5,S1,e1,sC,dr]
   refine .i ⟨kk,xs,rfl,.inr ⟨by rw[←hw];exact Uj,oX hw⟩,Hz⟩
  have GN:er=0:=LY.2 hw
  subst GN
  obtain⟨iY,uw,bR⟩:=rY.step ax
  have yJ:c<H8'.length:=uw.lt
  have e1:((0:Int)==0)=true:=rfl
  obtain⟨s1,s0,s2⟩:=Un iY
  simp -implicitDefEqProofs only[op,ef,cl,sq,reduceIte,q5,q6,q7,q9,j1,j2,j3,j4,j5,S1,e1]
  refine ae _ _ _ _ _ _ _ _ (nU uw 65535 (by decide)) ?_
  rintro u H9⟨hu,r9,f9⟩
  cases hu
  simp -implicitDefEqProofs only[op,ef,cl,sq,reduceIte,q5,q6,q7,q9,j1,j2,j3,j4,j5,S1]
  refine ae _ _ _ _ _ _ _ _ (OW r9) ?_
  rintro u yZ⟨hu,Zl,f10⟩
  cases hu
  simp -implicitDefEqProofs only[op,ef,cl,sq,reduceIte,q5,q6,q7,q9,j1,j2,j3,j4,j5,S1]
  refine ae _ _ _ _ _ _ _ _ (nU Zl 65535 (by decide)) ?_
  rintro u GF⟨hu,Zm,f11⟩
  cases hu
  simp -implicitDefEqProofs only[op,ef,cl,sq,reduceIte,q5,q6,q7,q9,j1,j2,j3,j4,j5,S1]
  refine ae _ _ _ _ _ _ _ _ (Cd Zm 1024 65535 (by decide) (by decide)) ?_
  rintro u HD⟨VH,aev,hu,Tm,f12⟩
  cases hu
  have Tm:RD HD c (Kt iY).2:=Tm
  obtain⟨y,hy⟩:∃y:Kd,y=⟨(VF iY).1,(VG iY).1,(Um iY).1,.arg,(Kt iY).1,-1⟩:=⟨_,rfl⟩
  have y1:(fO 65535 iY).1=y.key:=by rw[hy];rfl
  have y2:(eg 8 (fO 65535 iY).2).1=y.id:=by rw[hy];rfl
  have y3:(fO 65535 (eg 8 (fO 65535 iY).2).2).1=y.value:=by rw[hy];rfl
  have y4:(o6 1024 65535 (fO 65535 (eg 8 (fO 65535 iY).2).2).2).1=y.keys:=by rw[hy];rfl
  rw[y1,y2,y3,y4]
  have Up:=((f9.trans f10 fun b hb=>.inl hb).trans f11 fun b hb=>.inl hb).trans f12 fun b hb=>.inl hb
  obtain⟨cs,ug⟩:∃cs,cs=[T.str y.key,.int .u64 y.id,.str y.value,.sl VH (y.keys.map eS)]:=⟨_,rfl⟩
  obtain⟨CF,Kw⟩:∃CF,CF=HD++[B.cells cs]:=⟨_,rfl⟩
  have pE:Ext HD CF:=⟨_,Kw⟩
  have d13:CF[HD.length]?=some (.cells cs):=by rw[Kw];exact aX rfl
  have Kx:bl (fun b=>b=c) H8' CF:=Up.ext pE
  have GP:=lC.ma mD Kx (fun t ht=>by omega)
  have VI:=Kx.get d8 Ml
  have hsy:me (u4 now L y)=[.str y.key,.int .u64 y.id,.str y.value,.sl .arg (y.keys.map eS),.int .i64 (if y.id<AE L y.key then now else -1)]:=by rw[hy];rfl
  have cn:=all_map (enc:=me) (n:=5) (fun _=>rfl) (xs.map (u4 now L))
  obtain⟨VJ,Kn,ha,O4,O5⟩:=kR (bytes:=72) ((xs.map (u4 now L)).map me) [me (u4 now L y)] GP (Nat.le_trans Hz.1 Kx.1) (by simp) (kS (by simp -implicitDefEqProofs only[List.length_map,List.length_cons,List.length_nil];omega))
  have Co:gK CF 72 kk ((xs.map (u4 now L)).map me) [me (u4 now L y)]=some (.sl VJ (((xs++[y]).map (u4 now L)).map me),Kn):=by
   rw[ha,List.map_append,List.map_append]
   have:([me (u4 now L y)].map fun c=>c.map T.erase)=[me (u4 now L y)]:=by rw[hsy];rfl
   rw[this];rfl
  rw[hsy]at Co
  have m14:=O5.cells GP VI (by simp)
  have O6:bl (fun b=>b=c) H7 Kn:=(Hz.trans Kx fun b hb=>.inl hb).trans (wZ.ma O5) fun b ⟨e,he⟩=>.inr (lC.own mD he)
  have r14:RD Kn c (Kt iY).2:=by
   obtain⟨k,rest,e,h1,h2⟩:=(Tm.ext pE).at_
   exact⟨k,rest,e,O5.cells GP h1 (by simp),h2⟩
  have O7:=bR Kn (Kt iY).2 y r14 (fun l hl=>⟨by rw[←s1,hl],fun z r hz=>by
   obtain⟨z1,z2,z3,z4,z5,z6⟩:=s2 l z r hl hz
   rw[hy,z1,z2,z3,z4,←z5,←z6]⟩) s0
  have wd:IntKind.i64.wrap (((m-i:Nat):Int)-1)=((m-(i+1):Nat):Int):=by rw[wrap64 (by omega)];omega
  rw[ug]at Kw d13
  simp -implicitDefEqProofs only[op,ef,cl,sq,reduceIte,q5,q6,q7,q9,j1,j2,j3,j4,j5,S1,S2]
  rw[←Kw]
  by_cases hs:y.id<AE L y.key
  ·have fb:(y.id:Int)<(AE L y.key:Int):=by omega
   have lT:ah (AD L) y.key=some (.int .u64 (AE L y.key)):=by
    rcases AF L y.key with⟨_,h0⟩|h0
    ·omega
    ·exact h0
   rw[if_pos hs]at Co
   simp -implicitDefEqProofs only[op,ef,cl,sq,reduceIte,q5,q6,q7,q9,j1,j2,j3,j4,j5,S1,sC,HF,d13,VI,fp,lT,fb,cn,Co,wd]
   exact⟨i+1,by omega,.i ⟨VJ,xs++[y],rfl,O4,by simp[Bv],m14,O7,O6⟩,rfl,ax⟩
  ·rw[if_neg hs]at Co
   rcases AF L y.key with⟨lT,h0⟩|lT
   ·have fb:¬((y.id:Int)<0):=by omega
    simp -implicitDefEqProofs only[op,ef,cl,sq,reduceIte,q5,q6,q7,q9,j1,j2,j3,j4,j5,S1,sC,HF,d13,VI,fp,lT,fb,cn,Co,wd]
    exact⟨i+1,by omega,.i ⟨VJ,xs++[y],rfl,O4,by simp[Bv],m14,O7,O6⟩,rfl,ax⟩
   ·have fb:¬((y.id:Int)<(AE L y.key:Int)):=by omega
    simp -implicitDefEqProofs only[op,ef,cl,sq,reduceIte,q5,q6,q7,q9,j1,j2,j3,j4,j5,S1,sC,HF,d13,VI,fp,lT,fb,cn,Co,wd]
    exact⟨i+1,by omega,.i ⟨VJ,xs++[y],rfl,O4,by simp[Bv],m14,O7,O6⟩,rfl,ax⟩
 rintro R H8⟨kk,K,sC,rY,Hz⟩
 have xy:=tU tO Hz hc
 obtain⟨Uq,r9,VK⟩:∃Uq,RD H8 c Uq∧((∃r,Uq=some r∧rS pF O3=some (K,r))∨(Uq=none∧rS pF O3=none)):=by
  rcases rY.end_ Z7 with⟨r,h1,h2⟩|⟨h1,h2⟩
  ·exact⟨some r,h2,.inl ⟨r,rfl,h1⟩⟩
  ·exact⟨none,h2,.inr ⟨rfl,h1⟩⟩
 simp -implicitDefEqProofs only[aq,aj,op,ef,cl,sq,reduceIte,q5,q6,q7,q9,j1,j2,j3,j4,j5,S1,sC]
 refine ae _ _ _ _ _ _ _ _ (Ue r9) ?_
 rintro u H9⟨rfl,er,hu,LY⟩
 cases hu
 by_cases hw:Uq=some []
 rotate_left
 ·have GN:¬er=0:=fun h0=>hw (LY.1 h0)
  have e1:(er != 0)=true:=by simpa using GN
  have hp:pR bd=none:=by
   unfold pR
   rw[hH]
   simp only
   rcases hL6 with⟨r,h1,h2⟩|⟨h1,h2⟩
   ·rw[h2]
    simp only
    rw[h1]at VK
    rcases VK with⟨r',h3,h4⟩|⟨h3,h4⟩
    ·rw[h4]
     simp only
     rw[if_neg (fun h=>hw (by rw[h3,h]))]
    ·rw[h4]
   ·rw[h2]
  simp -implicitDefEqProofs only[op,ef,cl,sq,reduceIte,q5,q6,q7,q9,j1,j2,j3,j4,j5,S1,e1]
  exact bad xy hp
 have GN:er=0:=LY.2 hw
 subst GN
 have e1:((0:Int) != 0)=false:=rfl
 have hp:pR bd=some (q8.1,L,K):=by
  unfold pR
  rw[hH]
  simp only
  rcases VK with⟨r',h3,h4⟩|⟨h3,h4⟩
  ·rw[hw]at h3
   cases h3
   rcases hL6 with⟨r,h1,h2⟩|⟨h1,h2⟩
   ·rw[h2]
    simp only
    rw[←h1,h4]
    simp -implicitDefEqProofs only[if_true]
   ·rw[h1]at h4;cases h4
  ·rw[hw]at h3;cases h3
 obtain⟨yD,gX⟩:=OP HE _ _ _ hp
 have hKk:∀x∈K,x.kk=.arg∧x.keys.length≤1024:=by
  rcases VK with⟨r',h3,h4⟩|⟨h3,h4⟩
  ·exact Ku (fun l x r h=>O0 h) h4
  ·rw[hw]at h3;cases h3
 have wg:IntKind.i64.wrap (q8.1:Int)=(q8.1:Int):=wrap64 (by omega)
 simp -implicitDefEqProofs only[op,ef,cl,sq,reduceIte,q5,q6,q7,q9,j1,j2,j3,j4,j5,S1,e1,sC]
 refine ae _ _ _ _ _ _ _ _ (ON kk kL (K.map (u4 now L)) L (by rw[List.length_map];exact yD) gX (fun x hx=>by
  obtain⟨z,hz,rfl⟩:=List.mem_map.1 hx
  have:=hKk z hz
  exact⟨fun e=>(by have h5:(u4 now L z).kk=z.kk:=rfl;rw[h5,this.1]at e;cases e),by show z.keys.length≤_;omega⟩) _) ?_
 rintro u yZ (⟨nZ,b,F,hu,VL⟩|⟨gB,hu,o3⟩)
 ·cases hu
  have e2:((0:Int) != 0)=false:=rfl
  simp -implicitDefEqProofs only[op,ef,cl,sq,reduceIte,q5,q6,q7,q9,j1,j2,j3,j4,j5,S1,e2,wg]
  refine .inr (.inr (.inr ⟨ht,HE,q8.1,L,K,by rw[hq];exact hp,.inl ⟨nZ,b,F,rfl,?_⟩⟩))
  rw[List.length_map]at VL
  exact⟨VL.at_,(aA xy).more VL.ma (fun c h=>h.elim),fun c iv=>by have:=VL.new c iv;have:=xy.len;omega⟩
 ·cases hu
  have e2:((1:Int) != 0)=true:=rfl
  simp -implicitDefEqProofs only[op,ef,cl,sq,reduceIte,q5,q6,q7,q9,j1,j2,j3,j4,j5,S1,e2]
  exact .inr (.inr (.inr ⟨ht,HE,q8.1,L,K,by rw[hq];exact hp,.inr ⟨gB,rfl,xy.trans o3⟩⟩))
structure qd where
 kind:Int
 id:Nat
 key:ByteArray
 pk:SK
 iK:List (ByteArray×ByteArray)
 kk:SK
 keys:List ByteArray
 now:Int
def eO (o:qd):List T:=[.int .i64 o.kind,.int .u64 o.id,.str o.key,.sl o.pk (o.iK.map eP),.sl o.kk (o.keys.map eS),.int .i64 o.now]
def y7 (o:qd):Prop:=gx o.kk o.keys∧o.keys.length≤1048576∧o.iK.length≤1048576∧o.id<18446744073709551616
open Classical in
noncomputable def rD (a:Ab)(n:Nat)(l:List (ByteArray×ByteArray))(ks:List ByteArray)(now:Int):Ab:=if lS n l ks∧bm now then a.put n l ks now else a
open Classical in
noncomputable def rE (a:Ab)(n:Nat)(now:Int):Ab:=if 65536≤n∧bm now then a.n9 n now else a
noncomputable def hG (a:Ab)(o:qd):Ab:=if o.kind=1 then rD a o.id o.iK o.keys o.now else if o.kind=2 then rE a o.id o.now else if o.kind=3 then a.yR (o.key,o.id)else a
noncomputable def gD (a:Ab)(l:List qd):Ab:=l.foldl hG a
def dn (l:List qd):Nat:=(l.map fun o=>o.iK.length).sum
theorem Cg (a:Ab)(l:List qd)(o:qd):gD a (l++[o])=hG (gD a l) o:=by simp[gD]
theorem GQ (l:List qd)(o:qd):dn (l++[o])=dn l+o.iK.length:=by simp[dn]
theorem GR (l:List qd)(i:Nat):dn (l.take i)≤dn l:=by
 have h:dn l=dn (l.take i)+dn (l.drop i):=by unfold dn;rw[←List.sum_append,←List.map_append,List.take_append_drop]
 omega
section
variable {Hs H:af} {b:Bk} {a:Ab} {F:Nat→Prop} {m:Nat}
def O8 (Hs H:af)(b:Bk)(a':Ab)(F:Nat→Prop)(m':Nat):Out→af→Prop:=fun o H'=>(∃t,o=.val t)∧∃F',mc Hs H' b a' F' m'∧bl F H H'∧HA F F' H H'
theorem mc.le (h:mc Hs H b a F m){m':Nat}(hm:m≤m'):mc Hs H b a F m':=⟨h.at_.le hm,h.ma,h.new⟩
theorem aab (n:Nat)(k k':SK)(l:List (ByteArray×ByteArray))(ks:List ByteArray)(now:Int)(h:mc Hs H b a F m)(hm:m+l.length≤8000000)(PA:ks.length≤8000000)(mF:gx k' ks) :
  W env (.call 23 [.ptr b.s 0,.int .u64 n,.sl k (l.map eP),.sl k' (ks.map eS),.int .i64 now]) H (O8 Hs H b (rD a n l ks now) F (m+l.length)):=by
 by_cases hc:lS n l ks∧bm now
 ·have e:rD a n l ks now=a.put n l ks now:=if_pos hc
  rw[e]
  refine W.use (ZG n k k' l ks now h.at_ hm mF hc.1 hc.2) fun o H' ⟨F',hu,ha,hf,hg⟩=>⟨⟨_,hu⟩,F',h.go ha hf hg,hf,hg⟩
 ·have e:rD a n l ks now=a:=if_neg hc
  rw[e]
  refine W.use (TL n k k' l ks now h.at_ (by omega) PA hc) fun o H' ⟨hu,hx⟩=>⟨⟨_,hu⟩,F,(h.ext hx).le (by omega),aA hx,HA.refl _ _ _⟩
theorem aac (n:Nat)(now:Int)(h:mc Hs H b a F m)(hm:m≤8000000):W env (.call 24 [.ptr b.s 0,.int .u64 n,.int .i64 now]) H (O8 Hs H b (rE a n now) F m):=by
 by_cases hc:65536≤n∧bm now
 ·have e:rE a n now=a.n9 n now:=if_pos hc
  rw[e]
  refine W.use (ZH n now h.at_ hm hc.1 hc.2) fun o H' ⟨D,_,_,hu,ha,hf⟩=>⟨⟨_,hu⟩,F,h.go' ha hf,hf,HA.refl _ _ _⟩
 ·have e:rE a n now=a:=if_neg hc
  rw[e]
  refine W.use (TX n now hc) fun o H' ⟨hu,hx⟩=>?_
  subst hx
  exact⟨⟨_,hu⟩,F,h,bl.refl _ _,HA.refl _ _ _⟩
theorem aad (k:ByteArray)(n:Nat)(h:mc Hs H b a F m)(hm:m≤7000000):W env (.call 25 [.ptr b.s 0,.str k,.int .u64 n]) H (O8 Hs H b (a.yR (k,n)) F m) :=
 W.use (TW k n h.at_ hm) fun o H' ⟨e,hu,ha,hf⟩=>⟨⟨_,hu⟩,F,h.go' ha hf,hf,HA.refl _ _ _⟩
end
theorem GS {l:List (ByteArray×ByteArray)}:∀c∈l.map eP,c.map T.erase=c:=fun c hc=>by
 obtain⟨x,_,rfl⟩:=List.mem_map.1 hc;rfl
theorem GU {l:List ByteArray}:∀c∈l.map eS,c.map T.erase=c:=fun c hc=>by
 obtain⟨x,_,rfl⟩:=List.mem_map.1 hc;rfl
theorem GV (k:SK)(ops:List qd)(ho:∀o∈ops,y7 o)(hp:dn ops≤2000000)(hl:ops.length≤8000000)(H:af) :
  W env (.call 9 [.sl k (ops.map eO)]) H (fun o H'=>∃b F,o=.val (.ptr b.s 0)∧mc H H' b (gD Ab.emp ops) F (dn ops)):=by
 refine W.bS rfl rfl rfl ?_
 simp -implicitDefEqProofs only[WK,op,ef,cl,sq,reduceIte,q5,q6,q7,q9,j1,j2,j3,j4,j5,S1]
 refine ae _ _ _ _ _ _ _ _ (TG _) ?_
 rintro u H1⟨ib,b,F,hu,hA,hF⟩
 cases hu
 have ib:Ext H H1:=ib
 have O9:mc H H1 b Ab.emp F 0:=⟨hA,aA ib,hF⟩
 have e0:dR .ptr (.ptr b.s 0) .bV=some false:=rfl
 simp -implicitDefEqProofs only[op,ef,cl,sq,reduceIte,q5,q6,q7,q9,j1,j2,j3,j4,j5,S1]
 refine W.gu 0 [(0,_),(3,_)] (fun (i:Nat) R H'=>At H' (fun H'=>∃F,mc H H' b (gD Ab.emp (ops.take i)) F (dn (ops.take i)))∧R 4=.int .i64 i∧i≤ops.length) (fun i=>ops.length-i) 0
  (fun R H'=>At H' (fun H'=>∃F,mc H H' b (gD Ab.emp ops) F (dn ops))) ⟨.i ⟨F,O9⟩,rfl,Nat.zero_le _⟩ ?_ ?_
 ·rintro i R H2⟨⟨F,pv⟩,g4,hi⟩
  by_cases ax:i<ops.length
  rotate_left
  ·have nk:i=ops.length:=by omega
   subst nk
   rw[List.take_length]at pv
   simp -implicitDefEqProofs only[aq,aj,op,ef,cl,sq,reduceIte,q5,q6,q7,q9,j1,j2,j3,j4,j5,S1,List.length_map,g4,ax,dr]
   exact .i ⟨F,pv⟩
  obtain⟨o,yg⟩:=cB ax
  have oo:=ho o (List.mem_of_getElem? yg)
  have io:=iT (e:=eO) (n:=6) (fun _=>rfl) (by decide) (k:=k) yg
  have qc:=aU (show i<9223372036854775807 by omega)
  have Ur:∀Hx,pr Hx 6 (.dL (eO o))=some (eO o):=fun _=>rfl
  have uM:=GR ops (i+1)
  have epl:dn (ops.take (i+1))=dn (ops.take i)+o.iK.length:=by rw[fJ yg,GQ]
  have ert:gD Ab.emp (ops.take (i+1))=hG (gD Ab.emp (ops.take i)) o:=by rw[fJ yg,Cg]
  obtain⟨H3,B0⟩:∃H3,H3=H2++[B.cells (eO o)]:=⟨_,rfl⟩
  have rN:Ext H2 H3:=⟨_,B0⟩
  have d3:H3[H2.length]?=some (.cells (eO o)):=by rw[B0];exact aX rfl
  have Ky:=pv.ext rN
  have aez:=B0
  simp -implicitDefEqProofs only[eO]at B0 d3 Ur io
  have fin:∀{H':af} {F':Nat→Prop} {m':Nat},mc H H' b (hG (gD Ab.emp (ops.take i)) o) F' m'→m'≤dn (ops.take (i+1))→∃F,mc H H' b (gD Ab.emp (ops.take (i+1))) F (dn (ops.take (i+1))):=fun hh hm=>⟨_,by rw[ert];exact hh.le hm⟩
  by_cases k1:o.kind=1
  ·have b1:(o.kind==1)=true:=by simp[k1]
   have es:hG (gD Ab.emp (ops.take i)) o=rD (gD Ab.emp (ops.take i)) o.id o.iK o.keys o.now:=if_pos k1
   simp -implicitDefEqProofs only[aq,aj,op,ef,cl,sq,reduceIte,q5,q6,q7,q9,j1,j2,j3,j4,j5,S1,List.length_map,g4,ax,e0,aa,io,Ur,S2]
   rw[←B0]
   have Us:=all_map (enc:=eP) (n:=2) (fun _=>rfl) o.iK
   have Ut:=all_map (enc:=eS) (n:=1) (fun _=>rfl) o.keys
   obtain⟨kp,H4,ha4,xK,_,rO⟩:=oZ (H:=H3) (bytes:=32) (o.iK.map eP) (kS (by simp -implicitDefEqProofs only[List.length_map];have:=oo.2.2.1;omega)) GS
   obtain⟨kq,H5,ha5,oY,_,hkq⟩:=oZ (H:=H4) (bytes:=16) (o.keys.map eS) (kS (by simp -implicitDefEqProofs only[List.length_map];have:=oo.2.1;omega)) GU
   have pv5:=(Ky.ext xK).ext oY
   have d4:=xK.get d3
   have d5:=oY.get d4
   simp -implicitDefEqProofs only[op,ef,cl,sq,reduceIte,q5,q6,q7,q9,j1,j2,j3,j4,j5,S1,b1,d3,d4,d5,Us,Ut,ha4,ha5]
   refine ae _ _ _ _ _ _ _ _ (aab o.id kp kq o.iK o.keys o.now pv5 (by omega) (by have:=oo.2.1;omega) (fun h=>absurd h hkq)) ?_
   rintro u H6⟨⟨t,hu⟩,F',L0,_,_⟩
   cases hu
   rw[←es]at L0
   simp -implicitDefEqProofs only[op,ef,cl,sq,reduceIte,q5,q6,q7,q9,j1,j2,j3,j4,j5,S1,g4,qc]
   exact⟨i+1,by omega,.i (fin L0 (by omega)),rfl,ax⟩
  have b1:(o.kind==1)=false:=by simp[k1]
  by_cases k2:o.kind=2
  ·have b2:(o.kind==2)=true:=by simp[k2]
   have es:hG (gD Ab.emp (ops.take i)) o=rE (gD Ab.emp (ops.take i)) o.id o.now:=by unfold hG;rw[if_neg k1,if_pos k2]
   simp -implicitDefEqProofs only[aq,aj,op,ef,cl,sq,reduceIte,q5,q6,q7,q9,j1,j2,j3,j4,j5,S1,List.length_map,g4,ax,e0,aa,io,Ur,S2]
   rw[←B0]
   simp -implicitDefEqProofs only[op,ef,cl,sq,reduceIte,q5,q6,q7,q9,j1,j2,j3,j4,j5,S1,b1,b2,d3]
   refine ae _ _ _ _ _ _ _ _ (aac o.id o.now Ky (by omega)) ?_
   rintro u H6⟨⟨t,hu⟩,F',L0,_,_⟩
   cases hu
   rw[←es]at L0
   simp -implicitDefEqProofs only[op,ef,cl,sq,reduceIte,q5,q6,q7,q9,j1,j2,j3,j4,j5,S1,g4,qc]
   exact⟨i+1,by omega,.i (fin L0 (by omega)),rfl,ax⟩
  have b2:(o.kind==2)=false:=by simp[k2]
  by_cases k3:o.kind=3
  ·have b3:(o.kind==3)=true:=by simp[k3]
   have es:hG (gD Ab.emp (ops.take i)) o=(gD Ab.emp (ops.take i)).yR (o.key,o.id):=by unfold hG;rw[if_neg k1,if_neg k2,if_pos k3]
   simp -implicitDefEqProofs only[aq,aj,op,ef,cl,sq,reduceIte,q5,q6,q7,q9,j1,j2,j3,j4,j5,S1,List.length_map,g4,ax,e0,aa,io,Ur,S2]
   rw[←B0]
   simp -implicitDefEqProofs only[op,ef,cl,sq,reduceIte,q5,q6,q7,q9,j1,j2,j3,j4,j5,S1,b1,b2,b3,d3]
   refine ae _ _ _ _ _ _ _ _ (aad o.key o.id Ky (by omega)) ?_
   rintro u H6⟨⟨t,hu⟩,F',L0,_,_⟩
   cases hu
   rw[←es]at L0
   simp -implicitDefEqProofs only[op,ef,cl,sq,reduceIte,q5,q6,q7,q9,j1,j2,j3,j4,j5,S1,g4,qc]
   exact⟨i+1,by omega,.i (fin L0 (by omega)),rfl,ax⟩
  have b3:(o.kind==3)=false:=by simp[k3]
  have es:hG (gD Ab.emp (ops.take i)) o=gD Ab.emp (ops.take i):=by unfold hG;rw[if_neg k1,if_neg k2,if_neg k3]
  rw[←es]at Ky
  simp -implicitDefEqProofs only[aq,aj,op,ef,cl,sq,reduceIte,q5,q6,q7,q9,j1,j2,j3,j4,j5,S1,List.length_map,g4,ax,e0,aa,io,Ur,S2]
  rw[←B0]
  simp -implicitDefEqProofs only[op,ef,cl,sq,reduceIte,q5,q6,q7,q9,j1,j2,j3,j4,j5,S1,b1,b2,b3,d3,g4,qc]
  exact⟨i+1,by omega,.i (fin Ky (by omega)),rfl,ax⟩
 rintro R H2⟨F,pv⟩
 simp -implicitDefEqProofs only[aq,aj,op,ef,cl,sq,reduceIte,q5,q6,q7,q9,j1,j2,j3,j4,j5,S1]
 exact⟨b,F,rfl,pv⟩
theorem u5 {f:Nm→Nat}:∀(N M:List Nm),N.Nodup→(∀x∈N,x∈M)→(N.map f).sum≤(M.map f).sum
 | [],M,_,_=>by simp
 | x :: N,M,hn,hs=>by
  have hx:=hs x (by simp)
  obtain⟨s,t,rfl⟩:=List.append_of_mem hx
  have:=u5 (f:=f) N (s++t) (List.nodup_cons.1 hn).2 fun y hy=>by
   have bF:y≠x:=fun e=>(List.nodup_cons.1 hn).1 (by rw[←e];exact hy)
   have h1:=hs y (by simp[hy])
   simp -implicitDefEqProofs only[List.mem_append,List.mem_cons]at h1 ⊢
   rcases h1 with h|h|h
   ·exact .inl h
   ·exact absurd h bF
   ·exact .inr h
  simp -implicitDefEqProofs only[List.map_append,List.sum_append,List.map_cons,List.sum_cons]at this ⊢;omega
theorem y8 {α:Type}{f g:α→Nat}:∀(l:List α),(∀x∈l,f x≤g x)→(l.map f).sum≤(l.map g).sum
 | [],_=>Nat.le_refl _
 | x :: l,h=>by
  have:=y8 l fun y hy=>h y (List.mem_cons_of_mem _ hy)
  have:=h x (by simp)
  simp -implicitDefEqProofs only[List.map_cons,List.sum_cons];omega
theorem mL {α:Type}{f:α→Nat}(p:α→Bool):∀(l:List α),((l.filter p).map f).sum≤(l.map f).sum
 | []=>Nat.le_refl _
 | x :: l=>by
  have:=mL (f:=f) p l
  rw[List.filter_cons]
  split<;>simp -implicitDefEqProofs only[List.map_cons,List.sum_cons]<;>omega
theorem o7 {α:Type}{f g:α→Nat}{l:List α}(h:∀x∈l,f x=g x):(l.map f).sum=(l.map g).sum:=congrArg List.sum (List.map_congr_left h)
theorem u6 {α:Type}(f:α→Nat)(c d:Nat):∀l:List α,(l.map fun x=>c*f x+d).sum=c*(l.map f).sum+d*l.length
 | []=>by simp
 | x :: l=>by
  simp -implicitDefEqProofs only[List.map_cons,List.sum_cons,u6 f c d l,List.length_cons,Nat.mul_add,Nat.mul_one];omega
theorem rF {α:Type}(e:α→List Nat)(l:List α):(l.flatMap e).length=(l.map fun x=>(e x).length).sum:=by
 rw[List.length_flatMap]
def wt (a:Ab)(m:Nm):Nat:=(mV (cS a m)).length+(12+m.1.size)
structure hO (a:Ab)(B:Nat):Prop where
 w:tP a
 u:∀m,a.has m=true→m.2<18446744073709551616
 z:∃M:List Nm,M.Nodup∧(∀m,m∈M↔a.has m=true)∧(M.map (wt a)).sum≤B
theorem hO.le {a:Ab}{B B':Nat}(h:hO a B)(hb:B≤B'):hO a B':=by
 obtain⟨h1,h2,M,h3,h4,h5⟩:=h;exact⟨h1,h2,M,h3,h4,by omega⟩
theorem hO.emp:hO Ab.emp 0:=⟨tP.emp,(fun m h=>by cases h),[],List.nodup_nil,fun m=>by simp[Ab.has,Ab.emp],Nat.le_refl _⟩
theorem u7 {a a':Ab}{m:Nm}(h1:(g5 (a'.v m)).value=(g5 (a.v m)).value)(h2:(g5 (a'.v m)).keys=(g5 (a.v m)).keys):wt a' m=wt a m:=by
 unfold wt cS mV
 simp -implicitDefEqProofs only[h1,h2]
def bo (o:qd):Nat:=(o.iK.map fun p=>p.1.size+p.2.size+2).sum+(o.keys.map fun k=>k.size+1).sum
theorem y9:∀l:List (ByteArray×ByteArray),2*l.length≤(l.map fun p=>p.1.size+p.2.size+2).sum
 | []=>Nat.le_refl _
 | x :: l=>by
  have:=y9 l
  simp -implicitDefEqProofs only[List.map_cons,List.sum_cons,List.length_cons];omega
theorem Ch {l:List (ByteArray×ByteArray)}{ks:List ByteArray}(hP:l.length≤1024)(hN:ks.length≤1024) :
  (l.map fun p=>32+2*p.1.size+p.2.size+(ks.map fun k=>4+k.size).sum).sum≤1560*((l.map fun p=>p.1.size+p.2.size+2).sum+(ks.map fun k=>k.size+1).sum):=by
 obtain⟨T,hT⟩:∃T,T=(ks.map fun k=>4+k.size).sum:=⟨_,rfl⟩
 obtain⟨A,hA⟩:∃A,A=(l.map fun p:ByteArray×ByteArray=>p.1.size+p.2.size+2).sum:=⟨_,rfl⟩
 obtain⟨C,hC⟩:∃C,C=(ks.map fun k:ByteArray=>k.size+1).sum:=⟨_,rfl⟩
 have h1:(l.map fun p=>32+2*p.1.size+p.2.size+T).sum≤(l.map fun p:ByteArray×ByteArray=>18*(p.1.size+p.2.size+2)+T).sum:=y8 l fun p _=>by omega
 have h2:(l.map fun p:ByteArray×ByteArray=>18*(p.1.size+p.2.size+2)+T).sum=18*A+T*l.length:=by rw[hA];exact u6 (fun p:ByteArray×ByteArray=>p.1.size+p.2.size+2) 18 T l
 have h3:T=C+3*ks.length:=by
  rw[hT,hC]
  have:=u6 (fun k:ByteArray=>k.size+1) 1 3 ks
  rw[Nat.one_mul]at this
  rw[←this]
  exact o7 fun k _=>by omega
 have h4:2*l.length≤A:=by rw[hA];exact y9 l
 have h5:T*l.length≤1024*C+3*(1024*l.length):=by
  rw[h3,Nat.add_mul]
  have a1:C*l.length≤C*1024:=Nat.mul_le_mul_left _ hP
  have a2:3*ks.length*l.length≤3*1024*l.length:=Nat.mul_le_mul_right _ (Nat.mul_le_mul_left _ hN)
  have a3:3*1024*l.length=3*(1024*l.length):=Nat.mul_assoc _ _ _
  omega
 rw[←hT,←hA,←hC]
 omega
theorem hO.put {a:Ab}{B:Nat}(h:hO a B){n:Nat}{l:List (ByteArray×ByteArray)}{ks:List ByteArray}{now:Int}(hn:n<18446744073709551616)(hm:lS n l ks)(ht:bm now):hO (a.put n l ks now) (B+1560*((l.map fun p=>p.1.size+p.2.size+2).sum+(ks.map fun k=>k.size+1).sum)):=by
 obtain⟨hw,hu,M,h3,h4,h5⟩:=h
 have fv:=Gh hm
 have hN:ks.length≤1024:=hm.2.1.2.2
 have hP:l.length≤1024:=by
  have:=Am fv fun x hx=>by
   obtain⟨p,hp,rfl⟩:=List.mem_map.1 hx
   exact(Aq hm hp).1
  rw[List.length_map]at this;omega
 obtain⟨l',ym⟩:∃l',l'=l.filter fun p=>!a.has (p.1,n):=⟨_,rfl⟩
 refine⟨hw.put hm ht,fun m qn=>?_,M++l'.map (fun p=>(p.1,n)),?_,fun m=>?_,?_⟩
 ·rw[uS]at qn
  simp -implicitDefEqProofs only[Bool.or_eq_true,Bool.and_eq_true,decide_eq_true_eq]at qn
  rcases qn with h|⟨h,_⟩
  ·exact hu m h
  ·omega
 ·refine List.nodup_append.2 ⟨h3,?_,fun x hx y hy=>?_⟩
  ·refine List.pairwise_map.2 ?_
   have:=(List.pairwise_map.1 fv).filter fun p=>!a.has (p.1,n)
   rw[←ym]at this
   exact this.imp fun h e=>h (Prod.mk.inj e).1
  ·obtain⟨p,hp,rfl⟩:=List.mem_map.1 hy
   rw[ym]at hp
   have:=(List.mem_filter.1 hp).2
   rintro rfl
   rw[(h4 _).1 hx]at this;cases this
 ·rw[uS,List.mem_append,h4]
  simp -implicitDefEqProofs only[Bool.or_eq_true,Bool.and_eq_true,decide_eq_true_eq]
  constructor
  ·rintro (h|h)
   ·exact .inl h
   ·obtain⟨p,hp,rfl⟩:=List.mem_map.1 h
    rw[ym]at hp
    refine .inr ⟨rfl,?_⟩
    rw[eF fv (List.mem_filter.1 hp).1];rfl
  ·rintro (h|⟨h1,h2⟩)
   ·exact .inl h
   ·by_cases hh:a.has m=true
    ·exact .inl hh
    ·right
     obtain⟨v,hv⟩:=Option.isSome_iff_exists.1 h2
     have iB:=nO hv
     refine List.mem_map.2 ⟨(m.1,v),?_,by rw[←h1]⟩
     rw[ym]
     refine List.mem_filter.2 ⟨iB,?_⟩
     have:(m.1,n)=m:=by rw[←h1]
     show(!a.has (m.1,n))=true
     rw[this];simpa using hh
 ·rw[List.map_append,List.sum_append]
  have e1:(M.map (wt (a.put n l ks now))).sum=(M.map (wt a)).sum:=o7 fun m qn=>by
   have:=(h4 m).1 qn
   obtain⟨d,hd⟩:=Option.isSome_iff_exists.1 this
   have e:(a.put n l ks now).v m=some d:=by rw[Gk,hd];rfl
   exact u7 (by rw[e,hd]) (by rw[e,hd])
  have e2:((l'.map fun p=>(p.1,n)).map (wt (a.put n l ks now))).sum≤(l.map fun p=>32+2*p.1.size+p.2.size+(ks.map fun k=>4+k.size).sum).sum:=by
   rw[List.map_map]
   refine Nat.le_trans (y8 (g:=fun p=>32+2*p.1.size+p.2.size+(ks.map fun k=>4+k.size).sum) l' fun p hp=>?_) (by rw[ym];exact mL _ _)
   rw[ym]at hp
   obtain⟨lk,lA⟩:=List.mem_filter.1 hp
   have gB:a.v (p.1,n)=none:=by
    have:a.has (p.1,n)=false:=by simpa using lA
    unfold Ab.has at this
    cases hv:a.v (p.1,n)with
    | none=>rfl
    | some d=>rw[hv]at this;cases this
   have e:(a.put n l ks now).v (p.1,n)=some ⟨p.2,ks,if n<a.last p.1 then now else -1⟩:=by
    rw[Gk,gB,if_pos rfl,eF fv lk];rfl
   show wt (a.put n l ks now) (p.1,n)≤_
   unfold wt cS mV
   rw[e]
   simp -implicitDefEqProofs only[g5,Option.getD_some,List.length_append,g7,bg,Ay,rF]
   have:(ks.map fun x=>(eT x).length).sum=(ks.map fun k=>4+k.size).sum:=o7 fun k _=>g7 k
   omega
  have e3:=Ch (l:=l) (ks:=ks) hP hN
  omega
theorem hO.same {a a':Ab}{B:Nat}(h:hO a B)(hw:tP a')(hh:∀m,a'.has m=a.has m)(hv:∀m d,a'.v m=some d→∃d',a.v m=some d'∧d'.value=d.value∧d'.keys=d.keys):hO a' B:=by
 obtain⟨_,hu,M,h3,h4,h5⟩:=h
 refine⟨hw,fun m hm=>hu m (by rw[←hh];exact hm),M,h3,fun m=>by rw[h4,hh],?_⟩
 have:(M.map (wt a')).sum=(M.map (wt a)).sum:=o7 fun m hm=>by
  have h0:=(h4 m).1 hm
  rw[←hh]at h0
  obtain⟨d,hd⟩:=Option.isSome_iff_exists.1 h0
  obtain⟨d',gz,e1,e2⟩:=hv m d hd
  exact u7 (by rw[hd,gz];exact e1.symm) (by rw[hd,gz];exact e2.symm)
 omega
theorem hO.n9 {a:Ab}{B:Nat}(h:hO a B){n:Nat}{now:Int}(ht:bm now):hO (a.n9 n now) B :=
 h.same (h.w.n9 ht) (fun m=>Ao) fun m d hd=>by
  obtain⟨y,h1,h2,h3,_⟩:=rp hd
  exact⟨y,h1,h2.symm,h3.symm⟩
theorem hO.yR {a:Ab}{B:Nat}(h:hO a B)(m:Nm):hO (a.yR m) B:=by
 have hw:=h.w.yR m
 unfold Ab.yR at hw ⊢
 cases hv:a.v m with
 | none=>exact h
 | some d =>
  rw[hv]at hw
  simp only at hw ⊢
  split
  ·exact h
  ·rename_i hs
   rw[if_neg hs]at hw
   obtain⟨_,hu,M,h3,h4,h5⟩:=h
   have hc:∀m',(a.cut m).has m'=(a.has m'&&!decide (m'=m)):=fun m'=>by
    unfold Ab.has Ab.cut
    by_cases e:m'=m<;>simp[e]
   refine⟨hw,fun m' qn=>hu m' (by rw[hc]at qn;simp -implicitDefEqProofs only[Bool.and_eq_true]at qn;exact qn.1),M.filter (fun m'=>!decide (m'=m)),h3.filter _,fun m'=>by rw[List.mem_filter,h4,hc,Bool.and_eq_true],?_⟩
   have e1:((M.filter fun m'=>!decide (m'=m)).map (wt (a.cut m))).sum=((M.filter fun m'=>!decide (m'=m)).map (wt a)).sum:=o7 fun m' qn=>by
    have bF:=(List.mem_filter.1 qn).2
    have bF:m'≠m:=by simpa using bF
    have e:(a.cut m).v m'=a.v m':=by unfold Ab.cut;simp[bF]
    exact u7 (by rw[e]) (by rw[e])
   have:=mL (f:=wt a) (fun m'=>!decide (m'=m)) M
   omega
theorem hO.rD {a:Ab}{B:Nat}(h:hO a B){n:Nat}{l:List (ByteArray×ByteArray)}{ks:List ByteArray}{now:Int}(hn:n<18446744073709551616):hO (rD a n l ks now) (B+1560*((l.map fun p=>p.1.size+p.2.size+2).sum+(ks.map fun k=>k.size+1).sum)):=by
 unfold St.rD
 split
 ·rename_i hc;exact h.put hn hc.1 hc.2
 ·exact h.le (by omega)
theorem hO.rE {a:Ab}{B:Nat}(h:hO a B){n:Nat}{now:Int}:hO (rE a n now) B:=by
 unfold St.rE
 split
 ·rename_i hc;exact h.n9 hc.2
 ·exact h
theorem hO.step {a:Ab}{B:Nat}(h:hO a B){o:qd}(ho:y7 o):hO (hG a o) (B+1560*bo o):=by
 unfold hG
 split
 ·exact h.rD ho.2.2.2
 ·split
  ·exact h.rE.le (by omega)
  ·split
   ·exact(h.yR _).le (by omega)
   ·exact h.le (by omega)
def HG (l:List qd):Nat:=(l.map bo).sum
theorem hO.run:∀{a:Ab} {B:Nat} (l:List qd),hO a B→(∀o∈l,y7 o)→hO (gD a l) (B+1560*HG l)
 | a,B,[],h,_=>by simpa[gD,HG]using h
 | a,B,o :: l,h,ho=>by
  have:=hO.run l (h.step (ho o (by simp))) fun x hx=>ho x (List.mem_cons_of_mem _ hx)
  show hO (gD (hG a o) l) _
  refine this.le ?_
  show _≤B+1560*(bo o+HG l)
  omega
theorem hO.body {a:Ab}{B:Nat}(h:hO a B){N:List Nm}(hN:Names a N){ls:List ByteArray}(hL:dv a ls)(g:Nat):(body g (ls.map (ik a)) (N.map (cS a))).length≤21+B:=by
 obtain⟨hw,hu,M,h3,h4,h5⟩:=h
 rw[nT,rF,rF,List.map_map,List.map_map]
 have hNM:=u5 (f:=wt a) N M hN.nd fun x hx=>(h4 x).2 ((hN.2 x).1 hx)
 have xY:(N.map (wt a)).sum=(N.map fun m=>(mV (cS a m)).length).sum+(N.map fun m:Nm=>12+m.1.size).sum:=by
  unfold wt
  clear hNM hN
  induction N with
  | nil=>rfl
  | cons x N ih=>simp -implicitDefEqProofs only[List.map_cons,List.sum_cons,ih];omega
 have gr:((ls.map (ik a)).map fun m:Nm=>12+m.1.size).sum≤(N.map fun m:Nm=>12+m.1.size).sum:=by
  refine u5 _ _ (List.pairwise_map.2 (hL.1.imp fun {x y} Gj e=>by
   have:x=y:=(Prod.mk.inj e).1
   rw[this,eX]at Gj;cases Gj)) fun x hx=>?_
  obtain⟨k,hk,rfl⟩:=List.mem_map.1 hx
  obtain⟨n,hn⟩:=Option.isSome_iff_exists.1 ((hL.2 k).1 hk)
  refine(hN.2 _).2 ?_
  have:ik a k=(k,n):=by unfold ik Ab.last;rw[hn];rfl
  rw[this]
  exact hw.L _ _ hn
 rw[List.map_map]at gr
 have e1:(ls.map ((fun x=>(rP x).length) ∘ ik a)).sum=(ls.map ((fun m:Nm=>12+m.1.size) ∘ ik a)).sum:=o7 fun k _=>by
  show(eT (ik a k).1++dh 8 (ik a k).2).length=12+(ik a k).1.size
  rw[List.length_append,g7,bg];omega
 have e2:(N.map ((fun x=>(mV x).length) ∘ cS a)).sum=(N.map fun m=>(mV (cS a m)).length).sum:=rfl
 omega
theorem Uu {x:Nm}(r:List Nat)(h1:x.1.size≤65535)(h2:x.2<18446744073709551616):rR (rP x++r)=some (x,r):=by
 unfold rR rP
 rw[List.append_assoc,J8 _ h1 (by omega)]
 simp only
 rw[yU _ (show x.2<256^8 from h2)]
theorem Uv {m n:Nat}(r:List Nat)(h:n≤m)(h4:n<4294967296):pC m (dh 4 n++r)=some (n,r):=by
 unfold pC
 rw[yU _ (show n<256^4 from h4)]
 simp only
 rw[if_neg (by omega)]
theorem Uw {ks:List ByteArray}(r:List Nat)(h1:ks.length≤1024)(h2:∀k∈ks,k.size≤65535):CG 1024 65535 (Ax ks++r)=some (ks,r):=by
 unfold CG Ax
 rw[List.append_assoc,Uv _ h1 (by omega)]
 simp only
 exact Gs (e:=eT) ks r fun k hk r=>J8 r (h2 k hk) (by have:=h2 k hk;omega)
def raw (x:Kd):Kd:={ x with kk:=.arg,bf:=-1 }
structure Ux (x:Kd):Prop where
 key:x.key.size≤65535
 id:x.id<18446744073709551616
 val:x.value.size≤65535
 len:x.keys.length≤1024
 keys:∀k∈x.keys,k.size≤65535
theorem Uy {x:Kd}(r:List Nat)(h:Ux x):pF (mV x++r)=some (raw x,r):=by
 unfold pF mV
 rw[List.append_assoc,J8 _ h.key (by have:=h.key;omega)]
 simp only
 rw[List.append_assoc,yU _ (show x.id<256^8 from h.id)]
 simp only
 rw[List.append_assoc,J8 _ h.val (by have:=h.val;omega)]
 simp only
 rw[Uw _ h.len h.keys]
 rfl
theorem Kz (x:Kd):mV (raw x)=mV x:=rfl
theorem L1 {α:Type}{p:List Nat→Option (α×List Nat)}{e:α→List Nat}(xs:List α)(r:List Nat)(hx:∀x∈xs,∀r,p (e x++r)=some (x,r))(hl:xs.length≤2147483647):rS p (some (dh 4 xs.length++(xs.flatMap e++r)))=some (xs,r):=by
 unfold rS
 simp only
 rw[Uv _ hl (by omega)]
 simp only
 exact Gs xs r hx
theorem aae {g:Nat}(r:List Nat)(h1:1≤g)(h2:g≤9223372036854775807):pH (dh 4 1918987632++(dh 1 1++(dh 8 g++r)))=some (g,r):=by
 unfold pH
 rw[yU _ (by decide)]
 simp only
 rw[yU _ (by decide)]
 simp only
 rw[yU _ (show g<256^8 by show g<18446744073709551616;omega)]
 simp only
 rw[if_pos ⟨trivial,trivial,h1,h2⟩]
theorem aaf {g:Nat}{L:List Nm}{K:List Kd}(h1:1≤g)(h2:g≤9223372036854775807)(hL:∀x∈L,x.1.size≤65535∧x.2<18446744073709551616)(hK:∀x∈K,Ux x)(Vv:L.length≤2147483647)(hKl:K.length≤2147483647):pR (body g L K)=some (g,L,K.map raw):=by
 unfold pR body
 rw[aae _ h1 h2]
 simp only
 rw[L1 (e:=rP) L _ (fun x hx r=>Uu r (hL x hx).1 (hL x hx).2) Vv]
 simp only
 have ef:K.flatMap mV=(K.map raw).flatMap mV++[]:=by
  rw[List.append_nil,List.flatMap_map]
  rfl
 have el:K.length=(K.map raw).length:=(List.length_map _).symm
 rw[ef,el,L1 (e:=mV) (K.map raw) [] (fun x hx r=>by
  obtain⟨y,hy,rfl⟩:=List.mem_map.1 hx
  rw[Kz,Uy r (hK y hy)]) (by rw[←el];exact hKl)]
 simp -implicitDefEqProofs only[if_true]
theorem KA {l r:List Nat}{x:Nm}(hb:dt l)(h:rR l=some (x,r)):l=rP x++r∧(x.1.size≤65535∧x.2<18446744073709551616)∧dt r:=by
 unfold rR at h
 cases h1:pT 65535 l with
 | none=>rw[h1]at h;cases h
 | some y =>
  obtain⟨k,r1⟩:=y
  rw[h1]at h
  simp only at h
  obtain⟨e1,e2,_,e3⟩:=uX hb h1
  cases h2:pN 8 r1 with
  | none=>rw[h2]at h;cases h
  | some z =>
   obtain⟨v,r2⟩:=z
   rw[h2]at h
   simp -implicitDefEqProofs only[Option.some.injEq,Prod.mk.injEq]at h
   obtain⟨rfl,rfl⟩:=h
   obtain⟨f1,f2,f3⟩:=iV e3 h2
   exact⟨by unfold rP;rw[List.append_assoc,←f1];exact e1,⟨e2,f2⟩,f3⟩
theorem GW {m v:Nat}{l r:List Nat}(hb:dt l)(h:pC m l=some (v,r)):l=dh 4 v++r∧v≤m∧dt r:=by
 obtain⟨h1,h2⟩:=lN h
 obtain⟨f1,f2,f3⟩:=iV hb h1
 exact⟨f1,h2,f3⟩
theorem KB {c:Nat}{ks:List ByteArray}{l r:List Nat}(hb:dt l)(h:CG c 65535 l=some (ks,r)):l=Ax ks++r∧(ks.length≤c∧∀k∈ks,k.size≤65535)∧dt r:=by
 unfold CG at h
 cases h1:pC c l with
 | none=>rw[h1]at h;cases h
 | some y =>
  obtain⟨n,r1⟩:=y
  rw[h1]at h
  simp only at h
  obtain⟨e1,e2,e3⟩:=GW hb h1
  have hl:=uV h
  obtain⟨f1,f2,f3⟩:=yV (e:=eT) (Q:=fun k=>k.size≤65535) e3 (fun l x r hb h=>by
   obtain⟨a1,a2,_,a3⟩:=uX hb h;exact⟨a1,a2,a3⟩) h
  exact⟨by unfold Ax;rw[List.append_assoc,←f1,hl];exact e1,⟨by omega,f2⟩,f3⟩
theorem KC {l r:List Nat}{x:Kd}(hb:dt l)(h:pF l=some (x,r)):l=mV x++r∧(Ux x∧raw x=x)∧dt r:=by
 unfold pF at h
 cases h1:pT 65535 l with
 | none=>rw[h1]at h;cases h
 | some y =>
  obtain⟨k,r1⟩:=y
  rw[h1]at h
  simp only at h
  obtain⟨e1,e2,_,e3⟩:=uX hb h1
  cases h2:pN 8 r1 with
  | none=>rw[h2]at h;cases h
  | some z =>
   obtain⟨v,r2⟩:=z
   rw[h2]at h
   simp only at h
   obtain⟨f1,f2,f3⟩:=iV e3 h2
   cases h3:pT 65535 r2 with
   | none=>rw[h3]at h;cases h
   | some w =>
    obtain⟨w,r3⟩:=w
    rw[h3]at h
    simp only at h
    obtain⟨g1,g2,_,g3⟩:=uX f3 h3
    cases h4:CG 1024 65535 r3 with
    | none=>rw[h4]at h;cases h
    | some q =>
     obtain⟨ks,r4⟩:=q
     rw[h4]at h
     simp -implicitDefEqProofs only[Option.some.injEq,Prod.mk.injEq]at h
     obtain⟨rfl,rfl⟩:=h
     obtain⟨a1,a2,a3⟩:=KB g3 h4
     refine⟨?_,⟨⟨e2,f2,g2,a2.1,a2.2⟩,rfl⟩,a3⟩
     unfold mV
     simp -implicitDefEqProofs only[List.append_assoc]
     rw[←a1,←g1,←f1]
     exact e1
theorem AG {α:Type}{p:List Nat→Option (α×List Nat)}{e:α→List Nat}{Q:α→Prop}{l r:List Nat}{xs:List α}(hb:dt l)(hp:∀l x r,dt l→p l=some (x,r)→l=e x++r∧Q x∧dt r)(h:rS p (some l)=some (xs,r)):l=dh 4 xs.length++(xs.flatMap e++r)∧(∀x∈xs,Q x)∧xs.length≤2147483647∧dt r:=by
 unfold rS at h
 simp only at h
 cases h1:pC 2147483647 l with
 | none=>rw[h1]at h;cases h
 | some y =>
  obtain⟨n,r1⟩:=y
  rw[h1]at h
  simp only at h
  obtain⟨e1,e2,e3⟩:=GW hb h1
  have hl:=uV h
  obtain⟨f1,f2,f3⟩:=yV e3 hp h
  exact⟨by rw[←f1,hl];exact e1,f2,by omega,f3⟩
theorem Pa {g:Nat}{L:List Nm}{K:List Kd}{l:List Nat}(hb:dt l)(h:pR l=some (g,L,K)):l=body g L K∧(1≤g∧g≤9223372036854775807)∧(∀x∈L,x.1.size≤65535∧x.2<18446744073709551616)∧(∀x∈K,Ux x∧raw x=x)∧L.length≤2147483647∧K.length≤2147483647:=by
 unfold pR at h
 cases h1:pH l with
 | none=>rw[h1]at h;cases h
 | some y =>
  obtain⟨g',r3⟩:=y
  rw[h1]at h
  simp only at h
  have hh:l=dh 4 1918987632++(dh 1 1++(dh 8 g'++r3))∧(1≤g'∧g'≤9223372036854775807)∧dt r3:=by
   unfold pH at h1
   cases k1:pN 4 l with
   | none=>rw[k1]at h1;cases h1
   | some a =>
    obtain⟨f,s1⟩:=a
    rw[k1]at h1
    simp only at h1
    obtain⟨e1,_,b1⟩:=iV hb k1
    cases k2:pN 1 s1 with
    | none=>rw[k2]at h1;cases h1
    | some a =>
     obtain⟨k,s2⟩:=a
     rw[k2]at h1
     simp only at h1
     obtain⟨e2,_,b2⟩:=iV b1 k2
     cases k3:pN 8 s2 with
     | none=>rw[k3]at h1;cases h1
     | some a =>
      obtain⟨v,s3⟩:=a
      rw[k3]at h1
      simp only at h1
      obtain⟨e3,_,b3⟩:=iV b2 k3
      split at h1
      ·rename_i hc
       simp -implicitDefEqProofs only[Option.some.injEq,Prod.mk.injEq]at h1
       obtain⟨rfl,rfl⟩:=h1
       rw[hc.1]at e1
       rw[hc.2.1]at e2
       exact⟨by rw[←e3,←e2];exact e1,⟨hc.2.2.1,hc.2.2.2⟩,b3⟩
      ·cases h1
  obtain⟨e1,hg,b3⟩:=hh
  cases h2:rS rR (some r3)with
  | none=>rw[h2]at h;cases h
  | some z =>
   obtain⟨L',r4⟩:=z
   rw[h2]at h
   simp only at h
   obtain⟨f1,f2,f3,f4⟩:=AG (e:=rP) b3 (fun l x r hb h=>KA hb h) h2
   cases h3:rS pF (some r4)with
   | none=>rw[h3]at h;cases h
   | some w =>
    obtain⟨K',r5⟩:=w
    rw[h3]at h
    simp only at h
    obtain⟨q1,q2,q3,q4⟩:=AG (e:=mV) f4 (fun l x r hb h=>KC hb h) h3
    split at h
    ·rename_i h5
     simp -implicitDefEqProofs only[Option.some.injEq,Prod.mk.injEq]at h
     obtain⟨rfl,rfl,rfl⟩:=h
     subst h5
     rw[List.append_nil]at q1
     exact⟨by unfold body;rw[←q1,←f1];exact e1,hg,f2,q2,f3,q3⟩
    ·cases h
def fB (now:Int)(a:Ab):Ab:=⟨fun m=>(a.v m).map fun d=>⟨d.value,d.keys,if m.2<a.last m.1 then now else -1⟩,a.l⟩
theorem Ci (now:Int)(a:Ab):(fB now a).last=a.last:=rfl
theorem rG (now:Int)(a:Ab)(m:Nm):(fB now a).has m=a.has m:=by
 show((a.v m).map _).isSome=(a.v m).isSome
 cases a.v m<;>rfl
theorem mM {now:Int}{a:Ab}{N:List Nm}(h:Names a N):Names (fB now a) N:=⟨h.1,fun m=>by rw[rG];exact h.2 m⟩
theorem kY {now:Int}{a:Ab}{ls:List ByteArray}(h:dv a ls):dv (fB now a) ls:=h
theorem tP.rest {a:Ab}(h:tP a){now:Int}(ht:bm now):tP (fB now a):=by
 have key:∀m x,(fB now a).v m=some x→∃d,a.v m=some d∧x=⟨d.value,d.keys,if m.2<a.last m.1 then now else -1⟩:=fun m x e=>by
  obtain⟨d,hd,e⟩:=Option.map_eq_some_iff.1 e
  exact⟨d,hd,e.symm⟩
 refine⟨fun m x e=>?_,fun m x e=>?_,fun m x e=>?_,fun k n e=>?_⟩
 ·obtain⟨d,_,rfl⟩:=key m x e
  rw[Ci]
  show(if m.2<a.last m.1 then now else -1)=-1↔_
  by_cases hl:m.2<a.last m.1
  ·rw[if_pos hl]
   constructor
   ·intro h1;unfold bm at ht;omega
   ·intro h1;exact absurd hl h1
  ·rw[if_neg hl];exact⟨fun _=>hl,fun _=>rfl⟩
 ·obtain⟨d,_,rfl⟩:=key m x e
  show(if m.2<a.last m.1 then now else -1)=-1∨bm (if m.2<a.last m.1 then now else -1)
  split
  ·exact .inr ht
  ·exact .inl rfl
 ·obtain⟨d,hd,rfl⟩:=key m x e
  exact h.G m d hd
 ·rw[rG];exact h.L k n e
theorem hO.rest {a:Ab}{B:Nat}(h:hO a B){now:Int}(ht:bm now):hO (fB now a) B :=
 h.same (h.w.rest ht) (fun m=>rG now a m) fun m d hd=>by
  obtain⟨d0,h1,rfl⟩:=Option.map_eq_some_iff.1 hd
  exact⟨d0,h1,rfl,rfl⟩
theorem u9 {k:ByteArray}:∀(xs:List Nm) (v:Nat),(∀x∈xs,x.1≠k)→xs.foldl (fun v x=>if x.1=k then x.2 else v) v=v
 | [],_,_=>rfl
 | x :: xs,v,h=>by
  rw[List.foldl_cons,if_neg (h x (by simp))]
  exact u9 xs v fun y hy=>h y (List.mem_cons_of_mem _ hy)
theorem AH {k:ByteArray}{n:Nat}:∀(xs:List Nm) (v:Nat),(xs.map (·.1)).Nodup→(k,n)∈xs→xs.foldl (fun v x=>if x.1=k then x.2 else v) v=n
 | [],_,_,h=>by cases h
 | x :: xs,v,hn,h=>by
  rw[List.foldl_cons]
  obtain⟨h1,h2⟩:=List.nodup_cons.1 hn
  rcases List.mem_cons.1 h with e|h
  ·subst e
   rw[if_pos rfl]
   exact u9 xs n fun y hy e=>h1 (List.mem_map.2 ⟨y,hy,e⟩)
  ·exact AH xs _ h2 h
theorem GX {a:Ab}{ls:List ByteArray}(h:dv a ls)(k:ByteArray):AE (ls.map (ik a)) k=a.last k:=by
 by_cases hk:(a.l k).isSome=true
 ·refine AH _ _ ?_ (List.mem_map.2 ⟨k,(h.2 k).2 hk,rfl⟩)
  rw[List.map_map]
  exact List.pairwise_map.2 (h.1.imp fun {x y} Gj e=>by
   have:x=y:=e
   rw[this,eX]at Gj;cases Gj)
 ·have h0:a.last k=0:=by
   unfold Ab.last
   cases hl:a.l k with
   | none=>rfl
   | some n=>rw[hl]at hk;exact absurd rfl hk
  rw[h0]
  refine u9 _ _ fun x hx e=>hk ?_
  obtain⟨y,hy,rfl⟩:=List.mem_map.1 hx
  have:y=k:=e
  rw[←this];exact(h.2 y).1 hy
theorem GY {now:Int}{a:Ab}{N:List Nm}{ls:List ByteArray}(hN:Names a N)(hL:dv a ls):((N.map (cS a)).map raw).map (u4 now (ls.map (ik a)))=N.map (cS (fB now a)):=by
 rw[List.map_map,List.map_map]
 refine List.map_congr_left fun m hm=>?_
 obtain⟨d,hd⟩:=Option.isSome_iff_exists.1 ((hN.2 m).1 hm)
 have e:(fB now a).v m=some ⟨d.value,d.keys,if m.2<a.last m.1 then now else -1⟩:=by unfold fB;simp -implicitDefEqProofs only[hd,Option.map_some]
 show u4 now (ls.map (ik a)) (raw (cS a m))=cS (fB now a) m
 unfold u4 raw cS
 simp -implicitDefEqProofs only[GX hL,e,hd]
 rfl
theorem hO.kdB {a:Ab}{B:Nat}(h:hO a B){N:List Nm}(hN:Names a N):∀x∈N.map (cS a),Ux x:=fun x hx=>by
 obtain⟨m,hm,rfl⟩:=List.mem_map.1 hx
 have hh:=(hN.2 m).1 hm
 obtain⟨d,hd⟩:=Option.isSome_iff_exists.1 hh
 obtain⟨g1,g2,g3,g4⟩:=h.w.G m d hd
 have hk:∀k∈d.keys,k.size≤65535:=fun k hk=>by
  have:=dD.2 g2
  simp -implicitDefEqProofs only[jR,Bool.and_eq_true,List.all_eq_true,decide_eq_true_eq]at this
  exact this.1.1.2 k hk
 have hv:g5 (a.v m)=d:=by rw[hd];rfl
 refine⟨hk _ g3,h.u m hh,?_,?_,?_⟩
 ·show(g5 (a.v m)).value.size≤_;rw[hv];exact g4
 ·show(g5 (a.v m)).keys.length≤_;rw[hv];exact g2.2.2
 ·show ∀k∈(g5 (a.v m)).keys,_;rw[hv];exact hk
theorem hO.lnB {a:Ab}{B:Nat}(h:hO a B){ls:List ByteArray}(hL:dv a ls):∀x∈ls.map (ik a),x.1.size≤65535∧x.2<18446744073709551616:=fun x hx=>by
 obtain⟨k,hk,rfl⟩:=List.mem_map.1 hx
 obtain⟨n,hn⟩:=Option.isSome_iff_exists.1 ((hL.2 k).1 hk)
 have e:ik a k=(k,n):=by unfold ik Ab.last;rw[hn];rfl
 have hh:=h.w.L k n hn
 obtain⟨d,hd⟩:=Option.isSome_iff_exists.1 hh
 obtain⟨g1,g2,g3,g4⟩:=h.w.G _ d hd
 rw[e]
 refine⟨?_,h.u _ hh⟩
 have:=dD.2 g2
 simp -implicitDefEqProofs only[jR,Bool.and_eq_true,List.all_eq_true,decide_eq_true_eq]at this
 exact this.1.1.2 k g3
theorem hO.back {a:Ab}{B:Nat}(h:hO a B){N:List Nm}(hN:Names a N){ls:List ByteArray}(hL:dv a ls){g:Nat}(h1:1≤g)(h2:g≤9223372036854775807)(hN2:N.length≤2147483647)(hL2:ls.length≤2147483647) :
  pR (St.body g (ls.map (ik a)) (N.map (cS a)))=some (g,ls.map (ik a),(N.map (cS a)).map raw) :=
 aaf h1 h2 (h.lnB hL) (h.kdB hN) (by rw[List.length_map];exact hL2) (by rw[List.length_map];exact hN2)
theorem ve {b:List Nat}:jO (whole b)∧(whole b).take ((whole b).length-4)=b:=by
 have hl:(whole b).length-4=b.length:=by unfold whole;rw[List.length_append,bg];omega
 have ht:(whole b).take b.length=b:=by unfold whole;rw[List.take_left' rfl]
 refine⟨⟨by unfold whole;rw[List.length_append,bg];omega,?_⟩,by rw[hl,ht]⟩
 rw[hl,ht]
 unfold whole
 rw[List.drop_left' rfl]
theorem jq {b:List Nat}(h:dt b):dt (whole b):=h.app (eH _ _)
theorem KD (l:List Nat)(hl:l.length≤4294967296)(H:af):∃c H',mX (H++[B.cells []]) 1 1 (.ay H.length 0 0 1) (l.map eB)=some (.ay c 0 l.length 1,H')∧H.length≤c∧H'[c]?=some (.cells (aJ eB l))∧Ext H H':=by
 by_cases h0:l=[]
 ·subst h0
  exact⟨H.length,_,rfl,Nat.le_refl _,aX rfl,Ext.rfl'.app _⟩
 obtain⟨t',H',ha,hm,dF⟩:=pW (enc:=eB) (n:=1) (n0:=H.length) (fun _=>rfl) (H:=H++[B.cells []]) (t:=.ay H.length 0 0 1) (l:=[]) (bytes:=1) l (.inr ⟨H.length,rfl,aX rfl,Nat.le_refl _⟩) (by simp) h0 (kS (by simp -implicitDefEqProofs only[List.length_nil];omega))
 rw[List.nil_append]at hm
 rcases hm with⟨h1,_⟩|⟨c,rfl,hc,h0⟩
 ·exact absurd h1 ‹_›
 ·exact⟨c,H',ha,h0,hc,dF.ext H (Nat.le_refl _) (Ext.rfl'.app _)⟩
theorem GZ (k:SK)(l:List Nat)(hl:l.length≤4294967296)(H:af):W env (.call 15 [.sl k (l.map eB)]) H (fun o H'=>Ext H H'∧∃c,H.length≤c∧o=.val (.ay c 0 l.length 1)∧H'[c]?=some (.cells (aJ eB l))):=by
 have cn:=xu l
 obtain⟨c,H',ha,hc,hd,hx⟩:=KD l hl H
 refine W.bS rfl rfl rfl ?_
 have Jp:zg (.ay H.length 0 0 1)=.ay H.length 0 0 1:=rfl
 have aC:(1≠0)=True:=by decide
 simp -implicitDefEqProofs only[Nl,op,ef,cl,sq,reduceIte,q5,q6,q7,q9,j1,j2,j3,j4,j5,S1,cn]
 simp -implicitDefEqProofs only[List.flatten_nil,aC,if_true,op,ef,cl,sq,reduceIte,q5,q6,q7,q9,j1,j2,j3,j4,j5,S1,cn]
 rw[Jp,ha]
 simp -implicitDefEqProofs only[op,ef,cl,sq,reduceIte,q5,q6,q7,q9,j1,j2,j3,j4,j5,S1]
 exact⟨hx,c,hc,rfl,hd⟩
theorem G0 (k:SK)(l:List Nat)(hl:l.length≤4294967296)(H:af):W env (.call 15 [.sl k (l.map eB)]) H (fun o H'=>Ext H H'∧o=.val (.sl .arg (l.map eB))) :=
 W.vG (enc:=eB) (n:=1) (l:=l) (fun _=>rfl) (W.use (GZ k l hl H) fun o H' ⟨hx,c,hc,ho,hd⟩=>⟨c,ho,hd,hx.set hc _,rfl⟩)
theorem Uz {n:Nat}(h:n<256):IntKind.u32.wrap ((n:Int)*2^(min (24:Int).toNat IntKind.u32.bits))=((16777216*n:Nat):Int):=by
 have e:(min (24:Int).toNat IntKind.u32.bits)=24:=rfl
 rw[e,show((n:Int)*2^24)=((16777216*n:Nat):Int) by omega,wrap32 (by omega)]
theorem UA {n:Nat}(h:n<256):IntKind.u32.wrap ((n:Int)*2^(min (16:Int).toNat IntKind.u32.bits))=((65536*n:Nat):Int):=by
 have e:(min (16:Int).toNat IntKind.u32.bits)=16:=rfl
 rw[e,show((n:Int)*2^16)=((65536*n:Nat):Int) by omega,wrap32 (by omega)]
theorem aag {n:Nat}(h:n<256):IntKind.u32.wrap ((n:Int)*2^(min (8:Int).toNat IntKind.u32.bits))=((256*n:Nat):Int):=by
 have e:(min (8:Int).toNat IntKind.u32.bits)=8:=rfl
 rw[e,show((n:Int)*2^8)=((256*n:Nat):Int) by omega,wrap32 (by omega)]
theorem Pb {a b:Nat}(ha:a<4294967296)(hb:b<4294967296):IntKind.u32.wrap ((BitVec.ofInt IntKind.u32.bits (a:Int) ||| BitVec.ofInt IntKind.u32.bits (b:Int)).toNat:Nat)=((a ||| b:Nat):Int):=by
 have e:(BitVec.ofInt IntKind.u32.bits (a:Int) ||| BitVec.ofInt IntKind.u32.bits (b:Int)).toNat=a ||| b:=T1 32 a b ha hb
 rw[e,wrap32 (Nat.or_lt_two_pow (n:=32) ha hb)]
theorem orA {i a b:Nat}(h:b<2^i):2^i*a ||| b=2^i*a+b:=(Nat.two_pow_add_eq_or_of_lt h a).symm
theorem aai {x y:Nat}(hy:y<256):16777216*x ||| 65536*y=16777216*x+65536*y:=orA (i:=24) (a:=x) (b:=65536*y) (by omega)
theorem aaj {x y z:Nat}(hz:z<256):(16777216*x+65536*y) ||| 256*z=16777216*x+65536*y+256*z:=by
 have:=orA (i:=16) (a:=256*x+y) (b:=256*z) (by omega)
 rwa[show 2^16*(256*x+y)=16777216*x+65536*y by omega]at this
theorem aak {x y z w:Nat}(hw:w<256):(16777216*x+65536*y+256*z) ||| w=16777216*x+65536*y+256*z+w:=by
 have:=orA (i:=8) (a:=65536*x+256*y+z) (b:=w) (by omega)
 rwa[show 2^8*(65536*x+256*y+z)=16777216*x+65536*y+256*z by omega]at this
theorem UB {x y:Nat}(hx:x<256)(hy:y<256):IntKind.u32.wrap ((BitVec.ofInt IntKind.u32.bits ((16777216*x:Nat):Int) ||| BitVec.ofInt IntKind.u32.bits ((65536*y:Nat):Int)).toNat:Nat)=((16777216*x+65536*y:Nat):Int):=by
 rw[Pb (by omega) (by omega),aai hy]
theorem UC {x y z:Nat}(hx:x<256)(hy:y<256)(hz:z<256):IntKind.u32.wrap ((BitVec.ofInt IntKind.u32.bits ((16777216*x+65536*y:Nat):Int) ||| BitVec.ofInt IntKind.u32.bits ((256*z:Nat):Int)).toNat:Nat)=((16777216*x+65536*y+256*z:Nat):Int):=by
 rw[Pb (by omega) (by omega),aaj hz]
theorem UD {x y z w:Nat}(hx:x<256)(hy:y<256)(hz:z<256)(hw:w<256):IntKind.u32.wrap ((BitVec.ofInt IntKind.u32.bits ((16777216*x+65536*y+256*z:Nat):Int) ||| BitVec.ofInt IntKind.u32.bits (w:Int)).toNat:Nat)=((16777216*x+65536*y+256*z+w:Nat):Int):=by
 rw[Pb (by omega) (by omega),aak hw]
theorem UE {l:List Nat}{n:Nat}(h:l.length=n+4):∃x y z w,l[n]?=some x∧l[n+1]?=some y∧l[n+2]?=some z∧l[n+3]?=some w∧l.drop n=[x,y,z,w]:=by
 obtain⟨x,hx⟩:=cB (l:=l) (i:=n) (by omega)
 obtain⟨y,hy⟩:=cB (l:=l) (i:=n+1) (by omega)
 obtain⟨z,hz⟩:=cB (l:=l) (i:=n+2) (by omega)
 obtain⟨w,hw⟩:=cB (l:=l) (i:=n+3) (by omega)
 refine⟨x,y,z,w,hx,hy,hz,hw,?_⟩
 rw[drop_cons hx,drop_cons hy,drop_cons hz,drop_cons hw,List.drop_eq_nil_of_le (by omega)]
theorem aal (x y z w:Nat):mU 0 [x,y,z,w]=16777216*x+65536*y+256*z+w:=by simp -implicitDefEqProofs only[mU,List.foldl];omega
theorem Cj (k:SK)(l:List Nat)(hb:dt l){n:Nat}(hn:l.length=n+4)(hl:l.length≤4294967296)(H:af):W env (.call 27 [.sl k (l.map eB)]) H (py (.int .u32 (mU 0 (l.drop n):Nat)) H):=by
 obtain⟨x,y,z,w,hx,hy,hz,hw,hd⟩:=UE hn
 have bx:=hb x (List.mem_of_getElem? hx)
 have bY:=hb y (List.mem_of_getElem? hy)
 have bz:=hb z (List.mem_of_getElem? hz)
 have bw:=hb w (List.mem_of_getElem? hw)
 rw[hd,aal]
 have w4:IntKind.i64.wrap ((l.length:Int)-4)=((n:Nat):Int):=by rw[wrap64 (by omega)];omega
 have w3:IntKind.i64.wrap ((l.length:Int)-3)=((n+1:Nat):Int):=by rw[wrap64 (by omega)];omega
 have w2:IntKind.i64.wrap ((l.length:Int)-2)=((n+2:Nat):Int):=by rw[wrap64 (by omega)];omega
 have w1:IntKind.i64.wrap ((l.length:Int)-1)=((n+3:Nat):Int):=by rw[wrap64 (by omega)];omega
 have e8:∀{n x:Nat},l[n]?=some x→eI 1 n (.sl k (l.map eB))=some (.dL [T.int .u8 (x:Nat)]):=fun h=>iT (e:=eB) (n:=1) (fun _=>rfl) (by decide) (k:=k) h
 have i0:=e8 hx
 have i1:=e8 hy
 have i2:=e8 hz
 have i3:=e8 hw
 have v0:=wrap32 (n:=x) (by omega)
 have v1:=wrap32 (n:=y) (by omega)
 have v2:=wrap32 (n:=z) (by omega)
 have v3:=wrap32 (n:=w) (by omega)
 have s0:=Uz bx
 have s1:=UA bY
 have s2:=aag bz
 have o0:=UB bx bY
 have o1:=UC bx bY bz
 have o2:=UD bx bY bz bw
 refine W.bS rfl rfl rfl ?_
 simp -implicitDefEqProofs only[Nq,op,ef,cl,sq,reduceIte,q5,q6,q7,q9,j1,j2,j3,j4,j5,S1,List.length_map,w4,w3,w2,w1,aa,i0,i1,i2,i3,fo,v0,v1,v2,v3,s0,s1,s2,o0,o1,o2]
theorem AI {α:Type}(e:α→List Nat)(he:∀x,1≤(e x).length)(l:List α):l.length≤(l.flatMap e).length:=by
 induction l with
 | nil=>simp
 | cons x l ih =>
  have:=he x
  simp -implicitDefEqProofs only[List.length_cons,List.flatMap_cons,List.length_append];omega
theorem G1 {l:List Nat}(hb:dt l){g:Nat}{L:List Nm}{K:List Kd}(h:pR l=some (g,L,K)):K.length≤l.length∧L.length≤l.length:=by
 have e:=(Pa hb h).1
 have h1:=nT g L K
 have h2:=AI rP (fun x=>by unfold rP;rw[List.length_append,bg];omega) L
 have h3:=AI mV (fun x=>by unfold mV;simp -implicitDefEqProofs only[List.length_append,bg];omega) K
 rw[e];omega
theorem rH {a:Ab}{B:Nat}(hz:hO a B){N:List Nm}(hN:Names a N){ls:List ByteArray}(hL:dv a ls){g:Nat}(h1:1≤g)(h2:g≤9223372036854775807){now:Int}(ht:bm now)(hNl:N.length≤8000000)(Vv:ls.length≤8000000)
  (a7:(body g (ls.map (ik a)) (N.map (cS a))).length≤2147483647) (k:SK) (hk:k≠.nil) (H:af) :
  W env (.call 17 [.sl k ((whole (body g (ls.map (ik a)) (N.map (cS a)))).map eB),.int .i64 now]) H (fun o H'=>∃b F,o=.val (.bN [.int .i64 g,.ptr b.s 0,.int .i64 0])∧mc H H' b (fB now a) F N.length):=by
 have PO:=hz.back hN hL h1 h2 (by omega) (by omega)
 have dF:=GY (now:=now) hN hL
 have J4:=(hz.w.rest ht).load (mM (now:=now) hN) (kY (now:=now) hL)
 have HE:=B8 (mM (now:=now) hN) (kY (now:=now) hL)
 have elm:ls.map (ik (fB now a))=ls.map (ik a):=rfl
 rw[elm]at J4 HE
 have UF:=jo g (ls.map (ik a)) (N.map (cS a))
 have Hf:(N.map (cS a)).length=N.length:=List.length_map _
 have rX:(ls.map (ik a)).length=ls.length:=List.length_map _
 obtain⟨BW,FM⟩:=ve (b:=body g (ls.map (ik a)) (N.map (cS a)))
 have xc:(whole (body g (ls.map (ik a)) (N.map (cS a)))).length=(body g (ls.map (ik a)) (N.map (cS a))).length+4:=by unfold whole;rw[List.length_append,bg]
 refine W.use (y6 k (whole (body g (ls.map (ik a)) (N.map (cS a)))) (fun h=>absurd h hk) (jq UF) (by omega) now (fun _ g' L' K' h=>?_) H) fun o H' hq=>?_
 ·rw[FM,PO]at h
  simp -implicitDefEqProofs only[Option.some.injEq,Prod.mk.injEq]at h
  obtain⟨_,rfl,rfl⟩:=h
  rw[List.length_map];omega
 ·rcases hq with⟨h,_⟩|⟨_,h,_⟩|⟨_,_,h,_⟩|⟨_,_,g',L',K',h,hq⟩
  ·exact absurd ht h
  ·exact absurd BW h
  ·rw[FM,PO]at h;cases h
  ·rw[FM,PO]at h
   simp -implicitDefEqProofs only[Option.some.injEq,Prod.mk.injEq]at h
   obtain⟨rfl,rfl,rfl⟩:=h
   rw[dF,HE]at hq
   rcases hq with⟨_,b,F,ho,pv⟩|⟨h,_⟩
   ·rw[List.length_map,List.length_map]at pv
    exact⟨b,F,ho,pv⟩
   ·exact absurd J4 h
def kA:ByteArray:=⟨#[97]⟩
def kB:ByteArray:=⟨#[98]⟩
def w1:ByteArray:=⟨#[49]⟩
def w2:ByteArray:=⟨#[50]⟩
def w3:ByteArray:=⟨#[51]⟩
def Pc:List qd:=[⟨1,65536,⟨#[]⟩,.arg,[(kA,w1),(kB,w2)],.arg,[kA,kB],0⟩,⟨2,65536,⟨#[]⟩,.arg,[],.arg,[],0⟩]
def UG:List qd:=[⟨1,131072,⟨#[]⟩,.arg,[(kA,w3)],.arg,[kA],0⟩,⟨2,131072,⟨#[]⟩,.arg,[],.arg,[],0⟩]
def L3:List qd:=Pc++UG
theorem aam:strLt kA kB=true:=by decide +kernel
theorem rI:kA≠kB:=by decide
theorem aan:lS 65536 [(kA,w1),(kB,w2)] [kA,kB]:=by
 refine⟨by decide,dD.1 (by decide +kernel),by decide,fun i hi p hp=>?_⟩
 match i,hi with
 | 0,_=>cases hp;exact⟨fun h=>absurd h (by decide),by simp,by decide⟩
 | 1,_=>cases hp;exact⟨fun _ q hq=>by cases hq;exact aam,by simp,by decide⟩
theorem aao:lS 131072 [(kA,w3)] [kA]:=by
 refine⟨by decide,dD.1 (by decide +kernel),by decide,fun i hi p hp=>?_⟩
 match i,hi with
 | 0,_=>cases hp;exact⟨fun h=>absurd h (by decide),by simp,by decide⟩
def aL:Ab:=⟨fun m=>if m.1=kA then(if m.2=65536 then some ⟨w1,[kA,kB],0⟩else if m.2=131072 then some ⟨w3,[kA],-1⟩else none)else if m.1=kB∧m.2=65536 then some ⟨w2,[kA,kB],-1⟩else none,
 fun k=>if k=kA then some 131072 else if k=kB then some 65536 else none⟩
def HH:Ab:=⟨fun m=>if m.2=65536 then(if m.1=kA then some ⟨w1,[kA,kB],-1⟩else if m.1=kB then some ⟨w2,[kA,kB],-1⟩else none)else none,fun _=>none⟩
def L4:Ab:=⟨HH.v,fun k=>if k=kA∨k=kB then some 65536 else none⟩
def UH:Ab:=⟨fun m=>if m.1=kA∧m.2=131072 then some ⟨w3,[kA],-1⟩else HH.v m,L4.l⟩
theorem al1:Ab.emp.put 65536 [(kA,w1),(kB,w2)] [kA,kB] 0=HH:=by
 refine gl (fun m=>?_) fun k=>rfl
 simp -implicitDefEqProofs only[Ab.put,Ab.emp,Ab.last,HH,ah,List.find?]
 by_cases h1:m.2=65536
 ·by_cases h2:m.1=kA
  ·simp[h1,h2]
  ·by_cases h3:m.1=kB
   ·simp[h1,h2,h3,rI.symm]
   ·simp[h1,h2,h3]
 ·simp[h1]
theorem al2:HH.n9 65536 0=L4:=by
 refine gl (fun m=>?_) fun k=>?_
 ·simp -implicitDefEqProofs only[Ab.n9,L4,HH,Ab.has,Ab.last]
  by_cases h1:m.2=65536
  ·simp[h1]
  ·simp[h1]
 ·simp -implicitDefEqProofs only[Ab.n9,L4,HH,Ab.has,Ab.last]
  by_cases h2:k=kA
  ·simp[h2]
  ·by_cases h3:k=kB
   ·simp[h3,rI.symm]
   ·simp[h2,h3]
theorem al3:L4.put 131072 [(kA,w3)] [kA] 0=UH:=by
 refine gl (fun m=>?_) fun k=>rfl
 simp -implicitDefEqProofs only[Ab.put,Ab.last,UH,L4,HH,ah,List.find?]
 by_cases h1:m.2=65536
 ·by_cases h2:m.1=kA
  ·simp[h1,h2]
  ·by_cases h3:m.1=kB
   ·simp[h1,h3,rI.symm]
   ·simp[h1,h2,h3]
 ·by_cases h4:m.2=131072
  ·by_cases h2:m.1=kA
   ·simp[h4,h2]
   ·simp[h4,h2]
  ·simp[h1,h4]
theorem al4:UH.n9 131072 0=aL:=by
 refine gl (fun m=>?_) fun k=>?_
 ·simp -implicitDefEqProofs only[Ab.n9,aL,UH,L4,HH,Ab.has,Ab.last]
  by_cases h2:m.1=kA
  ·by_cases h1:m.2=65536
   ·simp[h1,h2]
   ·by_cases h4:m.2=131072
    ·simp[h4,h2]
    ·simp[h1,h4,h2]
  ·by_cases h3:m.1=kB
   ·by_cases h1:m.2=65536
    ·simp[h1,h3,rI.symm]
    ·simp[h1,h3,rI.symm]
   ·simp[h2,h3]
 ·simp -implicitDefEqProofs only[Ab.n9,aL,UH,L4,HH,Ab.has,Ab.last]
  by_cases h2:k=kA
  ·simp[h2]
  ·by_cases h3:k=kB
   ·simp[h3,rI.symm]
   ·simp[h2,h3]
theorem G2:gD Ab.emp L3=aL:=by
 have t0:bm 0:=⟨by decide,by decide⟩
 have p1:∀a,rD a 65536 [(kA,w1),(kB,w2)] [kA,kB] 0=a.put 65536 [(kA,w1),(kB,w2)] [kA,kB] 0:=fun a=>if_pos ⟨aan,t0⟩
 have p2:∀a,rD a 131072 [(kA,w3)] [kA] 0=a.put 131072 [(kA,w3)] [kA] 0:=fun a=>if_pos ⟨aao,t0⟩
 have c1:∀a,rE a 65536 0=a.n9 65536 0:=fun a=>if_pos ⟨by decide,t0⟩
 have c2:∀a,rE a 131072 0=a.n9 131072 0:=fun a=>if_pos ⟨by decide,t0⟩
 unfold gD L3 Pc UG
 simp -implicitDefEqProofs only[List.cons_append,List.nil_append,List.foldl_cons,List.foldl_nil,hG,if_true,show((2:Int)=1)=False by decide,if_false,p1,p2,c1,c2,al1,al2,al3,al4]
def aN:List Nm:=[(kA,65536),(kA,131072),(kB,65536)]
theorem nV:Names aL aN:=by
 refine⟨by decide +kernel,fun m=>?_⟩
 obtain⟨k,n⟩:=m
 simp -implicitDefEqProofs only[aN,aL,Ab.has,List.mem_cons,List.not_mem_nil,or_false,Prod.mk.injEq]
 by_cases h2:k=kA
 ·by_cases h1:n=65536
  ·simp[h1,h2]
  ·by_cases h4:n=131072
   ·simp[h4,h2]
   ·simp[h1,h4,h2,rI]
 ·by_cases h3:k=kB
  ·by_cases h1:n=65536
   ·simp[h1,h3,rI.symm]
   ·simp[h1,h3,rI.symm]
  ·simp[h2,h3]
theorem lO:dv aL [kA,kB]:=by
 refine⟨by decide +kernel,fun k=>?_⟩
 simp -implicitDefEqProofs only[aL,List.mem_cons,List.not_mem_nil,or_false]
 by_cases h2:k=kA
 ·simp[h2]
 ·by_cases h3:k=kB
  ·simp[h3,rI.symm]
  ·simp[h2,h3]
end Go.Proofs.YtdcpehdijdllpaaGreat.St
end

section
namespace Go.Proofs.YtdcpehdijdllpaaGreat.St
open Go.Rmp Go.Proofs.YtdcpehdijdllpaaGreat.Ir
set_option maxRecDepth 10000
theorem Ck (H:af):W env (.call 26 []) H (py (.sl .full (Pc.map eO)) H):=by
 refine W.bS rfl rfl rfl ?_
 simp -implicitDefEqProofs only[Np,op,ef,cl,sq,reduceIte,q5,q6,q7,q9,j1,j2,j3,j4,j5,S1]
 rfl
theorem opx:∀o∈L3,y7 o:=fun o ho=>by
 simp -implicitDefEqProofs only[L3,Pc,UG,List.cons_append,List.nil_append,List.mem_cons,List.not_mem_nil,or_false]at ho
 rcases ho with rfl|rfl|rfl|rfl<;>exact⟨(fun h=>by cases h),by decide,by decide,by decide⟩
theorem aap:hO aL 100000:=by
 have:=hO.emp.run L3 opx
 rw[G2]at this
 exact this.le (by decide)
theorem UI (now:Int):aN.map (cS (fB now aL))=[⟨kA,65536,w1,.arg,[kA,kB],now⟩,⟨kA,131072,w3,.arg,[kA],-1⟩,⟨kB,65536,w2,.arg,[kA,kB],-1⟩]:=by
 have n1:(kB=kA)=False:=by simp[rI.symm]
 simp -implicitDefEqProofs only[aN,List.map_cons,List.map_nil,cS,fB,aL,Ab.last,n1,if_true,if_false,g5]
 rfl
theorem rJ:body 1 [] []=[114,97,109,112,1,0,0,0,0,0,0,0,1,0,0,0,0,0,0,0,0]:=by rfl
theorem vg (l:List Nat):mU 0 (dh 4 (gb l))=gb l:=by
 rw[yS,Nat.mod_eq_of_lt (show gb l<256^4 from Kf l)];omega
theorem KE:Names Ab.emp []:=⟨List.Pairwise.nil,fun m=>by simp[Ab.has,Ab.emp]⟩
theorem G3:dv Ab.emp []:=⟨List.Pairwise.nil,fun m=>by simp[Ab.emp]⟩
set_option maxHeartbeats 4000000 in
theorem Pd (H:af):W env (.call 8 []) H (fun o H'=>o=.val (.bool true)∧Ext H H'):=by
 refine W.bS rfl rfl rfl ?_
 simp -implicitDefEqProofs only[WJ,op,ef,cl,sq,reduceIte,q5,q6,q7,q9,j1,j2,j3,j4,j5,S1]
 refine ae _ _ _ _ _ _ _ _ (GV .nil [] (fun o ho=>by cases ho) (by decide) (by decide) _) ?_
 rintro u H1⟨b1,F1,hu,O9⟩
 cases hu
 have x1:Ext H H1:=gC O9.ma
 have a1:kd H1 b1 Ab.emp F1 0:=O9.at_
 simp -implicitDefEqProofs only[op,ef,cl,sq,reduceIte,q5,q6,q7,q9,j1,j2,j3,j4,j5,S1]
 refine ae _ _ _ _ _ _ _ _ (Ck _) ?_
 rintro u H2⟨hu,rfl⟩
 cases hu
 have cn:=all_map (enc:=eO) (n:=6) (fun _=>rfl) Pc
 obtain⟨k3,H3,ha,_,dF⟩:=kR (n0:=H2.length) (H:=H2) (bytes:=88) (k:=.full) (Pc.map eO) (UG.map eO) (.inr (.inl rfl)) (Nat.le_refl _) (by simp[UG]) (kS (by decide))
 have rN:Ext H2 H3:=dF.ext H2 (Nat.le_refl _) Ext.rfl'
 have Oy:gK H2 88 .full (Pc.map eO) [[T.int .i64 1,.int .u64 131072,.str ⟨#[]⟩,.sl .arg [[.str ⟨#[97]⟩,.str ⟨#[51]⟩]],.sl .arg [[.str ⟨#[97]⟩]],.int .i64 0],[.int .i64 2,.int .u64 131072,.str ⟨#[]⟩,.sl .arg [],.sl .arg [],.int .i64 0]]=some (.sl k3 (L3.map eO),H3):=ha
 simp -implicitDefEqProofs only[op,ef,cl,sq,reduceIte,q5,q6,q7,q9,j1,j2,j3,j4,j5,S1,cn,Oy]
 refine ae _ _ _ _ _ _ _ _ (GV k3 L3 opx (by decide) (by decide) _) ?_
 rintro u H4⟨b2,F2,hu,VM⟩
 cases hu
 rw[G2]at VM
 have xK:Ext H3 H4:=gC VM.ma
 have e1:dR .ptr (.ptr b1.s 0) .bV=some false:=rfl
 have e2:dR .ptr (.ptr b2.s 0) .bV=some false:=rfl
 have a1:=(a1.ext rN).ext xK
 obtain⟨W1,Pe⟩:∃W1,W1=whole (body 1 [] []):=⟨_,rfl⟩
 have js:W env (.call 10 [.int .i64 1,.ptr b1.s 0]) H4 (fun o H'=>Ext H4 H'∧∃k,k≠.nil∧o=.val (.bN [.sl k (W1.map eB),.int .i64 0])):=by
  rw[Pe];exact uZ a1 (by decide) (fun k n h=>by cases h) KE G3 1 ⟨by decide,by decide⟩ (by decide)
 simp -implicitDefEqProofs only[op,ef,cl,sq,reduceIte,q5,q6,q7,q9,j1,j2,j3,j4,j5,S1,e1,e2]
 refine ae _ _ _ _ _ _ _ _ js ?_
 rintro u H5⟨oY,k5,_,hu⟩
 cases hu
 have oY:Ext H4 H5:=oY
 have lW:W1.length=25:=by rw[Pe];unfold whole;rw[List.length_append,bg,rJ];rfl
 have bW:dt W1:=by rw[Pe];exact jq (jo _ _ _)
 have g0:W1[0]?=some 114:=by rw[Pe];unfold whole;rw[rJ];rfl
 have P4:W1[12]?=some 1:=by rw[Pe];unfold whole;rw[rJ];rfl
 have tW:W1.take 21=body 1 [] []:=by rw[Pe];unfold whole;exact List.take_left' (by rw[rJ];rfl)
 have dW:W1.drop 21=dh 4 (gb (body 1 [] [])):=by rw[Pe];unfold whole;exact List.drop_left' (by rw[rJ];rfl)
 have i0:eI 1 0 (.sl k5 (W1.map eB))=some (.dL [.int .u8 114]):=iT (e:=eB) (n:=1) (fun _=>rfl) (by decide) (k:=k5) g0
 have i12:eI 1 12 (.sl k5 (W1.map eB))=some (.dL [.int .u8 1]):=iT (e:=eB) (n:=1) (fun _=>rfl) (by decide) (k:=k5) P4
 have KF:∀R Hx a,(X.r a).ev R=.sl k5 (W1.map eB)→ak R Hx (.gm 1 (.r a) none (some (.c (.int .i64 21))) none)=some (.sl (k5.cut W1.length 0 21) ((W1.take 21).map eB),Hx):=fun R Hx a ha=>by
  have:=GH (Hx:=Hx) (lo:=none) (hi:=some (.c (.int .i64 21))) (a:=0) (b:=21) ha rfl rfl (by decide) (by omega)
  simpa using this
 have n0:cj (.int .i64 0)=some 0:=rfl
 have n1:cj (.int .i64 1)=some 1:=rfl
 have Za:cj (.int .i64 12)=some 12:=rfl
 have Sq:((25:Nat):Int)=25:=rfl
 simp -implicitDefEqProofs only[op,ef,cl,sq,reduceIte,q5,q6,q7,q9,j1,j2,j3,j4,j5,S1,List.length_map,lW,Sq,n0,Za,i0,i12,fo,↓KF]
 refine ae _ _ _ _ _ _ _ _ (Cj k5 W1 bW (n:=21) lW (by omega) _) ?_
 rintro u H6⟨hu,rfl⟩
 cases hu
 rw[dW,vg]
 simp -implicitDefEqProofs only[op,ef,cl,sq,reduceIte,q5,q6,q7,q9,j1,j2,j3,j4,j5,S1,↓KF]
 rw[tW]
 refine ae _ _ _ _ _ _ _ _ (G0 _ (body 1 [] []) (by rw[rJ];decide) _) ?_
 rintro u H7⟨tO,hu⟩
 cases hu
 have tO:Ext H6 H7:=tO
 simp -implicitDefEqProofs only[op,ef,cl,sq,reduceIte,q5,q6,q7,q9,j1,j2,j3,j4,j5,S1,↓KF]
 refine ae _ _ _ _ _ _ _ _ (LR .arg (body 1 [] []) (jo _ _ _) (by rw[rJ];decide) _) ?_
 rintro u H8⟨xy,hu⟩
 cases hu
 have xy:Ext H7 H8:=xy
 simp -implicitDefEqProofs only[op,ef,cl,sq,reduceIte,q5,q6,q7,q9,j1,j2,j3,j4,j5,S1,↓KF]
 have a2:kd H8 b2 aL F2 (dn L3):=((VM.at_.ext oY).ext tO).ext xy
 have hz:=aap
 obtain⟨K2,P5⟩:∃K2,K2=body 7 ([kA,kB].map (ik aL)) (aN.map (cS aL)):=⟨_,rfl⟩
 have a7:K2.length≤200000:=by rw[P5];exact Nat.le_trans (hz.body nV lO 7) (by decide)
 obtain⟨W2,VN⟩:∃W2,W2=whole K2:=⟨_,rfl⟩
 have lW2:W2.length=K2.length+4:=by rw[VN];unfold whole;rw[List.length_append,bg]
 have bW2:dt W2:=by rw[VN,P5];exact jq (jo _ _ _)
 have pw:W env (.call 10 [.int .i64 7,.ptr b2.s 0]) H8 (fun o H'=>Ext H8 H'∧∃k,k≠.nil∧o=.val (.bN [.sl k (W2.map eB),.int .i64 0])):=by
  rw[VN,P5];exact uZ a2 (by decide) hz.w.L nV lO 7 ⟨by decide,by decide⟩ (by have:=a7;rw[P5]at this;exact Nat.le_trans this (by decide))
 refine ae _ _ _ _ _ _ _ _ pw ?_
 rintro u H9⟨LU,k9,hk9,hu⟩
 cases hu
 have LU:Ext H8 H9:=LU
 simp -implicitDefEqProofs only[op,ef,cl,sq,reduceIte,q5,q6,q7,q9,j1,j2,j3,j4,j5,S1]
 refine ae _ _ _ _ _ _ _ _ (G0 k9 W2 (by omega) _) ?_
 rintro u yZ⟨o3,hu⟩
 cases hu
 have o3:Ext H9 yZ:=o3
 have t9:bm 9:=⟨by decide,by decide⟩
 have Tc:W env (.call 17 [.sl .arg (W2.map eB),.int .i64 9]) yZ (fun o H'=>∃b F,o=.val (.bN [.int .i64 7,.ptr b.s 0,.int .i64 0])∧mc yZ H' b (fB 9 aL) F aN.length):=by
  rw[VN,P5];exact rH hz nV lO (g:=7) (by decide) (by decide) t9 (by decide) (by decide) (by have:=a7;rw[P5]at this;omega) .arg (by simp) _
 simp -implicitDefEqProofs only[op,ef,cl,sq,reduceIte,q5,q6,q7,q9,j1,j2,j3,j4,j5,S1]
 refine ae _ _ _ _ _ _ _ _ Tc ?_
 rintro u GF⟨b3,F3,hu,Ky⟩
 cases hu
 have u2:Ext yZ GF:=gC Ky.ma
 have e3:dR .ptr (.ptr b3.s 0) .bV=some false:=rfl
 simp -implicitDefEqProofs only[op,ef,cl,sq,reduceIte,q5,q6,q7,q9,j1,j2,j3,j4,j5,S1,e3]
 refine ae _ _ _ _ _ _ _ _ (LK Ky.at_ (by decide)) ?_
 rintro u HD⟨o5,VH,l12,_,aaq,_,hu⟩
 cases hu
 have o5:Ext GF HD:=o5
 have e12:=aaq.uniq (mM (now:=9) nV)
 subst e12
 have eK:aN.map (Vt (fB 9 aL))=[[.str kA,.int .u64 65536,.str w1,.sl .arg [[.str kA],[.str kB]],.int .i64 9],[.str kA,.int .u64 131072,.str w3,.sl .arg [[.str kA]],.int .i64 (-1)],[.str kB,.int .u64 65536,.str w2,.sl .arg [[.str kA],[.str kB]],.int .i64 (-1)]]:=by
  have:=congrArg (List.map me) (UI 9)
  rw[List.map_map]at this
  exact this
 rw[eK]
 have wl:IntKind.i64.wrap ((W2.length:Int)-1)=((W2.length-1:Nat):Int):=by rw[wrap64 (by omega)];omega
 have dF:=rA (k:=k9) (l:=W2) (n:=W2.length-1) (by omega)
 simp -implicitDefEqProofs only[op,ef,cl,sq,reduceIte,q5,q6,q7,q9,j1,j2,j3,j4,j5,S1,List.length_map,wl,↓dF]
 refine ae _ _ _ _ _ _ _ _ (G0 _ (W2.take (W2.length-1)) (by rw[List.length_take];omega) _) ?_
 rintro u CF⟨pE,hu⟩
 cases hu
 have pE:Ext HD CF:=pE
 have hl3:(W2.take (W2.length-1)).length≤300000:=by rw[List.length_take];omega
 have Cx:dt (W2.take (W2.length-1)):=bW2.take _
 simp -implicitDefEqProofs only[op,ef,cl,sq,reduceIte,q5,q6,q7,q9,j1,j2,j3,j4,j5,S1]
 refine ae _ _ _ _ _ _ _ _ (y6 .arg (W2.take (W2.length-1)) (fun h=>by cases h) Cx (by omega) (-1) (fun _ g L K h=>by
  have h1:=G1 (Cx.take _) h
  have h2:((W2.take (W2.length-1)).take ((W2.take (W2.length-1)).length-4)).length≤(W2.take (W2.length-1)).length:=by rw[List.length_take];omega
  omega) _) ?_
 rintro u Kn hq
 have nt:¬bm (-1):=fun h=>by have:=h.1;omega
 rcases hq with⟨_,hu,y0⟩|⟨h,_⟩|⟨h,_⟩|⟨h,_⟩
 rotate_left
 ·exact absurd h nt
 ·exact absurd h nt
 ·exact absurd h nt
 cases hu
 have y0:Ext CF Kn:=y0
 have l0:eI 5 0 (.sl VH [[.str kA,.int .u64 65536,.str w1,.sl .arg [[.str kA],[.str kB]],.int .i64 9],[.str kA,.int .u64 131072,.str w3,.sl .arg [[.str kA]],.int .i64 (-1)],[.str kB,.int .u64 65536,.str w2,.sl .arg [[.str kA],[.str kB]],.int .i64 (-1)]])=some (.dL [.str kA,.int .u64 65536,.str w1,.sl .arg [[.str kA],[.str kB]],.int .i64 9]):=li0 rfl
 have l1:eI 5 1 (.sl VH [[.str kA,.int .u64 65536,.str w1,.sl .arg [[.str kA],[.str kB]],.int .i64 9],[.str kA,.int .u64 131072,.str w3,.sl .arg [[.str kA]],.int .i64 (-1)],[.str kB,.int .u64 65536,.str w2,.sl .arg [[.str kA],[.str kB]],.int .i64 (-1)]])=some (.dL [.str kA,.int .u64 131072,.str w3,.sl .arg [[.str kA]],.int .i64 (-1)]):=Y4 rfl
 have UJ:dR .ptr .bV .bV=some true:=rfl
 have a3:kd Kn b3 (fB 9 aL) F3 aN.length:=((Ky.at_.ext o5).ext pE).ext y0
 have PC:(w1=⟨#[49]⟩)=True:=eq_true rfl
 simp -implicitDefEqProofs only[op,ef,cl,sq,reduceIte,q5,q6,q7,q9,j1,j2,j3,j4,j5,S1,n0,n1,l0,l1,fo,PC]
 refine ae _ _ _ _ _ _ _ _ (Ar a3 (by decide) (hz.rest (now:=9) t9).w.L) ?_
 rintro u ZZ⟨GG,k15,l15,_,aar,_,hu⟩
 cases hu
 have GG:Ext Kn ZZ:=GG
 have e15:=aar.uniq (kY (now:=9) lO)
 subst e15
 have e1:dR .ptr .bV .bV=some true:=rfl
 simp -implicitDefEqProofs only[op,ef,cl,sq,reduceIte,q5,q6,q7,q9,j1,j2,j3,j4,j5,S1,UJ,List.map_cons,List.map_nil,List.length_cons,List.length_nil]
 exact x1.trans (rN.trans (xK.trans (oY.trans (tO.trans (xy.trans (LU.trans (o3.trans (u2.trans (o5.trans (pE.trans (y0.trans GG)))))))))))
theorem Cl {a:Ab}(hw:tP a){N:List Nm}(hN:Names a N):∃ls,dv a ls∧ls.length≤N.length:=by
 refine⟨(N.filter fun m=>decide (a.l m.1=some m.2)).map (·.1),⟨List.pairwise_map.2 ?_,fun k=>?_⟩,by rw[List.length_map];exact List.length_filter_le _ _⟩
 ·refine(hN.1.filter fun m=>decide (a.l m.1=some m.2)).imp_of_mem fun {x y} hx hy h=>?_
  have h1:=of_decide_eq_true (List.mem_filter.1 hx).2
  have h2:=of_decide_eq_true (List.mem_filter.1 hy).2
  rcases(nK _ _).1 h with h|⟨h,h'⟩
  ·exact h
  ·rw[h,h2]at h1;have:=Option.some.inj h1;omega
 ·rw[List.mem_map]
  constructor
  ·rintro⟨m,hm,rfl⟩
   rw[of_decide_eq_true (List.mem_filter.1 hm).2];rfl
  ·intro h
   obtain⟨n,hn⟩:=Option.isSome_iff_exists.1 h
   exact⟨(k,n),List.mem_filter.2 ⟨(hN.2 _).2 (hw.L k n hn),decide_eq_true hn⟩,rfl⟩
theorem Pf (o:qd):2*o.iK.length≤bo o:=by unfold bo;have:=y9 o.iK;omega
theorem AJ:∀l:List qd,2*dn l≤HG l
 | []=>Nat.le_refl _
 | o :: l=>by
  have h1:=AJ l
  have h2:=Pf o
  simp -implicitDefEqProofs only[dn,HG,List.map_cons,List.sum_cons]at h1 ⊢;omega
def vD:List Nat→Nat
 | []=>0
 | c :: l=>c+256*vD l
theorem nW {c x:Nat}(h:c<256):c+256*x=c ^^^ 256*x:=by
 have h1:=Nat.two_pow_add_eq_or_of_lt (i:=8) (b:=c) h x
 have h2:c ^^^ 256*x=256*x ||| c:=by
  refine Nat.eq_of_testBit_eq fun i=>?_
  have e:256*x=2^8*x:=rfl
  rw[Nat.testBit_xor,Nat.testBit_or,e,Nat.testBit_two_pow_mul]
  by_cases hi:8≤i
  ·have:c.testBit i=false:=Nat.testBit_lt_two_pow (Nat.lt_of_lt_of_le h (Nat.pow_le_pow_right (n:=2) (by decide) hi))
   simp[hi,this]
  ·simp[hi]
 rw[h2,show 256*x=2^8*x from rfl,←h1];omega
theorem AK (k a b:Nat):2^k*(a ^^^ b)=2^k*a ^^^ 2^k*b:=by
 have:=Nat.shiftLeft_xor_distrib (a:=a) (b:=b) (i:=k)
 simp -implicitDefEqProofs only[Nat.shiftLeft_eq]at this
 rw[Nat.mul_comm,this,Nat.mul_comm a,Nat.mul_comm b]
theorem KG (x:Nat):cO 8 (256*x)=x:=by
 have e:256*x=16*(16*x):=by omega
 rw[show(8:Nat)=4+4 from rfl,kW,e,yW,yW]
theorem za:∀(l:List Nat) (w:Nat),dt l→mJ w l=cO (8*l.length) (w ^^^ vD l)
 | [],w,_=>by simp[mJ,vD,cO]
 | c :: l,w,h=>by
  have hc:=h c (by simp)
  have ih:=za l (yX w c) fun x hx=>h x (List.mem_cons_of_mem _ hx)
  show mJ (yX w c) l=_
  rw[ih,List.length_cons,show 8*(l.length+1)=8+8*l.length by omega,kW]
  congr 1
  show yX w c ^^^ vD l=cO 8 (w ^^^ (c+256*vD l))
  rw[nW hc,←Nat.xor_assoc,nP,KG];rfl
theorem G4 {a b:Nat}(h:a ^^^ b=0):a=b:=by
 have:=congrArg (· ^^^ b) h
 simpa[Nat.xor_assoc]using this
theorem Pg {w:Nat}(h:w<4294967296)(h0:w≠0):rv w≠0:=by
 unfold rv
 intro e
 have e2:=G4 e
 split at e2
 ·have:J9=3988292384:=rfl
  omega
 ·omega
theorem AL:∀(n:Nat) {w:Nat},w<4294967296→w≠0→cO n w≠0
 | 0,_,_,h=>h
 | n+1,_,h,h0=>AL n (Gt h) (Pg h h0)
theorem xC:∀(a p:Nat),cO a (2^a*p)=p
 | 0,p=>by simp[cO]
 | a+1,p=>by
  show cO a (rv (2^(a+1)*p))=p
  rw[Nat.pow_succ,show 2^a*2*p=2*(2^a*p) by rw[Nat.mul_comm (2^a) 2,Nat.mul_assoc],kX,xC a]
theorem AM {x b:Nat}(hx:x<256)(hb:b<8):x ^^^ 2^b<256:=Nat.xor_lt_two_pow (n:=8) hx (Nat.pow_lt_pow_right (by decide) hb)
theorem AN:∀(l:List Nat) (j b x:Nat),dt l→l[j]?=some x→b<8→vD (l.set j (x ^^^ 2^b))=vD l ^^^ 2^(8*j+b)
 | [],j,b,x,_,h,_=>by simp at h
 | c :: l,0,b,x,h,hx,hb=>by
  simp -implicitDefEqProofs only[List.getElem?_cons_zero,Option.some.injEq]at hx
  subst hx
  have hc:=h c (by simp)
  show(c ^^^ 2^b)+256*vD l=(c+256*vD l) ^^^ 2^(8*0+b)
  rw[nW (AM hc hb),nW hc,Nat.mul_zero,Nat.zero_add,Nat.xor_assoc,Nat.xor_assoc,Nat.xor_comm (2^b)]
 | c :: l,j+1,b,x,h,hx,hb=>by
  have hc:=h c (by simp)
  have ih:=AN l j b x (fun y hy=>h y (List.mem_cons_of_mem _ hy)) (by simpa using hx) hb
  show c+256*vD (l.set j (x ^^^ 2^b))=(c+256*vD l) ^^^ 2^(8*(j+1)+b)
  rw[ih,nW hc,nW hc,show 256*(vD l ^^^ 2^(8*j+b))=256*vD l ^^^ 256*2^(8*j+b) from AK 8 _ _,show 256*2^(8*j+b)=2^(8*(j+1)+b) by rw[show(256:Nat)=2^8 from rfl,←Nat.pow_add];congr 1;omega,Nat.xor_assoc]
def on (at_ en mask i:Nat):Prop:=at_+i<en∧mask/2^i%2=1
instance (at_ en mask i:Nat):Decidable (on at_ en mask i):=by unfold on;infer_instance
def fl (at_ en mask:Nat)(l:List Nat):Nat→List Nat
 | 0=>l
 | i+1=>if on at_ en mask i then(fl at_ en mask l i).set ((at_+i)/8) (((fl at_ en mask l i)[(at_+i)/8]?).getD 0 ^^^ 2^((at_+i)%8))else fl at_ en mask l i
def pat (at_ en mask:Nat):Nat→Nat
 | 0=>0
 | i+1=>if on at_ en mask i then pat at_ en mask i ^^^ 2^i else pat at_ en mask i
section
variable {at_ en mask:Nat} {l:List Nat}
theorem kZ:∀i,(fl at_ en mask l i).length=l.length
 | 0=>rfl
 | i+1=>by
  unfold fl
  split
  ·rw[List.length_set,kZ i]
  ·exact kZ i
theorem G5 (h:en≤8*l.length){i:Nat}(ho:on at_ en mask i):∃x,(fl at_ en mask l i)[(at_+i)/8]?=some x:=by
 have:=ho.1
 exact cB (by rw[kZ];omega)
theorem mN (hb:dt l)(h:en≤8*l.length):∀i,dt (fl at_ en mask l i)
 | 0=>hb
 | i+1=>by
  unfold fl
  split
  ·rename_i ho
   obtain⟨x,hx⟩:=G5 h ho
   have hxb:=mN hb h i x (List.mem_of_getElem? hx)
   rw[hx]
   intro y hy
   rcases List.mem_or_eq_of_mem_set hy with hy|rfl
   ·exact mN hb h i y hy
   ·exact AM hxb (Nat.mod_lt _ (by decide))
  ·exact mN hb h i
theorem AO (hb:dt l)(h:en≤8*l.length):∀i,vD (fl at_ en mask l i)=vD l ^^^ 2^at_*pat at_ en mask i
 | 0=>by simp[fl,pat]
 | i+1=>by
  unfold fl pat
  split
  ·rename_i ho
   obtain⟨x,hx⟩:=G5 h ho
   rw[hx]
   show vD ((fl at_ en mask l i).set ((at_+i)/8) (x ^^^ 2^((at_+i)%8)))=_
   rw[AN _ _ _ x (mN hb h i) hx (Nat.mod_lt _ (by decide)),AO hb h i,show 8*((at_+i)/8)+(at_+i)%8=at_+i by omega,AK,Nat.pow_add,Nat.xor_assoc]
  ·exact AO hb h i
theorem vj:∀i,pat at_ en mask i<2^i
 | 0=>by simp[pat]
 | i+1=>by
  have h1:=vj i
  have h2:2^i<2^(i+1):=Nat.pow_lt_pow_right (by decide) (by omega)
  unfold pat
  split
  ·exact Nat.xor_lt_two_pow (by omega) h2
  ·omega
theorem AP {m:Nat}(h:en≤8*m):∀i,(fl at_ en mask l i).take m=fl at_ en mask (l.take m) i
 | 0=>rfl
 | i+1=>by
  have ih:=AP h i
  unfold fl
  split
  ·rename_i ho
   have hj:(at_+i)/8<m:=by have:=ho.1;omega
   rw[List.take_set,ih,←ih,List.getElem?_take_of_lt hj]
  ·exact ih
theorem AQ {m:Nat}(h:en≤8*m):∀i,(fl at_ en mask l i).drop m=l.drop m
 | 0=>rfl
 | i+1=>by
  have ih:=AQ h i
  unfold fl
  split
  ·rename_i ho
   have hj:(at_+i)/8<m:=by have:=ho.1;omega
   rw[List.drop_set_of_lt hj,ih]
  ·exact ih
theorem rK {m:Nat}(h:8*m≤at_):∀i,(fl at_ en mask l i).take m=l.take m
 | 0=>rfl
 | i+1=>by
  have ih:=rK h i
  unfold fl
  split
  ·rw[List.take_set,ih,List.set_eq_of_length_le (by rw[List.length_take];omega)]
  ·exact ih
end
theorem KH {a b:List Nat}(ha:dt a)(hb:dt b)(h:gb a=gb b):mJ 4294967295 a=mJ 4294967295 b:=by
 have h1:=nQ a (w:=4294967295) (by decide) ha
 have h2:=nQ b (w:=4294967295) (by decide) hb
 unfold gb at h;omega
theorem Ph {Bd:List Nat}(hb:dt Bd){at_ mask i:Nat}(KQ:at_≤8*Bd.length)(hi:i≤32)(hp:pat at_ (8*Bd.length) mask i≠0):¬jO (fl at_ (8*Bd.length) mask (whole Bd) i):=by
 intro hs
 have xc:(whole Bd).length=Bd.length+4:=by unfold whole;rw[List.length_append,bg]
 have hm:(fl at_ (8*Bd.length) mask (whole Bd) i).length-4=Bd.length:=by rw[kZ,xc];omega
 have h1:=hs.2
 have VO:(whole Bd).take Bd.length=Bd:=by unfold whole;exact List.take_left' rfl
 have hdw:(whole Bd).drop Bd.length=dh 4 (gb Bd):=by unfold whole;exact List.drop_left' rfl
 rw[hm,AP (Nat.le_refl _),AQ (Nat.le_refl _),VO,hdw]at h1
 have h2:=congrArg (mU 0) h1
 rw[vg,vg]at h2
 have VP:=mN (at_:=at_) (mask:=mask) hb (Nat.le_refl _) i
 have h3:=KH VP hb h2
 rw[za _ _ VP,za _ _ hb,kZ,AO hb (Nat.le_refl _),←Nat.xor_assoc,nP]at h3
 have h4:cO (8*Bd.length) (2^at_*pat at_ (8*Bd.length) mask i)=0:=by
  have:=congrArg (cO (8*Bd.length) (4294967295 ^^^ vD Bd) ^^^ ·) h3
  simpa[←Nat.xor_assoc]using this
 rw[show 8*Bd.length=at_+(8*Bd.length-at_) by omega,kW,←show 8*Bd.length=at_+(8*Bd.length-at_) by omega,xC]at h4
 have ax:=vj (at_:=at_) (en:=8*Bd.length) (mask:=mask) i
 have h32:2^i≤2^32:=Nat.pow_le_pow_right (by decide) hi
 have e32:(2:Nat)^32=4294967296:=by decide
 exact AL _ (by omega) hp h4
theorem Pj {Bd:List Nat}(hb:dt Bd){at_ en mask i:Nat}(KQ:8*Bd.length≤at_)(hen:en≤8*(whole Bd).length)(hp:pat at_ en mask i≠0):¬jO (fl at_ en mask (whole Bd) i):=by
 intro hs
 have hwb:=jq hb
 have xc:(whole Bd).length=Bd.length+4:=by unfold whole;rw[List.length_append,bg]
 have hm:(fl at_ en mask (whole Bd) i).length-4=Bd.length:=by rw[kZ,xc];omega
 have h1:=hs.2
 have VO:(whole Bd).take Bd.length=Bd:=by unfold whole;exact List.take_left' rfl
 have hdw:(whole Bd).drop Bd.length=dh 4 (gb Bd):=by unfold whole;exact List.drop_left' rfl
 rw[hm,rK KQ,VO]at h1
 have e:fl at_ en mask (whole Bd) i=whole Bd:=by
  rw[←List.take_append_drop Bd.length (fl at_ en mask (whole Bd) i),rK KQ,VO,←h1];rfl
 have h2:=AO (at_:=at_) (en:=en) (mask:=mask) hwb hen i
 rw[e]at h2
 have h3:=congrArg (vD (whole Bd) ^^^ ·) h2
 simp -implicitDefEqProofs only[←Nat.xor_assoc,Nat.xor_self,Nat.zero_xor]at h3
 have:0<2^at_*pat at_ en mask i:=Nat.mul_pos (Nat.pow_pos (by decide)) (Nat.pos_of_ne_zero hp)
 omega
theorem xD {at_ en mask:Nat}{l:List Nat}:∀i,pat at_ en mask i=0→(∀j,j<i→¬on at_ en mask j)∧fl at_ en mask l i=l
 | 0,_=>⟨fun j h=>absurd h (by omega),rfl⟩
 | i+1,h=>by
  by_cases ho:on at_ en mask i
  ·exfalso
   have e:pat at_ en mask (i+1)=pat at_ en mask i ^^^ 2^i:=if_pos ho
   rw[e]at h
   have h1:=G4 h
   have:=vj (at_:=at_) (en:=en) (mask:=mask) i
   omega
  ·have e:pat at_ en mask (i+1)=pat at_ en mask i:=if_neg ho
   rw[e]at h
   obtain⟨h1,h2⟩:=xD (l:=l) i h
   refine⟨fun j hj=>?_,?_⟩
   ·by_cases MD:j=i
    ·subst MD;exact ho
    ·exact h1 j (by omega)
   ·have e2:fl at_ en mask l (i+1)=fl at_ en mask l i:=if_neg ho
    rw[e2,h2]
theorem UK (a b:Nat):(a:Int).tdiv (b:Int)=((a/b:Nat):Int):=by
 rw[Int.tdiv_eq_ediv_of_nonneg (by omega)];rfl
theorem L5 (a b:Nat):(a:Int).tmod (b:Int)=((a%b:Nat):Int):=by
 rw[Int.tmod_eq_emod_of_nonneg (by omega)];rfl
theorem Pk (n:Int):∃m:Nat,IntKind.u64.wrap n=(m:Int)∧m<18446744073709551616:=by
 refine⟨(IntKind.u64.wrap n).toNat,?_⟩
 unfold IntKind.wrap
 simp -implicitDefEqProofs only[IntKind.signed,IntKind.bits]
 simp
 omega
theorem UL {a i:Nat}(h:i<32):(a:Int).fdiv (2^(min (i:Int).toNat IntKind.u32.bits))=((a/2^i:Nat):Int):=by
 have e:min (i:Int).toNat IntKind.u32.bits=i:=by
  show min (i:Int).toNat 32=i
  rw[Int.toNat_natCast];omega
 rw[e];exact T0 a i
theorem Pl {b:Nat}(h:b<8):IntKind.u8.wrap (1*2^(min (b:Int).toNat IntKind.u8.bits))=((2^b:Nat):Int):=by
 have e:min (b:Int).toNat IntKind.u8.bits=b:=by
  show min (b:Int).toNat 8=b
  rw[Int.toNat_natCast];omega
 rw[e,Int.one_mul]
 have h2:2^b<256:=Nat.pow_lt_pow_right (show 1<2 by decide) h
 have e2:(2:Int)^b=((2^b:Nat):Int):=by simp
 rw[e2,ry,Nat.mod_eq_of_lt h2]
theorem aat {a b:Nat}(ha:a<256)(hb:b<256):IntKind.u8.wrap ((BitVec.ofInt IntKind.u8.bits (a:Int) ^^^ BitVec.ofInt IntKind.u8.bits (b:Int)).toNat:Nat)=((a ^^^ b:Nat):Int):=by
 have e:(BitVec.ofInt IntKind.u8.bits (a:Int) ^^^ BitVec.ofInt IntKind.u8.bits (b:Int)).toNat=a ^^^ b:=Gv 8 a b ha hb
 rw[e,ry,Nat.mod_eq_of_lt (Nat.xor_lt_two_pow (n:=8) ha hb)]
theorem L6 {c:Nat}{l:List Nat}{now:Int}{H:af}{Q:Out→af→Prop}(hc:H[c]?=some (.cells (aJ eB l)))(h:W env (.call 17 [.sl .arg (l.map eB),.int .i64 now]) (H.set c .dead) Q):W env (.call 17 [.ay c 0 l.length 1,.int .i64 now]) H Q:=by
 refine W.A1 0 rfl hc ?_
 have h1:0+l.length*1≤(aJ eB l).length:=by rw[cY (n:=1) fun _=>rfl];omega
 have e:[T.ay c 0 l.length 1,.int .i64 now].map (xN c (aJ eB l))=[.sl .arg (l.map eB),.int .i64 now]:=by
  simp -implicitDefEqProofs only[List.map_cons,List.map_nil,xN,Go.Rmp.vG,h1,and_self,if_true,uE (n:=1) (enc:=eB) (fun _=>rfl)]
 rw[e];exact h
theorem q1f (q:Nat)(h:¬q=1):((q:Int)==1)=false:=by simp;omega
set_option maxHeartbeats 8000000 in
theorem KI (k:SK)(ops:List qd)(ho:∀o∈ops,y7 o)(hb:HG ops≤1048576)(hl:ops.length≤8000000)(at0:Int)(mask:Nat)(UM:mask<4294967296)(H:af) :
  W env (.call 5 [.sl k (ops.map eO),.int .i64 at0,.int .u32 mask]) H (fun o _=>o=.val (.bool true)):=by
 have hp:=AJ ops
 have hz:=hO.emp.run ops ho
 obtain⟨a,ha⟩:∃a,a=gD Ab.emp ops:=⟨_,rfl⟩
 rw[←ha]at hz
 refine W.bS rfl rfl rfl ?_
 simp -implicitDefEqProofs only[WI,op,ef,cl,sq,reduceIte,q5,q6,q7,q9,j1,j2,j3,j4,j5,S1]
 refine ae _ _ _ _ _ _ _ _ (Pd _) ?_
 rintro u H1⟨hu,ib⟩
 cases hu
 simp -implicitDefEqProofs only[op,ef,cl,sq,reduceIte,q5,q6,q7,q9,j1,j2,j3,j4,j5,S1]
 refine ae _ _ _ _ _ _ _ _ (GV k ops ho (by omega) hl _) ?_
 rintro u H2⟨b1,F1,hu,O9⟩
 cases hu
 rw[←ha]at O9
 have e1:dR .ptr (.ptr b1.s 0) .bV=some false:=rfl
 have a1:=O9.at_
 obtain⟨N,hN,hNl⟩:=a1.names
 obtain⟨ls,hL,Vv⟩:=Cl hz.w hN
 have a7:=hz.body hN hL 3
 have Hl:=nT 3 (ls.map (ik a)) (N.map (cS a))
 obtain⟨Bd,Pm⟩:∃Bd,Bd=body 3 (ls.map (ik a)) (N.map (cS a)):=⟨_,rfl⟩
 have Nc:dt Bd:=by rw[Pm];exact jo _ _ _
 have UF:dt (whole Bd):=jq Nc
 have vT:Bd.length≤2147483647:=by rw[Pm];omega
 have aeV:21≤Bd.length:=by rw[Pm];omega
 have xc:(whole Bd).length=Bd.length+4:=by unfold whole;rw[List.length_append,bg]
 have bld:W env (.call 10 [.int .i64 3,.ptr b1.s 0]) H2 (fun o H'=>Ext H2 H'∧∃k,k≠.nil∧o=.val (.bN [.sl k ((whole Bd).map eB),.int .i64 0])):=by
  rw[Pm]
  exact uZ a1 (by omega) hz.w.L hN hL 3 ⟨by decide,by decide⟩ (by show(body 3 _ _).length≤_;rw[←Pm];exact vT)
 have ht:bm 0:=⟨by decide,by decide⟩
 simp -implicitDefEqProofs only[op,ef,cl,sq,reduceIte,q5,q6,q7,q9,j1,j2,j3,j4,j5,S1,e1]
 refine ae _ _ _ _ _ _ _ _ bld ?_
 rintro u H3⟨rN,k3,hk3,hu⟩
 cases hu
 have rN:Ext H2 H3:=rN
 obtain⟨Wb,UN⟩:∃Wb,Wb=whole Bd:=⟨_,rfl⟩
 rw[←UN]at UF xc ⊢
 have Sq:decide ((Wb.length:Int)<25)=false:=by simp;omega
 have w8:IntKind.i64.wrap (8*(Wb.length:Int))=((8*Wb.length:Nat):Int):=by rw[wrap64 (by omega)];simp
 obtain⟨au,hau,abE⟩:=Pk at0
 have wu:IntKind.u64.wrap ((8*Wb.length:Nat):Int)=((8*Wb.length:Nat):Int):=fN (by omega)
 have z8:(((8*Wb.length:Nat):Int)=0)=False:=eq_false fun h=>by omega
 have tm:=L5 au (8*Wb.length)
 obtain⟨p,Mv⟩:∃p,p=au%(8*Wb.length):=⟨_,rfl⟩
 have vR:p<8*Wb.length:=by rw[Mv];exact Nat.mod_lt _ (by omega)
 rw[←Mv]at tm
 have wp:IntKind.i64.wrap (p:Int)=(p:Int):=wrap64 (by omega)
 have w32:IntKind.i64.wrap (((8*Wb.length:Nat):Int)-32)=((8*Bd.length:Nat):Int):=by rw[wrap64 (by omega)];omega
 simp -implicitDefEqProofs only[op,ef,cl,sq,reduceIte,q5,q6,q7,q9,j1,j2,j3,j4,j5,S1,List.length_map,Sq,w8,hau,wu,z8,tm,wp,w32]
 refine BM [(1,_),(2,_),(9,_)] (fun R' H'=>H'=H3∧∃en:Nat,R' 12=.int .i64 en∧((en=8*Bd.length∧p<en)∨(en=8*Wb.length∧8*Bd.length≤p))) ?_ ?_
 ·by_cases hc:8*Bd.length≤p
  ·simp -implicitDefEqProofs only[op,ef,cl,sq,reduceIte,q5,q6,q7,q9,j1,j2,j3,j4,j5,S1,hc,zY]
   exact⟨8*Wb.length,rfl,by omega⟩
  ·simp -implicitDefEqProofs only[op,ef,cl,sq,reduceIte,q5,q6,q7,q9,j1,j2,j3,j4,j5,S1,hc,zY]
   exact⟨8*Bd.length,rfl,by omega⟩
 rintro R0 VE⟨rfl,en,P4,hen⟩
 have Pn:en≤8*Wb.length:=by omega
 simp -implicitDefEqProofs only[aq,aj,op,ef,cl,sq,reduceIte,q5,q6,q7,q9,j1,j2,j3,j4,j5,S1,P4]
 refine ae _ _ _ _ _ _ _ _ (GZ k3 Wb (by omega) _) ?_
 rintro u H4⟨xK,c,hc,hu,d4⟩
 cases hu
 have L7:∀i,i≤32→pat p en mask i≠0→¬jO (fl p en mask Wb i):=fun i hi uM=>by
  rcases hen with⟨rfl,h2⟩|⟨rfl,h2⟩
  ·rw[UN];exact Ph Nc (by omega) hi uM
  ·have h3:8*Wb.length≤8*(whole Bd).length:=by rw[UN];exact Nat.le_refl _
   have:=Pj (at_:=p) (en:=8*Wb.length) (mask:=mask) (i:=i) Nc h2 h3 uM
   rw[←UN]at this;exact this
 simp -implicitDefEqProofs only[op,ef,cl,sq,reduceIte,q5,q6,q7,q9,j1,j2,j3,j4,j5,S1]
 refine W.gu 0 [(1,_),(2,_),(12,_),(13,_)] (fun (i:Nat) R H'=>At H' (fun H'=>H'[c]?=some (.cells (aJ eB (fl p en mask Wb i))))∧R 14=.bool (decide (pat p en mask i≠0))∧R 15=.int .i64 i∧i≤32) (fun i=>32-i) 0
  (fun R H'=>At H' (fun H'=>∃i,i≤32∧H'[c]?=some (.cells (aJ eB (fl p en mask Wb i)))∧R 14=.bool (decide (pat p en mask i≠0)))) ⟨.i d4,rfl,rfl,Nat.zero_le _⟩ ?_ ?_
 ·rintro i R H5⟨d5,sC,HF,hi⟩
  have d5:H5[c]?=some (.cells (aJ eB (fl p en mask Wb i))):=d5
  have wai:IntKind.i64.wrap ((p:Int)+(i:Int))=((p+i:Nat):Int):=by rw[wrap64 (by omega)];omega
  have qc:=aU (show i<9223372036854775807 by omega)
  by_cases c1:i<32
  rotate_left
  ·have e1:decide ((i:Int)<32)=false:=by simp;omega
   simp -implicitDefEqProofs only[aq,aj,op,ef,cl,sq,reduceIte,q5,q6,q7,q9,j1,j2,j3,j4,j5,S1,sC,HF,e1,dr]
   exact .i ⟨i,hi,d5,rfl⟩
  have e1:decide ((i:Int)<32)=true:=by simp;omega
  by_cases c2:p+i<en
  rotate_left
  ·simp -implicitDefEqProofs only[aq,aj,op,ef,cl,sq,reduceIte,q5,q6,q7,q9,j1,j2,j3,j4,j5,S1,P4,sC,HF,e1,wai,c2,dr]
   exact .i ⟨i,hi,d5,rfl⟩
  have s1:=UL (a:=mask) c1
  have m1:=LM (a:=mask/2^i) (Nat.lt_of_le_of_lt (Nat.div_le_self _ _) UM)
  have n0:¬((i:Int)<0):=by omega
  by_cases c3:mask/2^i%2=1
  rotate_left
  ·have e3:(((mask/2^i%2:Nat):Int)==1)=false:=q1f _ c3
   have ho:¬on p en mask i:=fun h=>c3 h.2
   have ef:fl p en mask Wb (i+1)=fl p en mask Wb i:=if_neg ho
   have ep:pat p en mask (i+1)=pat p en mask i:=if_neg ho
   simp -implicitDefEqProofs only[aq,aj,op,ef,cl,sq,reduceIte,q5,q6,q7,q9,j1,j2,j3,j4,j5,S1,P4,sC,HF,e1,wai,c2,n0,s1,m1,e3,qc]
   exact⟨i+1,by omega,.i (by rw[ef];exact d5),by rw[ep],rfl,c1⟩
  have e3:(((mask/2^i%2:Nat):Int)==1)=true:=by rw[c3];rfl
  have ho:on p en mask i:=⟨c2,c3⟩
  obtain⟨x,hx⟩:=G5 (l:=Wb) Pn ho
  have GJ:=mN (at_:=p) (mask:=mask) UF Pn i x (List.mem_of_getElem? hx)
  have Bv:=(List.getElem?_eq_some_iff.1 hx).1
  have ef:fl p en mask Wb (i+1)=(fl p en mask Wb i).set ((p+i)/8) (x ^^^ 2^((p+i)%8)):=by
   have:fl p en mask Wb (i+1)=(fl p en mask Wb i).set ((p+i)/8) (((fl p en mask Wb i)[(p+i)/8]?).getD 0 ^^^ 2^((p+i)%8)):=if_pos ho
   rw[this,hx];rfl
  have ep:pat p en mask (i+1)=pat p en mask i ^^^ 2^i:=if_pos ho
  have PL:pat p en mask (i+1)≠0:=by
   rw[ep]
   intro h
   have h1:=G4 h
   have:=vj (at_:=p) (en:=en) (mask:=mask) i
   omega
  have hb8:(p+i)%8<8:=Nat.mod_lt _ (by decide)
  have lA:2^((p+i)%8)<256:=Nat.pow_lt_pow_right (show 1<2 by decide) hb8
  have td:((p+i:Nat):Int).tdiv 8=(((p+i)/8:Nat):Int):=UK (p+i) 8
  have tm8:((p+i:Nat):Int).tmod 8=(((p+i)%8:Nat):Int):=L5 (p+i) 8
  have wd:IntKind.i64.wrap (((p+i)/8:Nat):Int)=(((p+i)/8:Nat):Int):=wrap64 (by omega)
  have nb:¬((((p+i)%8:Nat):Int)<0):=by omega
  have z88:((8:Int)=0)=False:=by decide
  have sl:=Pl hb8
  have xr:=aat GJ lA
  have lc5:=aW d5
  have ia:eI 1 ((p+i)/8) (.ay c 0 Wb.length 1)=some (.ptr c ((p+i)/8*1+0)):=by
   rw[jk,kZ]at *
   rw[if_pos Bv,if_neg (by decide)]
   simp
  have lg:qP 1 ((p+i)/8*1+0) (some (.cells (aJ eB (fl p en mask Wb i))))=some [T.int .u8 (x:Nat)]:=iD (enc:=eB) (n:=1) (fun _=>rfl) hx 0 1 (by decide)
  have sg:∀Hx,oJ Hx c [T.int .u8 ((x ^^^ 2^((p+i)%8):Nat):Int)] ((p+i)/8*1+0) (some (.cells (aJ eB (fl p en mask Wb i))))=some (Hx.set c (.cells (aJ eB ((fl p en mask Wb i).set ((p+i)/8) (x ^^^ 2^((p+i)%8)))))):=fun Hx=>jI (enc:=eB) (n:=1) (fun _=>rfl) (y:=x ^^^ 2^((p+i)%8)) hx Hx c _ 0 (Nat.le_refl _) rfl
  simp -implicitDefEqProofs only[aq,aj,op,ef,cl,sq,reduceIte,q5,q6,q7,q9,j1,j2,j3,j4,j5,S1,P4,sC,HF,e1,wai,c2,n0,s1,m1,e3,z88,td,wd,tm8,nb,sl,aa,ia,d5,lg,xr,sg,qc]
  refine⟨i+1,by omega,.i ?_,?_,rfl,c1⟩
  ·rw[ef];exact bT lc5
  ·rw[decide_eq_true PL]
 rintro R H5⟨i,hi,d5,sC⟩
 have d5:H5[c]?=some (.cells (aJ eB (fl p en mask Wb i))):=d5
 have VP:=mN (at_:=p) (en:=en) (mask:=mask) UF Pn i
 have pO:=kZ (at_:=p) (en:=en) (mask:=mask) (l:=Wb) i
 simp -implicitDefEqProofs only[aq,aj,op,ef,cl,sq,reduceIte,q5,q6,q7,q9,j1,j2,j3,j4,j5,S1,sC]
 rw[←pO]
 by_cases uM:pat p en mask i=0
 ·have enc:fl p en mask Wb i=Wb:=(xD (l:=Wb) i uM).2
  rw[enc]at d5 ⊢
  have UJ:decide (pat p en mask i≠0)=false:=by simp[uM]
  rw[UN]at d5 ⊢
  have rdw:=rH hz hN hL (g:=3) (by decide) (by decide) ht (by omega) (by omega) (by rw[←Pm];exact vT) .arg (by simp) (H5.set c .dead)
  rw[←Pm]at rdw
  refine ae _ _ _ _ _ _ _ _ (L6 d5 rdw) ?_
  rintro u H6⟨b2,F2,hu,VM⟩
  cases hu
  have e2:dR .ptr (.ptr b2.s 0) .bV=some false:=rfl
  simp -implicitDefEqProofs only[op,ef,cl,sq,reduceIte,q5,q6,q7,q9,j1,j2,j3,j4,j5,S1,sC,UJ,e2]
 ·have UJ:decide (pat p en mask i≠0)=true:=by simp[uM]
  refine ae _ _ _ _ _ _ _ _ (L6 d5 (y6 .arg _ (fun h=>by cases h) VP (by omega) 0 (fun h=>absurd h (L7 i hi uM)) _)) ?_
  rintro u H6 hq
  have CW:=L7 i hi uM
  rcases hq with⟨h,_⟩|⟨_,_,hu,xo⟩|⟨_,h,_⟩|⟨_,h,_⟩
  ·exact absurd ht h
  ·cases hu
   have en:dR .ptr .bV .bV=some true:=rfl
   simp -implicitDefEqProofs only[op,ef,cl,sq,reduceIte,q5,q6,q7,q9,j1,j2,j3,j4,j5,S1,sC,UJ,en]
  ·exact absurd h CW
  ·exact absurd h CW
end Go.Proofs.YtdcpehdijdllpaaGreat.St
end

section
namespace Go.Proofs.YtdcpehdijdllpaaGreat
open Go.ChangeShapes Go.WideShapes Go.ChangeAt Go.RowKit
namespace Law
theorem own:ownKnob Tryz.prog.godebug=none:=by kernel_rfl
theorem kids:Kids Tryz.prog (·<Tryz.prog.types.size):=kids_rows (by kernel_rfl) (by kernel_rfl)
noncomputable def hzB:Bool:=(List.range Tryz.prog.types.size).all fun t=>match Tryz.prog.underlying t with
 | some (.slice e)=>decide (0<Tryz.prog.cellsOf e)
 | _=>true
theorem Po:hzB=true:=by kernel_rfl
theorem hz:∀t e,t<Tryz.prog.types.size→Tryz.prog.underlying t=some (.slice e)→0<Tryz.prog.cellsOf e:=fun t e ht h=>by
 have:=(List.all_eq_true.1 Po) t (List.mem_range.2 ht)
 rw[h]at this
 simpa using this
mutual
theorem qe {H:Type}:∀d:DataW H,Go.Rmp.bU d=Rows.uptoBulk d
 | .lit l=>by cases l<;>simp[Go.Rmp.bU,Rows.uptoBulk]
 | .nil=>by simp[Go.Rmp.bU,Rows.uptoBulk]
 | .ptr d=>by simp[Go.Rmp.bU,Rows.uptoBulk,qe d]
 | .slice elems spare=>by simp[Go.Rmp.bU,Rows.uptoBulk,lf elems,lf spare]
 | .agg parts=>by simp[Go.Rmp.bU,Rows.uptoBulk,lf parts]
 | .iface _ d=>by simp[Go.Rmp.bU,Rows.uptoBulk,qe d]
 | .map entries=>by simp[Go.Rmp.bU,Rows.uptoBulk,xE entries]
 | .held _=>by simp[Go.Rmp.bU,Rows.uptoBulk]
theorem lf {H:Type}:∀l:List (DataW H),Go.Rmp.bQ l=Rows.uptoBulkAll l
 | []=>by simp[Go.Rmp.bQ,Rows.uptoBulkAll]
 | d :: r=>by simp[Go.Rmp.bQ,Rows.uptoBulkAll,qe d,lf r]
theorem xE {H:Type}:∀l:List (Lit×DataW H),Go.Rmp.fk l=Rows.uptoBulkEntries l
 | []=>by simp[Go.Rmp.fk,Rows.uptoBulkEntries]
 | x :: r=>by simp[Go.Rmp.fk,Rows.uptoBulkEntries,Cm x,xE r]
theorem Cm {H:Type}:∀x:Lit×DataW H,Go.Rmp.mz x=Rows.uptoBulkEntry x
 | (l,d)=>by cases l<;>simp[Go.Rmp.mz,Rows.uptoBulkEntry,qe d]
end
theorem KJ {H:Type}{ds:List (DataW H)}(h:Rows.uptoSmall H ds=true):Go.Rmp.bQ ds≤1048576:=by
 rw[lf];simpa[Rows.uptoSmall]using h
theorem KK {B:Nat}{t:Go.Rmp.T}(h:Go.Rmp.dY B .str t):∃s,t=.str s∧s.size≤B:=by
 cases h with|str h hB=>exact⟨_,rfl,hB⟩
theorem Pp {B:Nat}{t:Go.Rmp.T}(h:Go.Rmp.dY B (.int .i64) t):∃n:Int,t=.int .i64 n∧-9223372036854775808≤n∧n<9223372036854775808:=by
 cases h with|int h =>
  rename_i n
  exact⟨n,rfl,by simp -implicitDefEqProofs only[Lit.wf,IntKind.min,IntKind.max,IntKind.signed,IntKind.bits]at h;simp at h;omega⟩
theorem aav {B:Nat}{t:Go.Rmp.T}(h:Go.Rmp.dY B (.int .u64) t):∃n:Nat,t=.int .u64 n∧n<18446744073709551616:=by
 cases h with|int h =>
  rename_i n
  simp -implicitDefEqProofs only[Lit.wf,IntKind.min,IntKind.max,IntKind.signed,IntKind.bits]at h
  simp at h
  exact⟨n.toNat,by congr 1;omega,by omega⟩
theorem Pq {B:Nat}{t:Go.Rmp.T}(h:Go.Rmp.dY B (.int .u32) t):∃n:Nat,t=.int .u32 n∧n<4294967296:=by
 cases h with|int h =>
  rename_i n
  simp -implicitDefEqProofs only[Lit.wf,IntKind.min,IntKind.max,IntKind.signed,IntKind.bits]at h
  simp at h
  exact⟨n.toNat,by congr 1;omega,by omega⟩
end Law
namespace St
open Go.Rmp
theorem zb {α:Type}{P:α→Prop}(enc:α→List T)(es:List (List T))(h:∀c∈es,∃x,c=enc x∧P x):∃l:List α,es=l.map enc∧∀x∈l,P x:=by
 induction es with
 | nil=>exact⟨[],rfl,by simp⟩
 | cons c es ih =>
  obtain⟨l,rfl,hl⟩:=ih (fun c hc=>h c (List.mem_cons_of_mem _ hc))
  obtain⟨x,rfl,hx⟩:=h _ List.mem_cons_self
  exact⟨x :: l,rfl,fun y hy=>by rcases List.mem_cons.1 hy with rfl|hy;exact hx;exact hl y hy⟩
theorem UO {B:Nat}{t:T}(h:dY B (.sl [.str]) t):∃k l,t=.sl k (List.map eS l)∧gx k l∧l.length≤B:=by
 cases h with
 | nil=>exact⟨.nil,[],rfl,fun _=>rfl,Nat.zero_le _⟩
 | sl hl hB h0 h =>
  rename_i es
  obtain⟨l,rfl,_⟩:=zb (P:=fun _=>True) eS es fun c hc=>by
   have js:=h0 c hc
   match c,js with
   | [a],_=>obtain⟨s,rfl,_⟩:=Law.KK (h _ hc 0 .str a rfl rfl);exact⟨s,rfl,trivial⟩
  exact⟨.arg,l,rfl,fun h=>(by cases h),by simpa using hB⟩
theorem UP {B:Nat}{t:T}(h:dY B (.sl [.str,.str]) t):∃(k:SK) (l:List (ByteArray×ByteArray)),t=.sl k (l.map eP)∧l.length≤B:=by
 cases h with
 | nil=>exact⟨.nil,[],rfl,Nat.zero_le _⟩
 | sl hl hB h0 h =>
  rename_i es
  obtain⟨l,rfl,_⟩:=zb (P:=fun _=>True) eP es fun c hc=>by
   have js:=h0 c hc
   match c,js with
   | [a,b],_ =>
    obtain⟨s,rfl,_⟩:=Law.KK (h _ hc 0 .str a rfl rfl)
    obtain⟨s',rfl,_⟩:=Law.KK (h _ hc 1 .str b rfl rfl)
    exact⟨(s,s'),rfl,trivial⟩
  exact⟨.arg,l,rfl,by simpa using hB⟩
theorem UQ {t:T}(h:dY 1048576 (.sl [.int .i64,.int .u64,.str,.sl [.str,.str],.sl [.str],.int .i64]) t):∃(k:SK) (l:List qd),t=.sl k (l.map eO)∧l.length≤1048576∧∀o∈l,y7 o:=by
 cases h with
 | nil=>exact⟨.nil,[],rfl,Nat.zero_le _,by simp⟩
 | sl hl hB h0 h =>
  rename_i es
  obtain⟨l,rfl,hP⟩:=zb (P:=fun o:qd=>y7 o) eO es fun c hc=>by
   have js:=h0 c hc
   match c,js with
   | [a,b,c,d,e,f],_ =>
    obtain⟨z,rfl,_⟩:=Law.Pp (h _ hc 0 (.int .i64) a rfl rfl)
    obtain⟨n,rfl,hn⟩:=Law.aav (h _ hc 1 (.int .u64) b rfl rfl)
    obtain⟨s,rfl,_⟩:=Law.KK (h _ hc 2 .str c rfl rfl)
    obtain⟨k,l,rfl,vR⟩:=UP (h _ hc 3 (.sl [.str,.str]) d rfl rfl)
    obtain⟨k',l',rfl,hk,hl⟩:=UO (h _ hc 4 (.sl [.str]) e rfl rfl)
    obtain⟨z',rfl,_⟩:=Law.Pp (h _ hc 5 (.int .i64) f rfl rfl)
    exact⟨⟨z,n,s,k,l,k',l',z'⟩,rfl,hk,hl,vR,hn⟩
  exact⟨.arg,l,rfl,by simpa using hB,hP⟩
theorem G6:∀l:List qd,HG l≤Cz (l.map eO)
 | []=>Nat.zero_le _
 | o :: l=>by
  have h1:=G6 l
  have h2:∀ps:List (ByteArray×ByteArray),(ps.map fun p=>p.1.size+p.2.size+2).sum≤Cz (ps.map eP):=fun ps=>by
   induction ps with
   | nil=>exact Nat.zero_le _
   | cons p ps ih=>simp -implicitDefEqProofs only[List.map_cons,List.sum_cons,Cz,eP,oG,T.bk];omega
  have h3:=h2 o.iK
  have h4:∀ks:List ByteArray,(ks.map fun k=>k.size+1).sum≤Cz (ks.map eS):=fun ks=>by
   induction ks with
   | nil=>exact Nat.zero_le _
   | cons p ps ih=>simp -implicitDefEqProofs only[List.map_cons,List.sum_cons,Cz,eS,oG,T.bk];omega
  have h5:=h4 o.keys
  have e:HG (o :: l)=bo o+HG l:=by simp[HG]
  rw[e]
  unfold bo
  simp -implicitDefEqProofs only[List.map_cons,Cz,eO,oG,T.bk]
  omega
end St
namespace Law
theorem vn (PH:List Go.Rmp.T)(hs:Go.Rmp.oI 1048576 [Go.Rmp.Sh.sl [.int .i64,.int .u64,.str,.sl [.str,.str],.sl [.str],.int .i64],.int .i64,.int .u32] PH)(hb:Go.Rmp.oG PH≤1048576):Go.Rmp.W Ir.env (.call 5 PH) [] (fun o _=>o=.val (.bool true)):=by
 cases hs with|cons h1 hs =>
 cases hs with|cons h2 hs =>
 cases hs with|cons h3 hs =>
 cases hs
 obtain⟨k,l,rfl,n1,n2⟩:=St.UQ h1
 obtain⟨w,rfl,_,_⟩:=Pp h2
 obtain⟨m,rfl,hm⟩:=Pq h3
 have:=St.G6 l
 simp -implicitDefEqProofs only[Go.Rmp.oG,Go.Rmp.T.bk]at hb
 exact St.KI k l n2 (by omega) (by omega) w m hm []
theorem sD (H:Type):∀ds:List (DataW H),ds.length=Tryz.f5.params.toList.length→Rows.snapBurstsSpec.fn H ds={ results:=[.lit (.bool true)],args:=ds }:=by
 have hn:Tryz.f5.params.toList.length=3:=by kernel_rfl
 rw[hn]
 intro ds Bw
 cases ds with|nil=>simp at Bw|cons d0 ds =>
 cases ds with|nil=>simp at Bw|cons d1 ds =>
 cases ds with|nil=>simp at Bw|cons d2 ds =>
 cases ds with|cons=>simp at Bw|nil =>
 rfl
set_option maxRecDepth 100000 in
theorem nX (os:Os)(started:os.Started)(H:Type)(enc:TypeId×Value→H)(F:Stop.Interp) :
  ReturnsInHanded {} Tryz.checked os 5 .any ((Rows.OpenSpec.upto Rows.snapBurstsSpec).pre6 enc Tryz.prog Tryz.f5 Rows.snapBurstsUptoRow.domain false) (((Rows.OpenSpec.upto Rows.snapBurstsSpec).at F).post enc Tryz.prog Tryz.f5 false true false false):=by
 refine returnsInHanded_of_cond (C:=Tryz.checked) (s:=Rows.OpenSpec.upto Rows.snapBurstsSpec) (k:=Rows.uptoSmall) rfl own started (by kernel_rfl) Tryz.func5
  (OpenSpec.witness (enc:=enc) (C:=Tryz.checked) (s:=Rows.OpenSpec.upto Rows.snapBurstsSpec) (k:=Rows.uptoSmall) rfl false ⟨#[],#[.slice .none 0 0,.int .i64 0,.int .u32 0],[]⟩ 8 (by kernel_rfl) (by kernel_rfl) (by kernel_rfl)
   (x:=([.nil,.lit (.int .i64 0),.lit (.int .u32 0)],[],[])) (by kernel_rfl) rfl (by kernel_rfl)) ?_
 intro W base args ds gs before BI hW _ hk _
 exact Go.Rmp.su (s:=Rows.snapBurstsSpec) (Jg:=[Go.Rmp.Sh.sl [.int .i64,.int .u64,.str,.sl [.str,.str],.sl [.str],.int .i64],.int .i64,.int .u32]) (B:=1048576) (tb:=Tryz.f5.resultTypes[0]!) Ir.Sr kids hz (by kernel_rfl) (by intro t ht;exact of_decide_eq_true ((List.all_eq_true.1 (show Tryz.f5.params.toList.all (fun t=>decide (t<Tryz.prog.types.size))=true by kernel_rfl)) t ht)) (by kernel_rfl) (by kernel_rfl) rfl (sD H) vn base args ds gs before BI hW (KJ hk)
theorem pG:Rows.snapBurstsUptoRow.holds Tryz.pinned (Rows.OpenSpec.upto Rows.snapBurstsSpec) :=
 OpenClaim.holds_of_cond 5 Tryz.f5 rfl rfl rfl rfl rfl rfl rfl ⟨rfl,rfl,rfl,rfl,rfl⟩ rfl rfl rfl rfl rfl (by kernel_rfl) Tryz.func5 (by kernel_rfl)
  (of_decide_eq_true (by kernel_rfl)) (by unfold Func.isWrapper;first|(rw[if_pos (by decide +kernel)];kernel_rfl)|(rw[if_neg (by decide +kernel)];exact⟨rfl,rfl⟩))
  (fun os started H enc _ F=>nX os started H enc F)
theorem snapBursts_proved:Rows.SnapBurstsUptoSaid:=pG
end Law
end Go.Proofs.YtdcpehdijdllpaaGreat
end
