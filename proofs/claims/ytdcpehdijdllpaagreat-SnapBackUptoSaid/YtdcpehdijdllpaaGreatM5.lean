/- Part of a proof of a law of this seat: the machine of plain values, its simulation, and the contracts of the functions that the law reaches. Conditions: none beyond the given row. -/
import Derived.Test.YtdcpehdijdllpaaGreatM4
import Derived.Test.YtdcpehdijdllpaaGreatRows
import Derived.WalkKit
import Derived.ProofKit
import Derived.OpenShut
import Derived.JoinedCond
import Derived.ChangeBears
open Int renaming reduceLT → q5, reduceLE → q6, reduceBEq → q7, reduceBNe → q9, reduceEq → j1
open Nat renaming reduceAdd → j2, reduceLeDiff → j3, reduceLT → j4, reduceEqDiff → j5
set_option linter.unusedSimpArgs false
set_option linter.unusedVariables false
set_option linter.unnecessarySimpa false
set_option maxHeartbeats 4000000
section
namespace Go.Proofs.YtdcpehdijdllpaaGreat.St
open Go.Rmp Go.Proofs.YtdcpehdijdllpaaGreat.Ir
set_option maxRecDepth 10000
theorem mP:∀l:List Nat,bytesOf (l.map eB)=some (l.map UInt8.ofNat)
 | []=>rfl
 | x :: l=>by
  show(bytesOf (l.map eB)).map (UInt8.ofNat ((x:Int)).toNat :: ·)=_
  rw[mP l];rfl
theorem GJ {k:SK}{l:List Nat}:∀R Hx a,(X.r a).ev R=.sl k (l.map eB)→al R Hx (.AM (.r a))=some (.str (uS l),Hx):=fun R Hx a ha=>by
 have cr:=xm l
 simp -implicitDefEqProofs only[al,ha,bK,cr,if_true,mP]
 rfl
theorem AE {n v:Nat}{l r:List Nat}(h:pN n l=some (v,r)):n≤l.length∧r=l.drop n:=by
 unfold pN at h
 split at h
 ·cases h
 ·simp -implicitDefEqProofs only[Option.some.injEq,Prod.mk.injEq]at h
  exact⟨by omega,h.2.symm⟩
theorem lQ {m v:Nat}{l r:List Nat}(h:pC m l=some (v,r)):pN 4 l=some (v,r)∧v≤m:=by
 unfold pC at h
 cases hp:pN 4 l with
 | none=>rw[hp]at h;cases h
 | some x =>
  obtain⟨v',r'⟩:=x
  rw[hp]at h
  simp only at h
  split at h
  ·cases h
  ·simp -implicitDefEqProofs only[Option.some.injEq,Prod.mk.injEq]at h
   obtain⟨rfl,rfl⟩:=h
   exact⟨rfl,by omega⟩
def vA (m:Nat):Option (List Nat)→Nat×Option (List Nat)
 | none=>(0,none)
 | some l=>match pC m l with
  | none=>(0,none)
  | some (v,r)=>(v,some r)
def fR (m:Nat):Option (List Nat)→ByteArray×Option (List Nat)
 | none=>(⟨#[]⟩,none)
 | some l=>match pT m l with
  | none=>(⟨#[]⟩,none)
  | some (v,r)=>(v,some r)
theorem uZ {H:af}{c:Nat}{st:Option (List Nat)}(h:RD H c st)(m:Nat)(hm:m<9223372036854775808):W env (.call 53 [.ptr c 0,.int .i64 m]) H (PZ c (.int .i64 (vA m st).1) (vA m st).2 H):=by
 refine W.bR rfl rfl rfl ?_
 simp -implicitDefEqProofs only[Nz,op,ef,cl,sq,reduceIte,q5,q6,q7,q9,j1,j2,j3,j4,j5,S1]
 cases st with
 | none =>
  refine ae _ _ _ _ _ _ _ _ (xr h m hm) ?_
  rintro u H1⟨hu,rfl⟩
  cases hu
  simp -implicitDefEqProofs only[op,ef,cl,sq,reduceIte,q5,q6,q7,q9,j1,j2,j3,j4,j5,S1]
  exact⟨rfl,h,bh.refl _ _⟩
 | some l =>
  obtain⟨k,h1,h2,h3⟩:=h.ok
  have lc:=aW h1
  refine ae _ _ _ _ _ _ _ _ (tK h m hm) ?_
  intro u H1 hq
  unfold Vy at hq
  cases hp:pC m l with
  | none =>
   have es:vA m (some l)=(0,none):=by simp -implicitDefEqProofs only[vA,hp]
   rw[hp]at hq
   rw[es]
   obtain⟨hu,hr,hk⟩:=hq
   cases hu
   simp -implicitDefEqProofs only[op,ef,cl,sq,reduceIte,q5,q6,q7,q9,j1,j2,j3,j4,j5,S1]
   exact⟨rfl,hr,hk⟩
  | some x =>
   obtain⟨v,r⟩:=x
   have es:vA m (some l)=(v,some r):=by simp -implicitDefEqProofs only[vA,hp]
   rw[hp]at hq
   rw[es]
   obtain⟨hu,rfl⟩:=hq
   cases hu
   obtain⟨oT,_⟩:=lQ hp
   obtain⟨Hc,rfl⟩:=AE oT
   have BP:=B6 (k:=k) Hc
   simp -implicitDefEqProofs only[op,ef,cl,sq,reduceIte,q5,q6,q7,q9,j1,j2,j3,j4,j5,S1,h1,lc,↓BP,S2]
   exact⟨rfl,RD.Vv (k:=k.cut l.length 4 l.length) (bU lc) (by rw[List.length_drop];omega) (h3.drop 4),bh.set (F:=fun b=>b=c) (bh.refl _ _) (.inl rfl) _⟩
theorem LN {H:af}{c:Nat}{st:Option (List Nat)}(h:RD H c st):W env (.call 54 [.ptr c 0]) H (fun o H'=>H'=H∧∃e:Int,o=.val (.int .i64 e)∧(e=0↔st≠none)):=by
 refine W.bR rfl rfl rfl ?_
 cases st with
 | none =>
  obtain⟨k,rest,e,h1,h2,h3,h4⟩:=h.bad
  simp -implicitDefEqProofs only[Jo,op,ef,cl,sq,reduceIte,q5,q6,q7,q9,j1,j2,j3,j4,j5,S1,h1]
  exact⟨e,rfl,by simp[h4]⟩
 | some l =>
  obtain⟨k,h1,h2,h3⟩:=h.ok
  simp -implicitDefEqProofs only[Jo,op,ef,cl,sq,reduceIte,q5,q6,q7,q9,j1,j2,j3,j4,j5,S1,h1]
  exact⟨0,rfl,by simp⟩
theorem Uc {H:af}{c:Nat}{st:Option (List Nat)}(h:RD H c st):W env (.call 57 [.ptr c 0]) H (fun o H'=>H'=H∧∃e:Int,o=.val (.int .i64 e)∧(e=0↔st=some [])):=by
 refine W.bR rfl rfl rfl ?_
 cases st with
 | none =>
  obtain⟨k,rest,e,h1,h2,h3,h4⟩:=h.bad
  have e1:(e==0)=false:=by simpa using h4
  simp -implicitDefEqProofs only[EY,op,ef,cl,sq,reduceIte,q5,q6,q7,q9,j1,j2,j3,j4,j5,S1,h1,e1]
  exact⟨e,rfl,by simp[h4]⟩
 | some l =>
  obtain⟨k,h1,h2,h3⟩:=h.ok
  by_cases hl:l=[]
  ·subst hl
   simp -implicitDefEqProofs only[EY,op,ef,cl,sq,reduceIte,q5,q6,q7,q9,j1,j2,j3,j4,j5,S1,h1,List.map_nil,List.length_nil]
   exact⟨0,rfl,by simp⟩
  ·have yl:0<l.length:=List.length_pos_iff.2 hl
   have e1:decide ((l.length:Int)>0)=true:=by simp;exact yl
   simp -implicitDefEqProofs only[EY,op,ef,cl,sq,reduceIte,q5,q6,q7,q9,j1,j2,j3,j4,j5,S1,h1,List.length_map,e1]
   exact⟨5,rfl,by simp[hl]⟩
theorem nV {H:af}{c:Nat}{st:Option (List Nat)}(h:RD H c st)(m:Nat)(hm:m<9223372036854775808):W env (.call 55 [.ptr c 0,.int .i64 m]) H (PZ c (.str (fR m st).1) (fR m st).2 H):=by
 refine W.bR rfl rfl rfl ?_
 simp -implicitDefEqProofs only[NA,op,ef,cl,sq,reduceIte,q5,q6,q7,q9,j1,j2,j3,j4,j5,S1]
 cases st with
 | none =>
  refine ae _ _ _ _ _ _ _ _ (xr h m hm) ?_
  rintro u H1⟨hu,rfl⟩
  cases hu
  simp -implicitDefEqProofs only[op,ef,cl,sq,reduceIte,q5,q6,q7,q9,j1,j2,j3,j4,j5,S1]
  exact⟨rfl,h,bh.refl _ _⟩
 | some l =>
  obtain⟨k,h1,h2,h3⟩:=h.ok
  have lc:=aW h1
  refine ae _ _ _ _ _ _ _ _ (tK h m hm) ?_
  intro u H1 hq
  unfold Vy at hq
  cases hp:pC m l with
  | none =>
   have es:fR m (some l)=(⟨#[]⟩,none):=by
    have:pT m l=none:=by
     unfold pT
     unfold pC at hp
     cases h4:pN 4 l with
     | none=>rfl
     | some x =>
      obtain⟨v,r⟩:=x
      rw[h4]at hp
      simp only at hp ⊢
      split at hp
      ·rename_i hc;rw[if_pos hc]
      ·cases hp
    simp -implicitDefEqProofs only[fR,this]
   rw[hp]at hq
   rw[es]
   obtain⟨hu,hr,hk⟩:=hq
   cases hu
   simp -implicitDefEqProofs only[op,ef,cl,sq,reduceIte,q5,q6,q7,q9,j1,j2,j3,j4,j5,S1]
   exact⟨rfl,hr,hk⟩
  | some x =>
   obtain⟨v,r⟩:=x
   rw[hp]at hq
   obtain⟨hu,rfl⟩:=hq
   cases hu
   obtain⟨oT,hvm⟩:=lQ hp
   have hv4:v<4294967296:=(iV h3 oT).2.1
   obtain⟨Hc,hr⟩:=AE oT
   have w4:IntKind.i64.wrap ((l.length:Int)-4)=((l.length-4:Nat):Int):=by rw[wrap64 (by omega)];omega
   have ept:pT m l=if r.length<v then none else some (uS (r.take v),r.drop v):=by
    unfold pT;rw[oT];simp only;rw[if_neg (by omega)]
   have hrl:r.length=l.length-4:=by rw[hr,List.length_drop]
   by_cases I9:r.length<v
   ·have es:fR m (some l)=(⟨#[]⟩,none):=by simp -implicitDefEqProofs only[fR,ept,I9,if_true]
    have e1:decide (((l.length-4:Nat):Int)<(v:Int))=true:=by simp;omega
    rw[es]
    simp -implicitDefEqProofs only[op,ef,cl,sq,reduceIte,q5,q6,q7,q9,j1,j2,j3,j4,j5,S1,h1,lc,List.length_map,w4,e1,S2]
    exact⟨rfl,RD.Vw (bU lc) h2 h3 (by decide),bh.set (F:=fun b=>b=c) (bh.refl _ _) (.inl rfl) _⟩
   ·have es:fR m (some l)=(uS (r.take v),some (r.drop v)):=by simp -implicitDefEqProofs only[fR,ept,I9,if_false]
    have e1:decide (((l.length-4:Nat):Int)<(v:Int))=false:=by simp;omega
    have w5:IntKind.i64.wrap (4+(v:Int))=((4+v:Nat):Int):=by rw[wrap64 (by omega)];omega
    have BP:=Kh (k:=k) (l:=l) (n:=v) (by omega)
    have VA:=ru (k:=k) (l:=l) (n:=4+v) (by omega)
    have hd:r.drop v=l.drop (4+v):=by rw[hr,List.drop_drop]
    rw[es]
    rw[←hr]at BP
    have rT:=GJ (k:=k.cut l.length 4 (4+v)) (l:=r.take v)
    rw[←hd]at VA
    simp -implicitDefEqProofs only[op,ef,cl,sq,reduceIte,q5,q6,q7,q9,j1,j2,j3,j4,j5,S1,h1,lc,List.length_map,w4,e1,w5,↓BP,↓VA,↓rT,S2]
    exact⟨rfl,RD.Vv (k:=k.cut l.length (4+v) l.length) (bU lc) (by rw[hd,List.length_drop];omega) (by rw[hd];exact h3.drop _),bh.set (F:=fun b=>b=c) (bh.refl _ _) (.inl rfl) _⟩
theorem OZ (k:SK)(l:List Nat)(hk:gz k l)(hl:l.length≤4294967296)(hb:dR l)(H:af):W env (.call 48 [.sl k (l.map eB)]) H (fun o H'=>Ext H H'∧∃c,H.length≤c∧o=.val (.ptr c 0)∧RD H' c (some l)):=by
 refine W.bR rfl rfl rfl ?_
 simp -implicitDefEqProofs only[Nu,op,ef,cl,sq,reduceIte,q5,q6,q7,q9,j1,j2,j3,j4,j5,S1]
 refine ae _ _ _ _ _ _ _ _ (AA k l hk hl _) ?_
 rintro u H1⟨gw,k',_,_,hu⟩
 cases hu
 have gw:Ext H H1:=gw
 simp -implicitDefEqProofs only[op,ef,cl,sq,reduceIte,q5,q6,q7,q9,j1,j2,j3,j4,j5,S1]
 exact⟨gw.app _,H1.length,gw.len,rfl,RD.Vv (aU rfl) hl hb⟩
def CF (c m:Nat)(l:List Nat):Option (List ByteArray×List Nat):=match pC c l with
 | none=>none
 | some (n,r)=>pM (pT m) r n
def oX (c m:Nat):Option (List Nat)→List ByteArray×Option (List Nat)
 | none=>([],none)
 | some l=>match CF c m l with
  | none=>([],none)
  | some (v,r)=>(v,some r)
def stM {α:Type}(p:List Nat→Option (α×List Nat))(n:Nat):Option (List Nat)→List α×Option (List Nat)
 | none=>([],none)
 | some l=>match pM p l n with
  | none=>([],none)
  | some (v,r)=>(v,some r)
def xu {α:Type}(p:List Nat→Option (α×List Nat))(H:af)(c n:Nat)(st:Option (List Nat))(i:Nat)(xs:List α):Prop :=
 (∃l r,st=some l∧pM p l i=some (xs,r)∧RD H c (some r))∨(RD H c none∧∀l,st=some l→pM p l n=none)
theorem RD.lt {H:af}{c:Nat}{st:Option (List Nat)}(h:RD H c st):c<H.length:=by
 obtain⟨k,rest,e,h1,_⟩:=h.at_;exact aW h1
theorem wT.lg {n0:Nat}{H H':af}{k:SK}(h:wT n0 H k H'):bh (fun c=>∃e,k=.own c e) H H':=⟨h.len,fun c hc hn=>by
 obtain⟨x,hx⟩:=cj hc
 rw[hx];exact h.get c x hx fun e he=>hn ⟨e,he⟩⟩
theorem lF.lg {n0:Nat}{H H':af}{k:SK}(h:lF n0 H k){F:Nat→Prop}(hf:bh F H H')(hF:∀t,n0≤t→¬F t):lF n0 H' k:=by
 rcases h with h|h|⟨t,e,h,h1,h2⟩
 ·exact .inl h
 ·exact .inr (.inl h)
 ·exact .inr (.inr ⟨t,e,h,h1,hf.get h2 (hF t h1)⟩)
theorem lF.own {n0:Nat}{H:af}{k:SK}(h:lF n0 H k){t e:Nat}(hk:k=.own t e):n0≤t:=by
 rcases h with h|h|⟨t',e',h,h1,h2⟩
 ·rw[h]at hk;cases hk
 ·rw[h]at hk;cases hk
 ·rw[h]at hk;cases hk;exact h1
def RTQ (c:Nat)(xs:List ByteArray)(st:Option (List Nat))(H:af):Out→af→Prop:=fun o H'=>∃kk,gz kk xs∧o=.val (.sl kk (xs.map eS))∧RD H' c st∧bh (fun b=>b=c) H H'
set_option maxHeartbeats 1000000 in
theorem B7 {H:af}{c:Nat}{st:Option (List Nat)}(h:RD H c st)(cm m:Nat)(Py:cm≤8000000)(hm:m<9223372036854775808):W env (.call 56 [.ptr c 0,.int .i64 cm,.int .i64 m]) H (RTQ c (oX cm m st).1 (oX cm m st).2 H):=by
 obtain⟨k0,rest,e0,d0,xF,Ha,_,_⟩:=h.at_
 have lc:=aW d0
 refine W.bR rfl rfl rfl ?_
 simp -implicitDefEqProofs only[NB,op,ef,cl,sq,reduceIte,q5,q6,q7,q9,j1,j2,j3,j4,j5,S1,d0]
 refine ae _ _ _ _ _ _ _ _ (uZ h cm (by omega)) ?_
 rintro u H1⟨hu,hr,hf⟩
 cases hu
 obtain⟨n,hn⟩:∃n,n=(vA cm st).1:=⟨_,rfl⟩
 obtain⟨jY,B8⟩:∃jY,jY=(vA cm st).2:=⟨_,rfl⟩
 have PD:n≤cm∧(jY=none→n=0)∧oX cm m st=stM (pT m) n jY:=by
  rw[hn,B8]
  cases st with
  | none=>exact⟨Nat.zero_le _,fun _=>rfl,rfl⟩
  | some l =>
   cases hp:pC cm l with
   | none =>
    have:vA cm (some l)=(0,none):=by simp -implicitDefEqProofs only[vA,hp]
    rw[this]
    exact⟨Nat.zero_le _,fun _=>rfl,by simp -implicitDefEqProofs only[oX,CF,hp,stM]⟩
   | some x =>
    obtain⟨v,r⟩:=x
    have:vA cm (some l)=(v,some r):=by simp -implicitDefEqProofs only[vA,hp]
    rw[this]
    exact⟨(lQ hp).2,(fun h=>by cases h),by simp -implicitDefEqProofs only[oX,CF,hp,stM];cases pM (pT m) r v<;>rfl⟩
 rw[←hn]
 rw[←B8]at hr
 obtain⟨hn1,Iy,qD⟩:=PD
 have Su:c<H1.length:=hr.lt
 have Ud:xu (pT m) H1 c n jY 0 []:=by
  cases jY with
  | none=>exact .inr ⟨hr,fun l h=>by cases h⟩
  | some l=>exact .inl ⟨l,l,rfl,rfl,hr⟩
 simp -implicitDefEqProofs only[op,ef,cl,sq,reduceIte,q5,q6,q7,q9,j1,j2,j3,j4,j5,S1]
 refine W.fW 0 [(0,_),(2,_),(7,_),(17,_)] (fun (i:Nat) R H'=>At H' (fun H'=>∃kk xs,R 9=.sl kk (xs.map eS)∧lF H1.length H' kk∧gz kk xs∧xs.length=i∧xu (pT m) H' c n jY i xs∧bh (fun b=>b=c) H1 H')∧R 18=.int .i64 i∧i≤n) (fun i=>n-i) 0
  (fun R H'=>At H' (fun H'=>∃kk xs,R 9=.sl kk (xs.map eS)∧gz kk xs∧xu (pT m) H' c n jY n xs∧bh (fun b=>b=c) H1 H')) ⟨.i ⟨.nil,[],rfl,iH _ _,fun _=>rfl,rfl,Ud,bh.refl _ _⟩,rfl,Nat.zero_le _⟩ ?_ ?_
 ·rintro i R H2⟨⟨kk,xs,g9,mJ,mL,Ds,rS,dN⟩,Z9,hi⟩
  by_cases au:i<n
  rotate_left
  ·have mA:i=n:=by omega
   subst mA
   simp -implicitDefEqProofs only[ak,ai,op,ef,cl,sq,reduceIte,q5,q6,q7,q9,j1,j2,j3,j4,j5,S1,g9,Z9,au,dq]
   exact .i ⟨kk,xs,rfl,mL,rS,dN⟩
  have l4:=aC (show i<9223372036854775807 by omega)
  obtain⟨jb,Ue,bS⟩:∃jb,RD H2 c jb∧∀H3,RD H3 c (fR m jb).2→xu (pT m) H3 c n jY (i+1) (xs++[(fR m jb).1])∧((fR m jb).2=none→RD H3 c none∧∀l,jY=some l→pM (pT m) l n=none):=by
   rcases rS with⟨l,r,e1,e2,e3⟩|⟨e1,e2⟩
   ·refine⟨some r,e3,fun H3 xH=>?_⟩
    cases hp:pT m r with
    | none =>
     have es:fR m (some r)=(⟨#[]⟩,none):=by simp -implicitDefEqProofs only[fR,hp]
     have gD:∀l,jY=some l→pM (pT m) l n=none:=fun l' e'=>by
      rw[e1]at e';cases e'
      exact Au (by rw[iL e2,hp]) (show i+1≤n by omega)
     rw[es]at xH ⊢
     exact⟨.inr ⟨xH,gD⟩,fun _=>⟨xH,gD⟩⟩
    | some y =>
     obtain⟨s,r'⟩:=y
     have es:fR m (some r)=(s,some r'):=by simp -implicitDefEqProofs only[fR,hp]
     rw[es]at xH ⊢
     exact⟨.inl ⟨l,r',e1,by rw[iL e2,hp],xH⟩,fun h=>by cases h⟩
   ·refine⟨none,e1,fun H3 xH=>⟨.inr ⟨xH,e2⟩,fun _=>⟨xH,e2⟩⟩⟩
  have yI:c<H2.length:=Ue.lt
  simp -implicitDefEqProofs only[ak,ai,op,ef,cl,sq,reduceIte,q5,q6,q7,q9,j1,j2,j3,j4,j5,S1,g9,Z9,au]
  refine ae _ _ _ _ _ _ _ _ (nV Ue m hm) ?_
  rintro u H3⟨hu,xH,oS⟩
  cases hu
  have aaa:=lF.lg mJ oS (fun t ht=>by omega)
  have cr:=all_map (enc:=eS) (n:=1) (fun _=>rfl) xs
  obtain⟨k4,H4,ha,hk4,Ck⟩:=kZ (bytes:=16) (xs.map eS) [eS (fR m jb).1] aaa (Nat.le_trans dN.1 oS.1) (by simp) (jn (by simp -implicitDefEqProofs only[List.length_map,List.length_cons,List.length_nil];omega))
  have A3:gM H3 16 kk (xs.map eS) [[.str (fR m jb).1]]=some (.sl k4 ((xs++[(fR m jb).1]).map eS),H4):=by rw[List.map_append];exact ha
  have oN:gz k4 (xs++[(fR m jb).1]):=fun e=>absurd e (uG ha (by simp))
  have hF:bh (fun c=>∃e,kk=.own c e) H3 H4:=wT.lg Ck
  have hcn:¬ ∃e,kk=.own c e:=fun ⟨e,he⟩=>by have:=lF.own mJ he;omega
  have VB:RD H4 c (fR m jb).2:=by
   obtain⟨k,rest,e,h1,h2⟩:=xH.at_
   exact⟨k,rest,e,hF.get h1 hcn,h2⟩
  have xK:bh (fun b=>b=c) H1 H4:=(dN.trans oS fun b hb=>.inl hb).trans hF fun b ⟨e,he⟩=>.inr (lF.own mJ he)
  obtain⟨oT,uM⟩:=bS H4 VB
  obtain⟨k5,abM,e5,d5,hl5,hb5,ho5,VC⟩:=VB.at_
  by_cases oW:(fR m jb).2=none
  ·obtain⟨ko,kb⟩:=uM oW
   have e5n:e5≠0:=VC oW
   have e1:(e5 != 0)=true:=by simpa using e5n
   simp -implicitDefEqProofs only[op,ef,cl,sq,reduceIte,q5,q6,q7,q9,j1,j2,j3,j4,j5,S1,g9,cr,A3,d5,e1,dq]
   exact .i ⟨k4,xs++[(fR m jb).1],rfl,oN,.inr ⟨ko,kb⟩,xK⟩
  ·have e50:e5=0:=by
    cases hs:(fR m jb).2 with
    | none=>exact absurd hs oW
    | some l=>exact(ho5 l hs).1
   subst e50
   have e1:((0:Int) != 0)=false:=rfl
   simp -implicitDefEqProofs only[op,ef,cl,sq,reduceIte,q5,q6,q7,q9,j1,j2,j3,j4,j5,S1,g9,Z9,cr,A3,d5,e1,l4]
   exact⟨i+1,by omega,.i ⟨k4,xs++[(fR m jb).1],rfl,hk4,oN,by simp[Ds],oT,xK⟩,rfl,au⟩
 rintro R H2⟨kk,xs,g9,mL,rS,dN⟩
 have Ki:=hf.trans dN fun b hb=>.inl hb
 rw[qD]
 rcases rS with⟨l,r,e1,e2,e3⟩|⟨e1,e2⟩
 ·obtain⟨k2,d2,_,_⟩:=e3.ok
  have er:stM (pT m) n jY=(xs,some r):=by rw[e1];simp -implicitDefEqProofs only[stM,e2]
  rw[er]
  simp -implicitDefEqProofs only[ak,ai,op,ef,cl,sq,reduceIte,q5,q6,q7,q9,j1,j2,j3,j4,j5,S1,g9,d2]
  exact⟨kk,mL,rfl,e3,Ki⟩
 ·obtain⟨k2,fh,e5,d2,V6,kb,VC⟩:=e1.bad
  have Uf:stM (pT m) n jY=([],none):=by
   cases jY with
   | none=>rfl
   | some l=>simp -implicitDefEqProofs only[stM,e2 l rfl]
  rw[Uf]
  have L8:(e5 != 0)=true:=by simpa using VC
  have yI:=aW d2
  simp -implicitDefEqProofs only[ak,ai,op,ef,cl,sq,reduceIte,q5,q6,q7,q9,j1,j2,j3,j4,j5,S1,d2,L8,yI,S2]
  exact⟨.nil,fun _=>rfl,rfl,RD.Vw (bU yI) xF Ha VC,Ki.set (.inl rfl) _⟩
def rL (l:List Nat):Option (Nm×List Nat):=match pT 65535 l with
 | none=>none
 | some (k,r)=>match pN 8 r with
  | none=>none
  | some (v,r')=>some ((k,v),r')
def AF (xs:List Nm):List (ByteArray×T):=xs.foldl (fun es x=>ct es x.1 (.int .u64 x.2)) []
def AG (xs:List Nm)(k:ByteArray):Nat:=xs.foldl (fun v x=>if x.1=k then x.2 else v) 0
theorem xv (xs:List Nm)(x:Nm):AF (xs++[x])=ct (AF xs) x.1 (.int .u64 x.2):=by simp[AF]
theorem GK (xs:List Nm)(x:Nm)(k:ByteArray):AG (xs++[x]) k=if x.1=k then x.2 else AG xs k:=by simp[AG]
def nx {α:Type}(p:List Nat→Option (α×List Nat)):Option (List Nat)→Option (List Nat)
 | none=>none
 | some l=>match p l with
  | none=>none
  | some (_,r)=>some r
def Kj {α:Type}(p:List Nat→Option (α×List Nat))(n:Nat):Option (List Nat)→Option (List α×List Nat)
 | none=>none
 | some l=>pM p l n
theorem aab (st:Option (List Nat)):nx rL st=(ej 8 (fR 65535 st).2).2∧∀l x r,st=some l→rL l=some (x,r)→(fR 65535 st).1=x.1∧(ej 8 (fR 65535 st).2).1=x.2:=by
 cases st with
 | none=>exact⟨rfl,fun l x r h=>by cases h⟩
 | some l =>
  cases h1:pT 65535 l with
  | none =>
   have e:fR 65535 (some l)=(⟨#[]⟩,none):=by simp -implicitDefEqProofs only[fR,h1]
   have e2:rL l=none:=by simp -implicitDefEqProofs only[rL,h1]
   rw[e]
   exact⟨by simp -implicitDefEqProofs only[nx,e2];rfl,fun l' x r h h'=>by cases h;rw[e2]at h';cases h'⟩
  | some y =>
   obtain⟨k,r⟩:=y
   have e:fR 65535 (some l)=(k,some r):=by simp -implicitDefEqProofs only[fR,h1]
   rw[e]
   cases h2:pN 8 r with
   | none =>
    have e2:rL l=none:=by simp -implicitDefEqProofs only[rL,h1,h2]
    have e3:ej 8 (some r)=(0,none):=by simp -implicitDefEqProofs only[ej,h2]
    exact⟨by simp -implicitDefEqProofs only[nx,e2,e3],fun l' x r h h'=>by cases h;rw[e2]at h';cases h'⟩
   | some z =>
    obtain⟨v,r'⟩:=z
    have e2:rL l=some ((k,v),r'):=by simp -implicitDefEqProofs only[rL,h1,h2]
    have e3:ej 8 (some r)=(v,some r'):=by simp -implicitDefEqProofs only[ej,h2]
    refine⟨by simp -implicitDefEqProofs only[nx,e2,e3],fun l' x r h h'=>?_⟩
    cases h
    rw[e2]at h'
    simp -implicitDefEqProofs only[Option.some.injEq,Prod.mk.injEq]at h'
    obtain⟨rfl,rfl⟩:=h'
    exact⟨rfl,by rw[e3]⟩
def rM {α:Type}(p:List Nat→Option (α×List Nat))(st:Option (List Nat)):Option (List α×List Nat):=match st with
 | none=>none
 | some l=>match pC 2147483647 l with
  | none=>none
  | some (n,r)=>pM p r n
theorem GL {α:Type}(p:List Nat→Option (α×List Nat))(st:Option (List Nat)):∃n jY,n=(vA 2147483647 st).1∧jY=(vA 2147483647 st).2∧n≤2147483647∧(jY=none→n=0)∧rM p st=Kj p n jY:=by
 cases st with
 | none=>exact⟨0,none,rfl,rfl,by decide,fun _=>rfl,rfl⟩
 | some l =>
  cases hp:pC 2147483647 l with
  | none =>
   have:vA 2147483647 (some l)=(0,none):=by simp -implicitDefEqProofs only[vA,hp]
   rw[this]
   exact⟨0,none,rfl,rfl,by decide,fun _=>rfl,by simp -implicitDefEqProofs only[rM,hp,Kj]⟩
  | some x =>
   obtain⟨v,r⟩:=x
   have:vA 2147483647 (some l)=(v,some r):=by simp -implicitDefEqProofs only[vA,hp]
   rw[this]
   exact⟨v,some r,rfl,rfl,(lQ hp).2,(fun h=>by cases h),by simp -implicitDefEqProofs only[rM,hp,Kj]⟩
theorem xu.step {α:Type}{p:List Nat→Option (α×List Nat)}{H:af}{c n i:Nat}{jY:Option (List Nat)}{xs:List α}(h:xu p H c n jY i xs)(hi:i<n):∃jb,RD H c jb∧∀H3 Ug x,RD H3 c Ug→(∀l,jb=some l→Ug=nx p (some l)∧∀y r,p l=some (y,r)→x=y)→(jb=none→Ug=none)→xu p H3 c n jY (i+1) (xs++[x]):=by
 rcases h with⟨l,r,e1,e2,e3⟩|⟨e1,e2⟩
 ·refine⟨some r,e3,fun H3 Ug x xH hs _=>?_⟩
  obtain⟨h1,h2⟩:=hs r rfl
  unfold nx at h1
  cases hp:p r with
  | none =>
   simp -implicitDefEqProofs only[hp]at h1
   subst h1
   exact .inr ⟨xH,fun l' e'=>by
    rw[e1]at e';cases e'
    exact Au (by rw[iL e2,hp]) (show i+1≤n by omega)⟩
  | some y =>
   obtain⟨y,r'⟩:=y
   simp -implicitDefEqProofs only[hp]at h1
   have:=h2 y r' hp
   subst h1;subst this
   exact .inl ⟨l,r',e1,by rw[iL e2,hp],xH⟩
 ·refine⟨none,e1,fun H3 Ug x xH _ hn=>?_⟩
  have:=hn rfl
  subst this
  exact .inr ⟨xH,e2⟩
theorem xu.wf {α:Type}{p:List Nat→Option (α×List Nat)}{H:af}{c n i:Nat}{jY:Option (List Nat)}{xs:List α}(h:xu p H c n jY i xs):∃jb,RD H c jb∧(jb=none→∀l,jY=some l→pM p l n=none):=by
 rcases h with⟨l,r,e1,e2,e3⟩|⟨e1,e2⟩
 ·exact⟨some r,e3,fun h=>by cases h⟩
 ·exact⟨none,e1,fun _=>e2⟩
theorem xu.end_ {α:Type}{p:List Nat→Option (α×List Nat)}{H:af}{c n:Nat}{st jY:Option (List Nat)}{xs:List α}(h:xu p H c n jY n xs)(hp:rM p st=Kj p n jY):(∃r,rM p st=some (xs,r)∧RD H c (some r))∨(rM p st=none∧RD H c none):=by
 rw[hp]
 rcases h with⟨l,r,e1,e2,e3⟩|⟨e1,e2⟩
 ·exact .inl ⟨r,by rw[e1];exact e2,e3⟩
 ·refine .inr ⟨?_,e1⟩
  cases jY with
  | none=>rfl
  | some l=>exact e2 l rfl
def O0 (c:Nat)(st:Option (List Nat))(H:af):Out→af→Prop:=fun o H'=>∃kk xs mb,o=.val (.bF [.sl kk (xs.map eW),.map mb])∧H'[mb]?=some (.map (ba T.str (AF xs)))∧H.length≤mb∧bh (fun b=>b=c) H H'∧((∃r,rM rL st=some (xs,r)∧RD H' c (some r))∨(rM rL st=none∧RD H' c none))
set_option maxHeartbeats 1000000 in
theorem B9 {H:af}{c:Nat}{st:Option (List Nat)}(h:RD H c st):W env (.call 52 [.ptr c 0]) H (O0 c st H):=by
 have lc:=h.lt
 obtain⟨H1,vw⟩:∃H1,H1=H++[B.map []]:=⟨_,rfl⟩
 have gw:Ext H H1:=⟨_,vw⟩
 have Cr:=h.ext gw
 have d1:H1[H.length]?=some (.map (ba T.str (AF []))):=by rw[vw];exact aU rfl
 have l1:H1.length=H.length+1:=by rw[vw];simp
 refine W.bR rfl rfl rfl ?_
 simp -implicitDefEqProofs only[Ny,op,ef,cl,sq,reduceIte,q5,q6,q7,q9,j1,j2,j3,j4,j5,S1]
 rw[←vw]
 refine ae _ _ _ _ _ _ _ _ (uZ Cr 2147483647 (by decide)) ?_
 rintro u H2⟨hu,hr,hf⟩
 cases hu
 obtain⟨n,jY,hn,B8,PD,ji,hpc⟩:=GL rL st
 rw[←hn]
 rw[←B8]at hr
 have d2:=hf.get d1 (by omega)
 have Ki:bh (fun b=>b=c) H H2:=(ay gw).trans hf fun b hb=>.inl hb
 have Mn:c<H2.length:=hr.lt
 have V6:H1.length≤H2.length:=hf.1
 have Ud:xu rL H2 c n jY 0 []:=by
  cases jY with
  | none=>exact .inr ⟨hr,fun l h=>by cases h⟩
  | some l=>exact .inl ⟨l,l,rfl,rfl,hr⟩
 simp -implicitDefEqProofs only[op,ef,cl,sq,reduceIte,q5,q6,q7,q9,j1,j2,j3,j4,j5,S1]
 refine W.fW 0 [(0,_),(5,_)] (fun (i:Nat) R H'=>At H' (fun H'=>∃kk xs,R 4=.sl kk (xs.map eW)∧lF H2.length H' kk∧xs.length=i∧H'[H.length]?=some (.map (ba T.str (AF xs)))∧xu rL H' c n jY i xs∧bh (fun b=>b=c) H H'∧H2.length≤H'.length)∧R 6=.int .i64 ((n-i:Nat):Int)∧i≤n) (fun i=>n-i) 0
  (fun R H'=>At H' (fun H'=>∃kk xs,R 4=.sl kk (xs.map eW)∧H'[H.length]?=some (.map (ba T.str (AF xs)))∧xu rL H' c n jY n xs∧bh (fun b=>b=c) H H')) ⟨.i ⟨.nil,[],rfl,iH _ _,rfl,d2,Ud,Ki,Nat.le_refl _⟩,rfl,Nat.zero_le _⟩ ?_ ?_
 ·rintro i R H3⟨⟨kk,xs,g4,mJ,Ds,d3,rS,oS,hl3⟩,g6,hi⟩
  by_cases au:i<n
  rotate_left
  ·have mA:i=n:=by omega
   subst mA
   have e:decide (((i-i:Nat):Int)>0)=false:=by simp
   simp -implicitDefEqProofs only[ak,ai,op,ef,cl,sq,reduceIte,q5,q6,q7,q9,j1,j2,j3,j4,j5,S1,g4,g6,e,dq]
   exact .i ⟨kk,xs,rfl,d3,rS,oS⟩
  obtain⟨stw,Uh,oW⟩:=rS.wf
  have e:decide (((n-i:Nat):Int)>0)=true:=by simp;omega
  simp -implicitDefEqProofs only[ak,ai,op,ef,cl,sq,reduceIte,q5,q6,q7,q9,j1,j2,j3,j4,j5,S1,g4,g6,e]
  refine ae _ _ _ _ _ _ _ _ (LN Uh) ?_
  rintro u H3'⟨rfl,er,hu,LO⟩
  cases hu
  by_cases hw:stw=none
  ·have GM:¬er=0:=fun h0=>(LO.1 h0) hw
   have e1:(er==0)=false:=by simpa using GM
   simp -implicitDefEqProofs only[op,ef,cl,sq,reduceIte,q5,q6,q7,q9,j1,j2,j3,j4,j5,S1,e1,g4,dq]
   refine .i ⟨kk,xs,rfl,d3,.inr ⟨by rw[←hw];exact Uh,oW hw⟩,oS⟩
  have GM:er=0:=LO.2 hw
  subst GM
  obtain⟨jb,uu,bS⟩:=rS.step au
  have yI:c<H3'.length:=uu.lt
  have e1:((0:Int)==0)=true:=rfl
  simp -implicitDefEqProofs only[op,ef,cl,sq,reduceIte,q5,q6,q7,q9,j1,j2,j3,j4,j5,S1,e1]
  refine ae _ _ _ _ _ _ _ _ (nV uu 65535 (by decide)) ?_
  rintro u H4⟨hu,VB,xK⟩
  cases hu
  simp -implicitDefEqProofs only[op,ef,cl,sq,reduceIte,q5,q6,q7,q9,j1,j2,j3,j4,j5,S1]
  refine ae _ _ _ _ _ _ _ _ (OY VB) ?_
  rintro u H5⟨hu,hr5,Tj⟩
  cases hu
  obtain⟨s1,s2⟩:=aab jb
  obtain⟨x,hx⟩:∃x:Nm,x=((fR 65535 jb).1,(ej 8 (fR 65535 jb).2).1):=⟨_,rfl⟩
  have x1:(fR 65535 jb).1=x.1:=by rw[hx]
  have x2:(ej 8 (fR 65535 jb).2).1=x.2:=by rw[hx]
  rw[x1,x2]
  have Ui:=xK.trans Tj fun b hb=>.inl hb
  obtain⟨H6,J2⟩:∃H6,H6=H5++[B.cells (eW x)]:=⟨_,rfl⟩
  have rf:Ext H5 H6:=⟨_,J2⟩
  have d6:H6[H5.length]?=some (.cells (eW x)):=by rw[J2];exact aU rfl
  have GN:bh (fun b=>b=c) H3' H6:=Ui.ext rf
  have Kk:=lF.lg mJ GN (fun t ht=>by omega)
  have l5:H3'.length≤H5.length:=Ui.1
  have m6:=GN.get d3 (by omega)
  have cr:=all_map (enc:=eW) (n:=2) (fun _=>rfl) xs
  obtain⟨k7,H7,ha,hk7,JS⟩:=kZ (bytes:=24) (xs.map eW) [eW x] Kk (Nat.le_trans hl3 GN.1) (by simp) (jn (by simp -implicitDefEqProofs only[List.length_map,List.length_cons,List.length_nil];omega))
  have A3:gM H6 24 kk (xs.map eW) [[.str x.1,.int .u64 x.2]]=some (.sl k7 ((xs++[x]).map eW),H7):=by rw[List.map_append];exact ha
  have m7:=JS.cells Kk m6 (by simp)
  have d7:=JS.cells Kk d6 (by simp)
  have l7:=aW m7
  obtain⟨H8,GD⟩:∃H8,H8=H7.set H.length (.map (ba T.str (AF (xs++[x])))):=⟨_,rfl⟩
  have Uj:=GD
  rw[xv]at Uj
  have hF7:bh (fun b=>b=c) H H7:=(oS.trans GN fun b hb=>.inl hb).trans (wT.lg JS) fun b ⟨e,he⟩=>.inr (by have:=lF.own mJ he;omega)
  have hF8:bh (fun b=>b=c) H H8:=by rw[GD];exact hF7.set (.inr (Nat.le_refl _)) _
  have r8:RD H8 c (ej 8 (fR 65535 jb).2).2:=by
   obtain⟨k,rest,e,h1,h2⟩:=(hr5.ext rf).at_
   have h3:=JS.cells Kk h1 (by simp)
   exact⟨k,rest,e,by rw[GD,bf (by omega)];exact h3,h2⟩
  have aaf:lF H2.length H8 k7:=by rw[GD];exact hk7.set m7 (by simp) _
  have pm8:=bS H8 (ej 8 (fR 65535 jb).2).2 x r8 (fun l hl=>⟨by rw[←s1,hl],fun y r hy=>by
   obtain⟨y1,y2⟩:=s2 l y r hl hy
   rw[hx,y1,y2]⟩) (fun hl=>by rw[hl];rfl)
  have wd:IntKind.i64.wrap (((n-i:Nat):Int)-1)=((n-(i+1):Nat):Int):=by rw[wrap64 (by omega)];omega
  simp -implicitDefEqProofs only[eW]at J2 d6 d7
  simp -implicitDefEqProofs only[op,ef,cl,sq,reduceIte,q5,q6,q7,q9,j1,j2,j3,j4,j5,S1,S2]
  rw[←J2]
  simp -implicitDefEqProofs only[op,ef,cl,sq,reduceIte,q5,q6,q7,q9,j1,j2,j3,j4,j5,S1,g4,g6,d6,d7,cr,A3,m7,l7,wd]
  rw[←Uj]
  exact⟨i+1,by omega,.i ⟨k7,xs++[x],rfl,aaf,by simp[Ds],by rw[GD];exact bU l7,pm8,hF8,by rw[GD,List.length_set];have:=JS.len;have:=GN.1;omega⟩,rfl,au⟩
 rintro R H3⟨kk,xs,g4,d3,rS,oS⟩
 simp -implicitDefEqProofs only[ak,ai,op,ef,cl,sq,reduceIte,q5,q6,q7,q9,j1,j2,j3,j4,j5,S1,g4]
 exact⟨kk,xs,H.length,rfl,d3,Nat.le_refl _,oS,rS.end_ hpc⟩
def pz (l:List Nat):Option (Kd×List Nat):=match pT 65535 l with
 | none=>none
 | some (k,r1)=>match pN 8 r1 with
  | none=>none
  | some (v,r2)=>match pT 65535 r2 with
   | none=>none
   | some (w,r3)=>match CF 1024 65535 r3 with
    | none=>none
    | some (ks,r4)=>some (⟨k,v,w,.arg,ks,-1⟩,r4)
def VD (st:Option (List Nat)):=fR 65535 st
def VE (st:Option (List Nat)):=ej 8 (VD st).2
def Uk (st:Option (List Nat)):=fR 65535 (VE st).2
def Km (st:Option (List Nat)):=oX 1024 65535 (Uk st).2
theorem Ul (st:Option (List Nat)):nx pz st=(Km st).2∧(st=none→(Km st).2=none)∧∀l x r,st=some l→pz l=some (x,r)→(VD st).1=x.key∧(VE st).1=x.id∧(Uk st).1=x.value∧(Km st).1=x.keys∧x.kk=.arg∧x.a9=-1:=by
 have n1:ej 8 none=(0,none):=rfl
 have n2:fR 65535 none=(⟨#[]⟩,none):=rfl
 have n3:oX 1024 65535 none=([],none):=rfl
 cases st with
 | none=>exact⟨rfl,fun _=>rfl,fun l x r h=>by cases h⟩
 | some l =>
  unfold Km Uk VE VD
  cases h1:pT 65535 l with
  | none =>
   have e:fR 65535 (some l)=(⟨#[]⟩,none):=by simp -implicitDefEqProofs only[fR,h1]
   have e2:pz l=none:=by simp -implicitDefEqProofs only[pz,h1]
   rw[e]
   exact⟨by simp -implicitDefEqProofs only[nx,e2,n1,n2,n3],(fun h=>by cases h),fun l' x r h h'=>by cases h;rw[e2]at h';cases h'⟩
  | some y =>
   obtain⟨k,r1⟩:=y
   have e:fR 65535 (some l)=(k,some r1):=by simp -implicitDefEqProofs only[fR,h1]
   rw[e]
   cases h2:pN 8 r1 with
   | none =>
    have e2:pz l=none:=by simp -implicitDefEqProofs only[pz,h1,h2]
    have e3:ej 8 (some r1)=(0,none):=by simp -implicitDefEqProofs only[ej,h2]
    exact⟨by simp -implicitDefEqProofs only[nx,e2,e3,n1,n2,n3],(fun h=>by cases h),fun l' x r h h'=>by cases h;rw[e2]at h';cases h'⟩
   | some z =>
    obtain⟨v,r2⟩:=z
    have e3:ej 8 (some r1)=(v,some r2):=by simp -implicitDefEqProofs only[ej,h2]
    simp -implicitDefEqProofs only[e3]
    cases h3:pT 65535 r2 with
    | none =>
     have e2:pz l=none:=by simp -implicitDefEqProofs only[pz,h1,h2,h3]
     have e4:fR 65535 (some r2)=(⟨#[]⟩,none):=by simp -implicitDefEqProofs only[fR,h3]
     exact⟨by simp -implicitDefEqProofs only[nx,e2,e4,n3],(fun h=>by cases h),fun l' x r h h'=>by cases h;rw[e2]at h';cases h'⟩
    | some w =>
     obtain⟨w,r3⟩:=w
     have e4:fR 65535 (some r2)=(w,some r3):=by simp -implicitDefEqProofs only[fR,h3]
     simp -implicitDefEqProofs only[e4]
     cases h4:CF 1024 65535 r3 with
     | none =>
      have e2:pz l=none:=by simp -implicitDefEqProofs only[pz,h1,h2,h3,h4]
      have e5:oX 1024 65535 (some r3)=([],none):=by simp -implicitDefEqProofs only[oX,h4]
      exact⟨by simp -implicitDefEqProofs only[nx,e2,e5],(fun h=>by cases h),fun l' x r h h'=>by cases h;rw[e2]at h';cases h'⟩
     | some q =>
      obtain⟨ks,r4⟩:=q
      have e2:pz l=some (⟨k,v,w,.arg,ks,-1⟩,r4):=by simp -implicitDefEqProofs only[pz,h1,h2,h3,h4]
      have e5:oX 1024 65535 (some r3)=(ks,some r4):=by simp -implicitDefEqProofs only[oX,h4]
      refine⟨by simp -implicitDefEqProofs only[nx,e2,e5],(fun h=>by cases h),fun l' x r h h'=>?_⟩
      cases h
      rw[e2]at h'
      simp -implicitDefEqProofs only[Option.some.injEq,Prod.mk.injEq]at h'
      obtain⟨rfl,rfl⟩:=h'
      simp -implicitDefEqProofs only[e5]
      exact⟨trivial,trivial,trivial,trivial,trivial,trivial⟩
def u2 (now:Int)(L:List Nm)(x:Kd):Kd:={ x with a9:=if x.id<AG L x.key then now else -1 }
def pH (l:List Nat):Option (Nat×List Nat):=match pN 4 l with
 | none=>none
 | some (f,r1)=>match pN 1 r1 with
  | none=>none
  | some (k,r2)=>match pN 8 r2 with
   | none=>none
   | some (g,r3)=>if f=1918987632∧k=1∧1≤g∧g≤9223372036854775807 then some (g,r3)else none
def pR (l:List Nat):Option (Nat×List Nm×List Kd):=match pH l with
 | none=>none
 | some (g,r3)=>match rM rL (some r3)with
  | none=>none
  | some (L,r4)=>match rM pz (some r4)with
   | none=>none
   | some (K,r5)=>if r5=[]then some (g,L,K)else none
theorem stH (l:List Nat):if (ej 4 (some l)).1=1918987632∧(ej 1 (ej 4 (some l)).2).1=1∧1≤(ej 8 (ej 1 (ej 4 (some l)).2).2).1∧(ej 8 (ej 1 (ej 4 (some l)).2).2).1≤9223372036854775807 then ∃r,pH l=some ((ej 8 (ej 1 (ej 4 (some l)).2).2).1,r)∧(ej 8 (ej 1 (ej 4 (some l)).2).2).2=some r else pH l=none:=by
 have n1:ej 8 none=(0,none):=rfl
 have n2:ej 1 none=(0,none):=rfl
 cases h1:pN 4 l with
 | none =>
  have e:ej 4 (some l)=(0,none):=by simp -implicitDefEqProofs only[ej,h1]
  rw[e,if_neg (fun h=>by have:=h.1;cases this)]
  simp -implicitDefEqProofs only[pH,h1]
 | some x =>
  obtain⟨f,r1⟩:=x
  have e:ej 4 (some l)=(f,some r1):=by simp -implicitDefEqProofs only[ej,h1]
  rw[e]
  simp only
  cases h2:pN 1 r1 with
  | none =>
   have e2:ej 1 (some r1)=(0,none):=by simp -implicitDefEqProofs only[ej,h2]
   rw[e2,if_neg (fun h=>by have:=h.2.1;cases this)]
   simp -implicitDefEqProofs only[pH,h1,h2]
  | some y =>
   obtain⟨k,r2⟩:=y
   have e2:ej 1 (some r1)=(k,some r2):=by simp -implicitDefEqProofs only[ej,h2]
   rw[e2]
   simp only
   cases h3:pN 8 r2 with
   | none =>
    have e3:ej 8 (some r2)=(0,none):=by simp -implicitDefEqProofs only[ej,h3]
    rw[e3,if_neg (fun h=>by have:=h.2.2.1;simp at this)]
    simp -implicitDefEqProofs only[pH,h1,h2,h3]
   | some z =>
    obtain⟨g,r3⟩:=z
    have e3:ej 8 (some r2)=(g,some r3):=by simp -implicitDefEqProofs only[ej,h3]
    rw[e3]
    simp only
    by_cases hc:f=1918987632∧k=1∧1≤g∧g≤9223372036854775807
    ·rw[if_pos hc]
     exact⟨r3,by simp -implicitDefEqProofs only[pH,h1,h2,h3];rw[if_pos hc],rfl⟩
    ·rw[if_neg hc]
     simp -implicitDefEqProofs only[pH,h1,h2,h3];rw[if_neg hc]
theorem AH (xs:List Nm)(k:ByteArray):(ah (AF xs) k=none∧AG xs k=0)∨ah (AF xs) k=some (.int .u64 (AG xs k)):=by
 have h:∀n,n≤xs.length→(ah (AF (xs.take n)) k=none∧AG (xs.take n) k=0)∨ah (AF (xs.take n)) k=some (.int .u64 (AG (xs.take n) k)):=by
  intro n
  induction n with
  | zero=>exact fun _=>.inl ⟨rfl,rfl⟩
  | succ n ih =>
   intro hn
   obtain⟨x,hx⟩:=cj (l:=xs) (i:=n) (by omega)
   rw[fj hx,xv,GK,bm]
   by_cases e:k=x.1
   ·rw[if_pos e,if_pos e.symm];exact .inr rfl
   ·rw[if_neg e,if_neg (fun h=>e h.symm)];exact ih (by omega)
 have:=h xs.length (Nat.le_refl _)
 rwa[List.take_length]at this
theorem O1 {l r:List Nat}{x:Kd}(h:pz l=some (x,r)):x.kk=.arg∧x.keys.length≤1024:=by
 have hs:=(Ul (some l)).2.2 l x r rfl h
 refine⟨hs.2.2.2.2.1,?_⟩
 rw[←hs.2.2.2.1]
 unfold Km
 generalize (Uk (some l)).2=st
 cases st with
 | none=>exact Nat.zero_le _
 | some r3 =>
  unfold oX
  simp only
  cases h4:CF 1024 65535 r3 with
  | none=>exact Nat.zero_le _
  | some q =>
   obtain⟨ks,r4⟩:=q
   simp only
   unfold CF at h4
   cases h5:pC 1024 r3 with
   | none=>rw[h5]at h4;cases h4
   | some y =>
    obtain⟨n,r5⟩:=y
    rw[h5]at h4
    rw[uT h4]
    exact(lQ h5).2
theorem O2 {α:Type}{p:List Nat→Option (α×List Nat)}{Q:α→Prop}(hQ:∀l x r,p l=some (x,r)→Q x){l r:List Nat}:∀{n:Nat} {xs:List α},pM p l n=some (xs,r)→∀x∈xs,Q x
 | n,xs,h=>by
  induction n generalizing xs r with
  | zero=>simp -implicitDefEqProofs only[pM,Option.some.injEq,Prod.mk.injEq]at h;rw[←h.1];intro x hx;cases hx
  | succ n ih =>
   cases h1:pM p l n with
   | none=>simp -implicitDefEqProofs only[pM,h1]at h;cases h
   | some y =>
    obtain⟨ys,r1⟩:=y
    rw[iL h1]at h
    cases h2:p r1 with
    | none=>rw[h2]at h;cases h
    | some z =>
     obtain⟨z,r2⟩:=z
     rw[h2]at h
     simp -implicitDefEqProofs only[Option.some.injEq,Prod.mk.injEq]at h
     rw[←h.1]
     intro x hx
     rcases List.mem_append.1 hx with hx|hx
     ·exact ih _ h1 x hx
     ·simp at hx;subst hx;exact hQ _ _ _ h2
theorem Kn {α:Type}{p:List Nat→Option (α×List Nat)}{Q:α→Prop}(hQ:∀l x r,p l=some (x,r)→Q x){st:Option (List Nat)}{xs:List α}{r:List Nat}(h:rM p st=some (xs,r)):∀x∈xs,Q x:=by
 unfold rM at h
 cases st with
 | none=>cases h
 | some l =>
  simp only at h
  cases h1:pC 2147483647 l with
  | none=>rw[h1]at h;cases h
  | some y =>
   obtain⟨n,r1⟩:=y
   rw[h1]at h
   exact O2 hQ h
def oY (l:List Nat):Prop:=4≤l.length∧dr 4 (iW (l.take (l.length-4)))=l.drop (l.length-4)
def LP (l : List Nat)(now : Int)(H : af) : Out → af → Prop := fun o H' =>
  (¬bl now ∧ o = .val (.bF [.int .i64 0, .b0, .int .i64 1]) ∧ Ext H H') ∨
  (bl now ∧ ¬oY l ∧ o = .val (.bF [.int .i64 0, .b0, .int .i64 90]) ∧ Ext H H') ∨
  (bl now ∧ oY l ∧ pR (l.take (l.length - 4)) = none ∧ o = .val (.bF [.int .i64 0, .b0, .int .i64 2]) ∧ Ext H H') ∨
  (bl now ∧ oY l ∧ ∃g L K, pR (l.take (l.length - 4)) = some (g, L, K) ∧
    ((mO (K.map (u2 now L)) L ∧ ∃b F, o = .val (.bF [.int .i64 g, .ptr b.s 0, .int .i64 0]) ∧ kr H H' b (gg (K.map (u2 now L)) L) F K.length) ∨
     (¬mO (K.map (u2 now L)) L ∧ o = .val (.bF [.int .i64 0, .b0, .int .i64 2]) ∧ Ext H H')))
theorem tN {H0 H H':af}{c:Nat}(hx:Ext H0 H)(hf:bh (fun b=>b=c) H H')(hc:H0.length≤c):Ext H0 H' :=
 eM ((ay (F:=fun _=>False) hx).trans hf fun b hb=>.inr (by omega))
theorem AI {l m:List Nat}(hl:dR l)(hm:dR m):uS l=uS m↔l=m:=⟨fun h=>by rw[←Gt hl,←Gt hm,h],fun h=>by rw[h]⟩
set_option maxHeartbeats 8000000 in
theorem GO (k:SK)(l:List Nat)(hk:gz k l)(hb:dR l)(hl:l.length≤4294967296)(now:Int)(ON:oY l→∀g L K,pR (l.take (l.length-4))=some (g,L,K)→K.length≤8000000∧L.length≤8000000)(H:af) :
  W env (.call 17 [.sl k (l.map eB),.int .i64 now]) H (LP l now H):=by
 refine W.bR rfl rfl rfl ?_
 by_cases ht:¬bl now
 ·have hd:now<0∨(¬now<0∧now>1099511627776):=by unfold bl at ht;omega
  rcases hd with h1|⟨h1,h2⟩
  ·simp -implicitDefEqProofs only[BG,op,ef,cl,sq,reduceIte,q5,q6,q7,q9,j1,j2,j3,j4,j5,S1,h1]
   exact .inl ⟨ht,rfl,Ext.rfl'⟩
  ·simp -implicitDefEqProofs only[BG,op,ef,cl,sq,reduceIte,q5,q6,q7,q9,j1,j2,j3,j4,j5,S1,h1,h2]
   exact .inl ⟨ht,rfl,Ext.rfl'⟩
 have ht:bl now:=Classical.not_not.1 ht
 have t1:¬now<0:=by unfold bl at ht;omega
 have t2:¬now>1099511627776:=by unfold bl at ht;omega
 by_cases hlen:l.length<4
 ·have w4:IntKind.i64.wrap ((l.length:Int)-4)=(l.length:Int)-4:=wrap64 (by omega)
  have e:decide ((l.length:Int)-4<0)=true:=by simp;omega
  simp -implicitDefEqProofs only[BG,op,ef,cl,sq,reduceIte,q5,q6,q7,q9,j1,j2,j3,j4,j5,S1,t1,t2,List.length_map,w4,e]
  exact .inr (.inl ⟨ht,fun h=>by have:=h.1;omega,rfl,Ext.rfl'⟩)
 obtain⟨n,hn⟩:∃n,n=l.length-4:=⟨_,rfl⟩
 have w4:IntKind.i64.wrap ((l.length:Int)-4)=(n:Int):=by rw[wrap64 (by omega)];omega
 have e:¬((n:Int)<0):=by omega
 have dG:=rq (k:=k) (l:=l) (n:=n) (by omega)
 have VA:=ru (k:=k) (l:=l) (n:=n) (by omega)
 have rT:=GJ (k:=k.cut l.length n l.length) (l:=l.drop n)
 have M6:dR (l.take n):=hb.take n
 simp -implicitDefEqProofs only[BG,op,ef,cl,sq,reduceIte,q5,q6,q7,q9,j1,j2,j3,j4,j5,S1,t1,t2,List.length_map,w4,e,↓dG,↓VA,↓rT]
 refine ae _ _ _ _ _ _ _ _ (GC _ (l.take n) M6 (by rw[List.length_take];omega) _) ?_
 rintro u H1⟨gw,hu⟩
 cases hu
 have gw:Ext H H1:=gw
 have O3:=GJ (k:=.full) (l:=dr 4 (iW (l.take n)))
 have ha0:=xm (l.drop n)
 have Ha:=mP (l.drop n)
 have vJ:(⟨((l.drop n).map UInt8.ofNat).toArray⟩:ByteArray)=uS (l.drop n):=rfl
 by_cases HA:oY l
 rotate_left
 ·have bG:¬uS (dr 4 (iW (l.take n)))=uS (l.drop n):=fun h=>HA ⟨by omega,by rw[←hn];exact(AI (eQ _ _) (hb.drop n)).1 h⟩
  simp -implicitDefEqProofs only[op,ef,cl,sq,reduceIte,q5,q6,q7,q9,j1,j2,j3,j4,j5,S1,↓O3,bG,ha0,Ha,vJ]
  exact .inr (.inl ⟨ht,HA,rfl,gw⟩)
 have heq:uS (dr 4 (iW (l.take n)))=uS (l.drop n):=by have:=HA.2;rw[←hn]at this;rw[this]
 obtain⟨bd,Um⟩:∃bd,bd=l.take n:=⟨_,rfl⟩
 have hq:l.take (l.length-4)=bd:=by rw[←hn,Um]
 rw[hq]at ON
 have kc:bd.length≤4294967296:=by rw[Um,List.length_take];omega
 rw[←Um]at dG M6 O3
 have jN:gz (k.cut l.length 0 n) bd:=fun e=>by
  have:k=.nil:=by
   cases k<;>simp -implicitDefEqProofs only[SK.cut]at e
   ·rfl
   ·cases e
   ·split at e<;>cases e
   ·split at e<;>cases e
  rw[Um,hk this];simp
 rw[←Um]at heq ⊢
 simp -implicitDefEqProofs only[op,ef,cl,sq,reduceIte,q5,q6,q7,q9,j1,j2,j3,j4,j5,S1,↓O3,heq,↓dG,ha0,Ha,vJ]
 refine ae _ _ _ _ _ _ _ _ (OZ _ bd jN kc M6 _) ?_
 rintro u H2⟨xJ,c,lq,hu,r2⟩
 cases hu
 have xJ:Ext H H2:=gw.trans xJ
 have hc:H.length≤c:=Nat.le_trans gw.len lq
 simp -implicitDefEqProofs only[op,ef,cl,sq,reduceIte,q5,q6,q7,q9,j1,j2,j3,j4,j5,S1]
 refine ae _ _ _ _ _ _ _ _ (Z7 r2) ?_
 rintro u H3⟨hu,r3,f3⟩
 cases hu
 have pd:=tN xJ f3 hc
 simp -implicitDefEqProofs only[op,ef,cl,sq,reduceIte,q5,q6,q7,q9,j1,j2,j3,j4,j5,S1]
 refine ae _ _ _ _ _ _ _ _ (Z8 r3) ?_
 rintro u H4⟨hu,r4,f4⟩
 cases hu
 have uM:=tN pd f4 hc
 simp -implicitDefEqProofs only[op,ef,cl,sq,reduceIte,q5,q6,q7,q9,j1,j2,j3,j4,j5,S1]
 refine ae _ _ _ _ _ _ _ _ (OY r4) ?_
 rintro u H5⟨hu,r5,f5⟩
 cases hu
 have mZ:=tN uM f5 hc
 have hH:=stH bd
 generalize (ej 8 (ej 1 (ej 4 (some bd)).2).2)=q8 at *
 generalize (ej 1 (ej 4 (some bd)).2).1=q1 at *
 generalize (ej 4 (some bd)).1=q4 at *
 have bad:∀{H':af},Ext H H'→pR bd=none→LP l now H (.val (.bF [.int .i64 0,.b0,.int .i64 2])) H':=fun hx hp=>.inr (.inr (.inl ⟨ht,HA,by rw[hq];exact hp,rfl,hx⟩))
 by_cases c1:q4=1918987632
 rotate_left
 ·have d1:((q4:Int) != 1918987632)=true:=by simp;omega
  rw[if_neg (fun h=>c1 h.1)]at hH
  simp -implicitDefEqProofs only[op,ef,cl,sq,reduceIte,q5,q6,q7,q9,j1,j2,j3,j4,j5,S1,d1]
  exact bad mZ (by simp -implicitDefEqProofs only[pR,hH])
 by_cases c2:q1=1
 rotate_left
 ·have d1:((q4:Int) != 1918987632)=false:=by simp;omega
  have d2:((q1:Int) != 1)=true:=by simp;omega
  rw[if_neg (fun h=>c2 h.2.1)]at hH
  simp -implicitDefEqProofs only[op,ef,cl,sq,reduceIte,q5,q6,q7,q9,j1,j2,j3,j4,j5,S1,d1,d2]
  exact bad mZ (by simp -implicitDefEqProofs only[pR,hH])
 have d1:((q4:Int) != 1918987632)=false:=by simp;omega
 have d2:((q1:Int) != 1)=false:=by simp;omega
 by_cases c3:1≤q8.1
 rotate_left
 ·have d3:decide ((q8.1:Int)<1)=true:=by simp;omega
  rw[if_neg (fun h=>c3 h.2.2.1)]at hH
  simp -implicitDefEqProofs only[op,ef,cl,sq,reduceIte,q5,q6,q7,q9,j1,j2,j3,j4,j5,S1,d1,d2,d3]
  exact bad mZ (by simp -implicitDefEqProofs only[pR,hH])
 have d3:decide ((q8.1:Int)<1)=false:=by simp;omega
 by_cases c4:q8.1≤9223372036854775807
 rotate_left
 ·have d4:decide ((q8.1:Int)>9223372036854775807)=true:=by simp;omega
  rw[if_neg (fun h=>c4 h.2.2.2)]at hH
  simp -implicitDefEqProofs only[op,ef,cl,sq,reduceIte,q5,q6,q7,q9,j1,j2,j3,j4,j5,S1,d1,d2,d3,d4]
  exact bad mZ (by simp -implicitDefEqProofs only[pR,hH])
 have d4:decide ((q8.1:Int)>9223372036854775807)=false:=by simp;omega
 rw[if_pos ⟨c1,c2,c3,c4⟩]at hH
 obtain⟨rr,hH,hq8⟩:=hH
 rw[hq8]at r5
 simp -implicitDefEqProofs only[op,ef,cl,sq,reduceIte,q5,q6,q7,q9,j1,j2,j3,j4,j5,S1,d1,d2,d3,d4]
 refine ae _ _ _ _ _ _ _ _ (B9 r5) ?_
 rintro u H6⟨kL,L,mb,hu,dm,Hr,f6,hP⟩
 cases hu
 have rf:=tN mZ f6 hc
 have Md:mb≠c:=by have:=r5.lt;omega
 obtain⟨O4,r6,hL6⟩:∃O4,RD H6 c O4∧((∃r,O4=some r∧rM rL (some rr)=some (L,r))∨(O4=none∧rM rL (some rr)=none)):=by
  rcases hP with⟨r,h1,h2⟩|⟨h1,h2⟩
  ·exact⟨some r,h2,.inl ⟨r,rfl,h1⟩⟩
  ·exact⟨none,h2,.inr ⟨rfl,h1⟩⟩
 simp -implicitDefEqProofs only[op,ef,cl,sq,reduceIte,q5,q6,q7,q9,j1,j2,j3,j4,j5,S1]
 refine ae _ _ _ _ _ _ _ _ (uZ r6 2147483647 (by decide)) ?_
 rintro u H7⟨hu,r7,f7⟩
 cases hu
 have pj:=tN rf f7 hc
 obtain⟨m,jY,hm,B8,aeT,vJ,hpc⟩:=GL pz O4
 rw[←hm]
 rw[←B8]at r7
 have dm7:=f7.get dm Md
 have lc7:c<H7.length:=r7.lt
 have Ud:xu pz H7 c m jY 0 []:=by
  cases jY with
  | none=>exact .inr ⟨r7,fun l h=>by cases h⟩
  | some l=>exact .inl ⟨l,l,rfl,rfl,r7⟩
 simp -implicitDefEqProofs only[op,ef,cl,sq,reduceIte,q5,q6,q7,q9,j1,j2,j3,j4,j5,S1]
 refine W.fW 0 [(1,_),(8,_),(11,_),(12,_),(13,_)] (fun (i:Nat) R H'=>At H' (fun H'=>∃kk xs,R 14=.sl kk ((xs.map (u2 now L)).map js)∧lF H7.length H' kk∧xs.length=i∧H'[mb]?=some (.map (ba T.str (AF L)))∧xu pz H' c m jY i xs∧bh (fun b=>b=c) H7 H')∧R 15=.int .i64 ((m-i:Nat):Int)∧i≤m) (fun i=>m-i) 0
  (fun R H'=>At H' (fun H'=>∃kk xs,R 14=.sl kk ((xs.map (u2 now L)).map js)∧xu pz H' c m jY m xs∧bh (fun b=>b=c) H7 H')) ⟨.i ⟨.nil,[],rfl,iH _ _,rfl,dm7,Ud,bh.refl _ _⟩,rfl,Nat.zero_le _⟩ ?_ ?_
 ·rintro i R H8⟨⟨kk,xs,CD,mJ,Ds,d8,rS,Hu⟩,Un,hi⟩
  by_cases au:i<m
  rotate_left
  ·have mA:i=m:=by omega
   subst mA
   have e:decide (((i-i:Nat):Int)>0)=false:=by simp
   simp -implicitDefEqProofs only[ak,ai,op,ef,cl,sq,reduceIte,q5,q6,q7,q9,j1,j2,j3,j4,j5,S1,CD,Un,e,dq]
   exact .i ⟨kk,xs,rfl,rS,Hu⟩
  obtain⟨stw,Uh,oW⟩:=rS.wf
  have e:decide (((m-i:Nat):Int)>0)=true:=by simp;omega
  simp -implicitDefEqProofs only[ak,ai,op,ef,cl,sq,reduceIte,q5,q6,q7,q9,j1,j2,j3,j4,j5,S1,CD,Un,e]
  refine ae _ _ _ _ _ _ _ _ (LN Uh) ?_
  rintro u H8'⟨rfl,er,hu,LO⟩
  cases hu
  by_cases hw:stw=none
  ·have GM:¬er=0:=fun h0=>(LO.1 h0) hw
   have e1:(er==0)=false:=by simpa using GM
   simp -implicitDefEqProofs only[op,ef,cl,sq,reduceIte,q5,q6,q7,q9,j1,j2,j3,j4,j5,S1,e1,CD,dq]
   refine .i ⟨kk,xs,rfl,.inr ⟨by rw[←hw];exact Uh,oW hw⟩,Hu⟩
  have GM:er=0:=LO.2 hw
  subst GM
  obtain⟨jb,uu,bS⟩:=rS.step au
  have yI:c<H8'.length:=uu.lt
  have e1:((0:Int)==0)=true:=rfl
  obtain⟨s1,s0,s2⟩:=Ul jb
  simp -implicitDefEqProofs only[op,ef,cl,sq,reduceIte,q5,q6,q7,q9,j1,j2,j3,j4,j5,S1,e1]
  refine ae _ _ _ _ _ _ _ _ (nV uu 65535 (by decide)) ?_
  rintro u H9⟨hu,r9,f9⟩
  cases hu
  simp -implicitDefEqProofs only[op,ef,cl,sq,reduceIte,q5,q6,q7,q9,j1,j2,j3,j4,j5,S1]
  refine ae _ _ _ _ _ _ _ _ (OY r9) ?_
  rintro u xp⟨hu,Zr,f10⟩
  cases hu
  simp -implicitDefEqProofs only[op,ef,cl,sq,reduceIte,q5,q6,q7,q9,j1,j2,j3,j4,j5,S1]
  refine ae _ _ _ _ _ _ _ _ (nV Zr 65535 (by decide)) ?_
  rintro u xq⟨hu,Zs,f11⟩
  cases hu
  simp -implicitDefEqProofs only[op,ef,cl,sq,reduceIte,q5,q6,q7,q9,j1,j2,j3,j4,j5,S1]
  refine ae _ _ _ _ _ _ _ _ (B7 Zs 1024 65535 (by decide) (by decide)) ?_
  rintro u yW⟨VF,aeV,hu,Th,f12⟩
  cases hu
  have Th:RD yW c (Km jb).2:=Th
  obtain⟨y,hy⟩:∃y:Kd,y=⟨(VD jb).1,(VE jb).1,(Uk jb).1,.arg,(Km jb).1,-1⟩:=⟨_,rfl⟩
  have y1:(fR 65535 jb).1=y.key:=by rw[hy];rfl
  have y2:(ej 8 (fR 65535 jb).2).1=y.id:=by rw[hy];rfl
  have y3:(fR 65535 (ej 8 (fR 65535 jb).2).2).1=y.value:=by rw[hy];rfl
  have y4:(oX 1024 65535 (fR 65535 (ej 8 (fR 65535 jb).2).2).2).1=y.keys:=by rw[hy];rfl
  rw[y1,y2,y3,y4]
  have Uo:=((f9.trans f10 fun b hb=>.inl hb).trans f11 fun b hb=>.inl hb).trans f12 fun b hb=>.inl hb
  obtain⟨cs,uc⟩:∃cs,cs=[T.str y.key,.int .u64 y.id,.str y.value,.sl VF (y.keys.map eS)]:=⟨_,rfl⟩
  obtain⟨yX,Ko⟩:∃yX,yX=yW++[B.cells cs]:=⟨_,rfl⟩
  have l6:Ext yW yX:=⟨_,Ko⟩
  have d13:yX[yW.length]?=some (.cells cs):=by rw[Ko];exact aU rfl
  have Kq:bh (fun b=>b=c) H8' yX:=Uo.ext l6
  have GP:=lF.lg mJ Kq (fun t ht=>by omega)
  have VG:=Kq.get d8 Md
  have hsy:js (u2 now L y)=[.str y.key,.int .u64 y.id,.str y.value,.sl .arg (y.keys.map eS),.int .i64 (if y.id<AG L y.key then now else -1)]:=by rw[hy];rfl
  have cr:=all_map (enc:=js) (n:=5) (fun _=>rfl) (xs.map (u2 now L))
  obtain⟨VH,CE,ha,O5,O6⟩:=kZ (bytes:=72) ((xs.map (u2 now L)).map js) [js (u2 now L y)] GP (Nat.le_trans Hu.1 Kq.1) (by simp) (jn (by simp -implicitDefEqProofs only[List.length_map,List.length_cons,List.length_nil];omega))
  have Cl:gM yX 72 kk ((xs.map (u2 now L)).map js) [js (u2 now L y)]=some (.sl VH (((xs++[y]).map (u2 now L)).map js),CE):=by
   rw[ha,List.map_append,List.map_append]
   have:([js (u2 now L y)].map fun c=>c.map T.erase)=[js (u2 now L y)]:=by rw[hsy];rfl
   rw[this];rfl
  rw[hsy]at Cl
  have m14:=O6.cells GP VG (by simp)
  have O7:bh (fun b=>b=c) H7 CE:=(Hu.trans Kq fun b hb=>.inl hb).trans (wT.lg O6) fun b ⟨e,he⟩=>.inr (lF.own mJ he)
  have r14:RD CE c (Km jb).2:=by
   obtain⟨k,rest,e,h1,h2⟩:=(Th.ext l6).at_
   exact⟨k,rest,e,O6.cells GP h1 (by simp),h2⟩
  have O8:=bS CE (Km jb).2 y r14 (fun l hl=>⟨by rw[←s1,hl],fun z r hz=>by
   obtain⟨z1,z2,z3,z4,z5,z6⟩:=s2 l z r hl hz
   rw[hy,z1,z2,z3,z4,←z5,←z6]⟩) s0
  have wd:IntKind.i64.wrap (((m-i:Nat):Int)-1)=((m-(i+1):Nat):Int):=by rw[wrap64 (by omega)];omega
  rw[uc]at Ko d13
  simp -implicitDefEqProofs only[op,ef,cl,sq,reduceIte,q5,q6,q7,q9,j1,j2,j3,j4,j5,S1,S2]
  rw[←Ko]
  by_cases hs:y.id<AG L y.key
  ·have eI:(y.id:Int)<(AG L y.key:Int):=by omega
   have lZ:ah (AF L) y.key=some (.int .u64 (AG L y.key)):=by
    rcases AH L y.key with⟨_,h0⟩|h0
    ·omega
    ·exact h0
   rw[if_pos hs]at Cl
   simp -implicitDefEqProofs only[op,ef,cl,sq,reduceIte,q5,q6,q7,q9,j1,j2,j3,j4,j5,S1,CD,Un,d13,VG,fe,lZ,eI,cr,Cl,wd]
   exact⟨i+1,by omega,.i ⟨VH,xs++[y],rfl,O5,by simp[Ds],m14,O8,O7⟩,rfl,au⟩
  ·rw[if_neg hs]at Cl
   rcases AH L y.key with⟨lZ,h0⟩|lZ
   ·have eI:¬((y.id:Int)<0):=by omega
    simp -implicitDefEqProofs only[op,ef,cl,sq,reduceIte,q5,q6,q7,q9,j1,j2,j3,j4,j5,S1,CD,Un,d13,VG,fe,lZ,eI,cr,Cl,wd]
    exact⟨i+1,by omega,.i ⟨VH,xs++[y],rfl,O5,by simp[Ds],m14,O8,O7⟩,rfl,au⟩
   ·have eI:¬((y.id:Int)<(AG L y.key:Int)):=by omega
    simp -implicitDefEqProofs only[op,ef,cl,sq,reduceIte,q5,q6,q7,q9,j1,j2,j3,j4,j5,S1,CD,Un,d13,VG,fe,lZ,eI,cr,Cl,wd]
    exact⟨i+1,by omega,.i ⟨VH,xs++[y],rfl,O5,by simp[Ds],m14,O8,O7⟩,rfl,au⟩
 rintro R H8⟨kk,K,CD,rS,Hu⟩
 have rJ:=tN pj Hu hc
 obtain⟨Up,r9,VI⟩:∃Up,RD H8 c Up∧((∃r,Up=some r∧rM pz O4=some (K,r))∨(Up=none∧rM pz O4=none)):=by
  rcases rS.end_ hpc with⟨r,h1,h2⟩|⟨h1,h2⟩
  ·exact⟨some r,h2,.inl ⟨r,rfl,h1⟩⟩
  ·exact⟨none,h2,.inr ⟨rfl,h1⟩⟩
 simp -implicitDefEqProofs only[ak,ai,op,ef,cl,sq,reduceIte,q5,q6,q7,q9,j1,j2,j3,j4,j5,S1,CD]
 refine ae _ _ _ _ _ _ _ _ (Uc r9) ?_
 rintro u H9⟨rfl,er,hu,LO⟩
 cases hu
 by_cases hw:Up=some []
 rotate_left
 ·have GM:¬er=0:=fun h0=>hw (LO.1 h0)
  have e1:(er != 0)=true:=by simpa using GM
  have hp:pR bd=none:=by
   unfold pR
   rw[hH]
   simp only
   rcases hL6 with⟨r,h1,h2⟩|⟨h1,h2⟩
   ·rw[h2]
    simp only
    rw[h1]at VI
    rcases VI with⟨r',h3,h4⟩|⟨h3,h4⟩
    ·rw[h4]
     simp only
     rw[if_neg (fun h=>hw (by rw[h3,h]))]
    ·rw[h4]
   ·rw[h2]
  simp -implicitDefEqProofs only[op,ef,cl,sq,reduceIte,q5,q6,q7,q9,j1,j2,j3,j4,j5,S1,e1]
  exact bad rJ hp
 have GM:er=0:=LO.2 hw
 subst GM
 have e1:((0:Int) != 0)=false:=rfl
 have hp:pR bd=some (q8.1,L,K):=by
  unfold pR
  rw[hH]
  simp only
  rcases VI with⟨r',h3,h4⟩|⟨h3,h4⟩
  ·rw[hw]at h3
   cases h3
   rcases hL6 with⟨r,h1,h2⟩|⟨h1,h2⟩
   ·rw[h2]
    simp only
    rw[←h1,h4]
    simp -implicitDefEqProofs only[if_true]
   ·rw[h1]at h4;cases h4
  ·rw[hw]at h3;cases h3
 obtain⟨yC,gZ⟩:=ON HA _ _ _ hp
 have hKk:∀x∈K,x.kk=.arg∧x.keys.length≤1024:=by
  rcases VI with⟨r',h3,h4⟩|⟨h3,h4⟩
  ·exact Kn (fun l x r h=>O1 h) h4
  ·rw[hw]at h3;cases h3
 have wg:IntKind.i64.wrap (q8.1:Int)=(q8.1:Int):=wrap64 (by omega)
 simp -implicitDefEqProofs only[op,ef,cl,sq,reduceIte,q5,q6,q7,q9,j1,j2,j3,j4,j5,S1,e1,CD]
 refine ae _ _ _ _ _ _ _ _ (OL kk kL (K.map (u2 now L)) L (by rw[List.length_map];exact yC) gZ (fun x hx=>by
  obtain⟨z,hz,rfl⟩:=List.mem_map.1 hx
  have:=hKk z hz
  exact⟨fun e=>(by have h5:(u2 now L z).kk=z.kk:=rfl;rw[h5,this.1]at e;cases e),by show z.keys.length≤_;omega⟩) _) ?_
 rintro u xp (⟨n5,b,F,hu,VJ⟩|⟨gD,hu,ki⟩)
 ·cases hu
  have e2:((0:Int) != 0)=false:=rfl
  simp -implicitDefEqProofs only[op,ef,cl,sq,reduceIte,q5,q6,q7,q9,j1,j2,j3,j4,j5,S1,e2,wg]
  refine .inr (.inr (.inr ⟨ht,HA,q8.1,L,K,by rw[hq];exact hp,.inl ⟨n5,b,F,rfl,?_⟩⟩))
  rw[List.length_map]at VJ
  exact⟨VJ.at_,(ay rJ).more VJ.lg (fun c h=>h.elim),fun c iA=>by have:=VJ.new c iA;have:=rJ.len;omega⟩
 ·cases hu
  have e2:((1:Int) != 0)=true:=rfl
  simp -implicitDefEqProofs only[op,ef,cl,sq,reduceIte,q5,q6,q7,q9,j1,j2,j3,j4,j5,S1,e2]
  exact .inr (.inr (.inr ⟨ht,HA,q8.1,L,K,by rw[hq];exact hp,.inr ⟨gD,rfl,rJ.trans ki⟩⟩))
structure pA where
 kind:Int
 id:Nat
 key:ByteArray
 pk:SK
 fH:List (ByteArray×ByteArray)
 kk:SK
 keys:List ByteArray
 now:Int
def eO (o:pA):List T:=[.int .i64 o.kind,.int .u64 o.id,.str o.key,.sl o.pk (o.fH.map eP),.sl o.kk (o.keys.map eS),.int .i64 o.now]
def xw (o:pA):Prop:=gz o.kk o.keys∧o.keys.length≤1048576∧o.fH.length≤1048576∧o.id<18446744073709551616
open Classical in
noncomputable def ry (a:Ab)(n:Nat)(l:List (ByteArray×ByteArray))(ks:List ByteArray)(now:Int):Ab:=if lY n l ks∧bl now then a.put n l ks now else a
open Classical in
noncomputable def rz (a:Ab)(n:Nat)(now:Int):Ab:=if 65536≤n∧bl now then a.oa n now else a
noncomputable def hY (a:Ab)(o:pA):Ab:=if o.kind=1 then ry a o.id o.fH o.keys o.now else if o.kind=2 then rz a o.id o.now else if o.kind=3 then a.yP (o.key,o.id)else a
noncomputable def gF (a:Ab)(l:List pA):Ab:=l.foldl hY a
def cX (l:List pA):Nat:=(l.map fun o=>o.fH.length).sum
theorem Ca (a:Ab)(l:List pA)(o:pA):gF a (l++[o])=hY (gF a l) o:=by simp[gF]
theorem xy (l:List pA)(o:pA):cX (l++[o])=cX l+o.fH.length:=by simp[cX]
theorem xz (l:List pA)(i:Nat):cX (l.take i)≤cX l:=by
 have h:cX l=cX (l.take i)+cX (l.drop i):=by unfold cX;rw[←List.sum_append,←List.map_append,List.take_append_drop]
 omega
section
variable {Hs H:af} {b:Bk} {a:Ab} {F:Nat→Prop} {m:Nat}
def O9 (Hs H:af)(b:Bk)(a':Ab)(F:Nat→Prop)(m':Nat):Out→af→Prop:=fun o H'=>(∃t,o=.val t)∧∃F',kr Hs H' b a' F' m'∧bh F H H'∧Hv F F' H H'
theorem kr.le (h:kr Hs H b a F m){m':Nat}(hm:m≤m'):kr Hs H b a F m':=⟨h.at_.le hm,h.lg,h.new⟩
theorem Uq (n:Nat)(k k':SK)(l:List (ByteArray×ByteArray))(ks:List ByteArray)(now:Int)(h:kr Hs H b a F m)(hm:m+l.length≤8000000)(Px:ks.length≤8000000)(mL:gz k' ks) :
  W env (.call 23 [.ptr b.s 0,.int .u64 n,.sl k (l.map eP),.sl k' (ks.map eS),.int .i64 now]) H (O9 Hs H b (ry a n l ks now) F (m+l.length)):=by
 by_cases hc:lY n l ks∧bl now
 ·have e:ry a n l ks now=a.put n l ks now:=if_pos hc
  rw[e]
  refine W.use (ZM n k k' l ks now h.at_ hm mL hc.1 hc.2) fun o H' ⟨F',hu,ha,hf,hg⟩=>⟨⟨_,hu⟩,F',h.go ha hf hg,hf,hg⟩
 ·have e:ry a n l ks now=a:=if_neg hc
  rw[e]
  refine W.use (TJ n k k' l ks now h.at_ (by omega) Px hc) fun o H' ⟨hu,hx⟩=>⟨⟨_,hu⟩,F,(h.ext hx).le (by omega),ay hx,Hv.refl _ _ _⟩
theorem Ur (n:Nat)(now:Int)(h:kr Hs H b a F m)(hm:m≤8000000):W env (.call 24 [.ptr b.s 0,.int .u64 n,.int .i64 now]) H (O9 Hs H b (rz a n now) F m):=by
 by_cases hc:65536≤n∧bl now
 ·have e:rz a n now=a.oa n now:=if_pos hc
  rw[e]
  refine W.use (ZN n now h.at_ hm hc.1 hc.2) fun o H' ⟨D,_,_,hu,ha,hf⟩=>⟨⟨_,hu⟩,F,h.go' ha hf,hf,Hv.refl _ _ _⟩
 ·have e:rz a n now=a:=if_neg hc
  rw[e]
  refine W.use (TV n now hc) fun o H' ⟨hu,hx⟩=>?_
  subst hx
  exact⟨⟨_,hu⟩,F,h,bh.refl _ _,Hv.refl _ _ _⟩
theorem Us (k:ByteArray)(n:Nat)(h:kr Hs H b a F m)(hm:m≤7000000):W env (.call 25 [.ptr b.s 0,.str k,.int .u64 n]) H (O9 Hs H b (a.yP (k,n)) F m) :=
 W.use (TU k n h.at_ hm) fun o H' ⟨e,hu,ha,hf⟩=>⟨⟨_,hu⟩,F,h.go' ha hf,hf,Hv.refl _ _ _⟩
end
theorem xA {l:List (ByteArray×ByteArray)}:∀c∈l.map eP,c.map T.erase=c:=fun c hc=>by
 obtain⟨x,_,rfl⟩:=List.mem_map.1 hc;rfl
theorem xB {l:List ByteArray}:∀c∈l.map eS,c.map T.erase=c:=fun c hc=>by
 obtain⟨x,_,rfl⟩:=List.mem_map.1 hc;rfl
theorem GQ (k:SK)(ops:List pA)(ho:∀o∈ops,xw o)(hp:cX ops≤2000000)(hl:ops.length≤8000000)(H:af) :
  W env (.call 9 [.sl k (ops.map eO)]) H (fun o H'=>∃b F,o=.val (.ptr b.s 0)∧kr H H' b (gF Ab.emp ops) F (cX ops)):=by
 refine W.bR rfl rfl rfl ?_
 simp -implicitDefEqProofs only[WK,op,ef,cl,sq,reduceIte,q5,q6,q7,q9,j1,j2,j3,j4,j5,S1]
 refine ae _ _ _ _ _ _ _ _ (TC _) ?_
 rintro u H1⟨gw,b,F,hu,hA,hF⟩
 cases hu
 have gw:Ext H H1:=gw
 have Pa:kr H H1 b Ab.emp F 0:=⟨hA,ay gw,hF⟩
 have e0:dU .ptr (.ptr b.s 0) .b0=some false:=rfl
 simp -implicitDefEqProofs only[op,ef,cl,sq,reduceIte,q5,q6,q7,q9,j1,j2,j3,j4,j5,S1]
 refine W.fW 0 [(0,_),(3,_)] (fun (i:Nat) R H'=>At H' (fun H'=>∃F,kr H H' b (gF Ab.emp (ops.take i)) F (cX (ops.take i)))∧R 4=.int .i64 i∧i≤ops.length) (fun i=>ops.length-i) 0
  (fun R H'=>At H' (fun H'=>∃F,kr H H' b (gF Ab.emp ops) F (cX ops))) ⟨.i ⟨F,Pa⟩,rfl,Nat.zero_le _⟩ ?_ ?_
 ·rintro i R H2⟨⟨F,pv⟩,g4,hi⟩
  by_cases au:i<ops.length
  rotate_left
  ·have mA:i=ops.length:=by omega
   subst mA
   rw[List.take_length]at pv
   simp -implicitDefEqProofs only[ak,ai,op,ef,cl,sq,reduceIte,q5,q6,q7,q9,j1,j2,j3,j4,j5,S1,List.length_map,g4,au,dq]
   exact .i ⟨F,pv⟩
  obtain⟨o,uq⟩:=cj au
  have oo:=ho o (List.mem_of_getElem? uq)
  have io:=fx (e:=eO) (n:=6) (fun _=>rfl) (by decide) (k:=k) uq
  have l4:=aC (show i<9223372036854775807 by omega)
  have LQ:∀Hx,nZ Hx 6 (.cP (eO o))=some (eO o):=fun _=>rfl
  have FV:=xz ops (i+1)
  have epl:cX (ops.take (i+1))=cX (ops.take i)+o.fH.length:=by rw[fj uq,xy]
  have ert:gF Ab.emp (ops.take (i+1))=hY (gF Ab.emp (ops.take i)) o:=by rw[fj uq,Ca]
  obtain⟨H3,vz⟩:∃H3,H3=H2++[B.cells (eO o)]:=⟨_,rfl⟩
  have pd:Ext H2 H3:=⟨_,vz⟩
  have d3:H3[H2.length]?=some (.cells (eO o)):=by rw[vz];exact aU rfl
  have CG:=pv.ext pd
  have ae0:=vz
  simp -implicitDefEqProofs only[eO]at vz d3 LQ io
  have fin:∀{H':af} {F':Nat→Prop} {m':Nat},kr H H' b (hY (gF Ab.emp (ops.take i)) o) F' m'→m'≤cX (ops.take (i+1))→∃F,kr H H' b (gF Ab.emp (ops.take (i+1))) F (cX (ops.take (i+1))):=fun hh hm=>⟨_,by rw[ert];exact hh.le hm⟩
  by_cases k1:o.kind=1
  ·have b1:(o.kind==1)=true:=by simp[k1]
   have es:hY (gF Ab.emp (ops.take i)) o=ry (gF Ab.emp (ops.take i)) o.id o.fH o.keys o.now:=if_pos k1
   simp -implicitDefEqProofs only[ak,ai,op,ef,cl,sq,reduceIte,q5,q6,q7,q9,j1,j2,j3,j4,j5,S1,List.length_map,g4,au,e0,aa,io,LQ,S2]
   rw[←vz]
   have GR:=all_map (enc:=eP) (n:=2) (fun _=>rfl) o.fH
   have GS:=all_map (enc:=eS) (n:=1) (fun _=>rfl) o.keys
   obtain⟨kp,H4,ha4,uM,_,qU⟩:=jt (H:=H3) (bytes:=32) (o.fH.map eP) (jn (by simp -implicitDefEqProofs only[List.length_map];have:=oo.2.2.1;omega)) xA
   obtain⟨kq,H5,ha5,mZ,_,hkq⟩:=jt (H:=H4) (bytes:=16) (o.keys.map eS) (jn (by simp -implicitDefEqProofs only[List.length_map];have:=oo.2.1;omega)) xB
   have pv5:=(CG.ext uM).ext mZ
   have d4:=uM.get d3
   have d5:=mZ.get d4
   simp -implicitDefEqProofs only[op,ef,cl,sq,reduceIte,q5,q6,q7,q9,j1,j2,j3,j4,j5,S1,b1,d3,d4,d5,GR,GS,ha4,ha5]
   refine ae _ _ _ _ _ _ _ _ (Uq o.id kp kq o.fH o.keys o.now pv5 (by omega) (by have:=oo.2.1;omega) (fun h=>absurd h hkq)) ?_
   rintro u H6⟨⟨t,hu⟩,F',LR,_,_⟩
   cases hu
   rw[←es]at LR
   simp -implicitDefEqProofs only[op,ef,cl,sq,reduceIte,q5,q6,q7,q9,j1,j2,j3,j4,j5,S1,g4,l4]
   exact⟨i+1,by omega,.i (fin LR (by omega)),rfl,au⟩
  have b1:(o.kind==1)=false:=by simp[k1]
  by_cases k2:o.kind=2
  ·have b2:(o.kind==2)=true:=by simp[k2]
   have es:hY (gF Ab.emp (ops.take i)) o=rz (gF Ab.emp (ops.take i)) o.id o.now:=by unfold hY;rw[if_neg k1,if_pos k2]
   simp -implicitDefEqProofs only[ak,ai,op,ef,cl,sq,reduceIte,q5,q6,q7,q9,j1,j2,j3,j4,j5,S1,List.length_map,g4,au,e0,aa,io,LQ,S2]
   rw[←vz]
   simp -implicitDefEqProofs only[op,ef,cl,sq,reduceIte,q5,q6,q7,q9,j1,j2,j3,j4,j5,S1,b1,b2,d3]
   refine ae _ _ _ _ _ _ _ _ (Ur o.id o.now CG (by omega)) ?_
   rintro u H6⟨⟨t,hu⟩,F',LR,_,_⟩
   cases hu
   rw[←es]at LR
   simp -implicitDefEqProofs only[op,ef,cl,sq,reduceIte,q5,q6,q7,q9,j1,j2,j3,j4,j5,S1,g4,l4]
   exact⟨i+1,by omega,.i (fin LR (by omega)),rfl,au⟩
  have b2:(o.kind==2)=false:=by simp[k2]
  by_cases k3:o.kind=3
  ·have b3:(o.kind==3)=true:=by simp[k3]
   have es:hY (gF Ab.emp (ops.take i)) o=(gF Ab.emp (ops.take i)).yP (o.key,o.id):=by unfold hY;rw[if_neg k1,if_neg k2,if_pos k3]
   simp -implicitDefEqProofs only[ak,ai,op,ef,cl,sq,reduceIte,q5,q6,q7,q9,j1,j2,j3,j4,j5,S1,List.length_map,g4,au,e0,aa,io,LQ,S2]
   rw[←vz]
   simp -implicitDefEqProofs only[op,ef,cl,sq,reduceIte,q5,q6,q7,q9,j1,j2,j3,j4,j5,S1,b1,b2,b3,d3]
   refine ae _ _ _ _ _ _ _ _ (Us o.key o.id CG (by omega)) ?_
   rintro u H6⟨⟨t,hu⟩,F',LR,_,_⟩
   cases hu
   rw[←es]at LR
   simp -implicitDefEqProofs only[op,ef,cl,sq,reduceIte,q5,q6,q7,q9,j1,j2,j3,j4,j5,S1,g4,l4]
   exact⟨i+1,by omega,.i (fin LR (by omega)),rfl,au⟩
  have b3:(o.kind==3)=false:=by simp[k3]
  have es:hY (gF Ab.emp (ops.take i)) o=gF Ab.emp (ops.take i):=by unfold hY;rw[if_neg k1,if_neg k2,if_neg k3]
  rw[←es]at CG
  simp -implicitDefEqProofs only[ak,ai,op,ef,cl,sq,reduceIte,q5,q6,q7,q9,j1,j2,j3,j4,j5,S1,List.length_map,g4,au,e0,aa,io,LQ,S2]
  rw[←vz]
  simp -implicitDefEqProofs only[op,ef,cl,sq,reduceIte,q5,q6,q7,q9,j1,j2,j3,j4,j5,S1,b1,b2,b3,d3,g4,l4]
  exact⟨i+1,by omega,.i (fin CG (by omega)),rfl,au⟩
 rintro R H2⟨F,pv⟩
 simp -implicitDefEqProofs only[ak,ai,op,ef,cl,sq,reduceIte,q5,q6,q7,q9,j1,j2,j3,j4,j5,S1]
 exact⟨b,F,rfl,pv⟩
theorem u3 {f:Nm→Nat}:∀(N M:List Nm),N.Nodup→(∀x∈N,x∈M)→(N.map f).sum≤(M.map f).sum
 | [],M,_,_=>by simp
 | x :: N,M,hn,hs=>by
  have hx:=hs x (by simp)
  obtain⟨s,t,rfl⟩:=List.append_of_mem hx
  have:=u3 (f:=f) N (s++t) (List.nodup_cons.1 hn).2 fun y hy=>by
   have bG:y≠x:=fun e=>(List.nodup_cons.1 hn).1 (by rw[←e];exact hy)
   have h1:=hs y (by simp[hy])
   simp -implicitDefEqProofs only[List.mem_append,List.mem_cons]at h1 ⊢
   rcases h1 with h|h|h
   ·exact .inl h
   ·exact absurd h bG
   ·exact .inr h
  simp -implicitDefEqProofs only[List.map_append,List.sum_append,List.map_cons,List.sum_cons]at this ⊢;omega
theorem y0 {α:Type}{f g:α→Nat}:∀(l:List α),(∀x∈l,f x≤g x)→(l.map f).sum≤(l.map g).sum
 | [],_=>Nat.le_refl _
 | x :: l,h=>by
  have:=y0 l fun y hy=>h y (List.mem_cons_of_mem _ hy)
  have:=h x (by simp)
  simp -implicitDefEqProofs only[List.map_cons,List.sum_cons];omega
theorem mQ {α:Type}{f:α→Nat}(p:α→Bool):∀(l:List α),((l.filter p).map f).sum≤(l.map f).sum
 | []=>Nat.le_refl _
 | x :: l=>by
  have:=mQ (f:=f) p l
  rw[List.filter_cons]
  split<;>simp -implicitDefEqProofs only[List.map_cons,List.sum_cons]<;>omega
theorem oZ {α:Type}{f g:α→Nat}{l:List α}(h:∀x∈l,f x=g x):(l.map f).sum=(l.map g).sum:=congrArg List.sum (List.map_congr_left h)
theorem u4 {α:Type}(f:α→Nat)(c d:Nat):∀l:List α,(l.map fun x=>c*f x+d).sum=c*(l.map f).sum+d*l.length
 | []=>by simp
 | x :: l=>by
  simp -implicitDefEqProofs only[List.map_cons,List.sum_cons,u4 f c d l,List.length_cons,Nat.mul_add,Nat.mul_one];omega
theorem rA {α:Type}(e:α→List Nat)(l:List α):(l.flatMap e).length=(l.map fun x=>(e x).length).sum:=by
 rw[List.length_flatMap]
def wt (a:Ab)(m:Nm):Nat:=(mo (bO a m)).length+(12+m.1.size)
structure hZ (a:Ab)(B:Nat):Prop where
 w:tH a
 u:∀m,a.has m=true→m.2<18446744073709551616
 z:∃M:List Nm,M.Nodup∧(∀m,m∈M↔a.has m=true)∧(M.map (wt a)).sum≤B
theorem hZ.le {a:Ab}{B B':Nat}(h:hZ a B)(hb:B≤B'):hZ a B':=by
 obtain⟨h1,h2,M,h3,h4,h5⟩:=h;exact⟨h1,h2,M,h3,h4,by omega⟩
theorem hZ.emp:hZ Ab.emp 0:=⟨tH.emp,(fun m h=>by cases h),[],List.nodup_nil,fun m=>by simp[Ab.has,Ab.emp],Nat.le_refl _⟩
theorem u5 {a a':Ab}{m:Nm}(h1:(hO (a'.v m)).value=(hO (a.v m)).value)(h2:(hO (a'.v m)).keys=(hO (a.v m)).keys):wt a' m=wt a m:=by
 unfold wt bO mo
 simp -implicitDefEqProofs only[h1,h2]
def bo (o:pA):Nat:=(o.fH.map fun p=>p.1.size+p.2.size+2).sum+(o.keys.map fun k=>k.size+1).sum
theorem y6:∀l:List (ByteArray×ByteArray),2*l.length≤(l.map fun p=>p.1.size+p.2.size+2).sum
 | []=>Nat.le_refl _
 | x :: l=>by
  have:=y6 l
  simp -implicitDefEqProofs only[List.map_cons,List.sum_cons,List.length_cons];omega
theorem Cb {l:List (ByteArray×ByteArray)}{ks:List ByteArray}(hP:l.length≤1024)(hN:ks.length≤1024) :
  (l.map fun p=>32+2*p.1.size+p.2.size+(ks.map fun k=>4+k.size).sum).sum≤1560*((l.map fun p=>p.1.size+p.2.size+2).sum+(ks.map fun k=>k.size+1).sum):=by
 obtain⟨T,hT⟩:∃T,T=(ks.map fun k=>4+k.size).sum:=⟨_,rfl⟩
 obtain⟨A,hA⟩:∃A,A=(l.map fun p:ByteArray×ByteArray=>p.1.size+p.2.size+2).sum:=⟨_,rfl⟩
 obtain⟨C,hC⟩:∃C,C=(ks.map fun k:ByteArray=>k.size+1).sum:=⟨_,rfl⟩
 have h1:(l.map fun p=>32+2*p.1.size+p.2.size+T).sum≤(l.map fun p:ByteArray×ByteArray=>18*(p.1.size+p.2.size+2)+T).sum:=y0 l fun p _=>by omega
 have h2:(l.map fun p:ByteArray×ByteArray=>18*(p.1.size+p.2.size+2)+T).sum=18*A+T*l.length:=by rw[hA];exact u4 (fun p:ByteArray×ByteArray=>p.1.size+p.2.size+2) 18 T l
 have h3:T=C+3*ks.length:=by
  rw[hT,hC]
  have:=u4 (fun k:ByteArray=>k.size+1) 1 3 ks
  rw[Nat.one_mul]at this
  rw[←this]
  exact oZ fun k _=>by omega
 have h4:2*l.length≤A:=by rw[hA];exact y6 l
 have h5:T*l.length≤1024*C+3*(1024*l.length):=by
  rw[h3,Nat.add_mul]
  have a1:C*l.length≤C*1024:=Nat.mul_le_mul_left _ hP
  have a2:3*ks.length*l.length≤3*1024*l.length:=Nat.mul_le_mul_right _ (Nat.mul_le_mul_left _ hN)
  have a3:3*1024*l.length=3*(1024*l.length):=Nat.mul_assoc _ _ _
  omega
 rw[←hT,←hA,←hC]
 omega
theorem hZ.put {a:Ab}{B:Nat}(h:hZ a B){n:Nat}{l:List (ByteArray×ByteArray)}{ks:List ByteArray}{now:Int}(hn:n<18446744073709551616)(hm:lY n l ks)(ht:bl now):hZ (a.put n l ks now) (B+1560*((l.map fun p=>p.1.size+p.2.size+2).sum+(ks.map fun k=>k.size+1).sum)):=by
 obtain⟨hw,hu,M,h3,h4,h5⟩:=h
 have fB:=Gj hm
 have hN:ks.length≤1024:=hm.2.1.2.2
 have hP:l.length≤1024:=by
  have:=Ap fB fun x hx=>by
   obtain⟨p,hp,rfl⟩:=List.mem_map.1 hx
   exact(As hm hp).1
  rw[List.length_map]at this;omega
 obtain⟨l',yl⟩:∃l',l'=l.filter fun p=>!a.has (p.1,n):=⟨_,rfl⟩
 refine⟨hw.put hm ht,fun m qi=>?_,M++l'.map (fun p=>(p.1,n)),?_,fun m=>?_,?_⟩
 ·rw[uP]at qi
  simp -implicitDefEqProofs only[Bool.or_eq_true,Bool.and_eq_true,decide_eq_true_eq]at qi
  rcases qi with h|⟨h,_⟩
  ·exact hu m h
  ·omega
 ·refine List.nodup_append.2 ⟨h3,?_,fun x hx y hy=>?_⟩
  ·refine List.pairwise_map.2 ?_
   have:=(List.pairwise_map.1 fB).filter fun p=>!a.has (p.1,n)
   rw[←yl]at this
   exact this.imp fun h e=>h (Prod.mk.inj e).1
  ·obtain⟨p,hp,rfl⟩:=List.mem_map.1 hy
   rw[yl]at hp
   have:=(List.mem_filter.1 hp).2
   rintro rfl
   rw[(h4 _).1 hx]at this;cases this
 ·rw[uP,List.mem_append,h4]
  simp -implicitDefEqProofs only[Bool.or_eq_true,Bool.and_eq_true,decide_eq_true_eq]
  constructor
  ·rintro (h|h)
   ·exact .inl h
   ·obtain⟨p,hp,rfl⟩:=List.mem_map.1 h
    rw[yl]at hp
    refine .inr ⟨rfl,?_⟩
    rw[eH fB (List.mem_filter.1 hp).1];rfl
  ·rintro (h|⟨h1,h2⟩)
   ·exact .inl h
   ·by_cases hh:a.has m=true
    ·exact .inl hh
    ·right
     obtain⟨v,hv⟩:=Option.isSome_iff_exists.1 h2
     have iE:=nQ hv
     refine List.mem_map.2 ⟨(m.1,v),?_,by rw[←h1]⟩
     rw[yl]
     refine List.mem_filter.2 ⟨iE,?_⟩
     have:(m.1,n)=m:=by rw[←h1]
     show(!a.has (m.1,n))=true
     rw[this];simpa using hh
 ·rw[List.map_append,List.sum_append]
  have e1:(M.map (wt (a.put n l ks now))).sum=(M.map (wt a)).sum:=oZ fun m qi=>by
   have:=(h4 m).1 qi
   obtain⟨d,hd⟩:=Option.isSome_iff_exists.1 this
   have e:(a.put n l ks now).v m=some d:=by rw[Gm,hd];rfl
   exact u5 (by rw[e,hd]) (by rw[e,hd])
  have e2:((l'.map fun p=>(p.1,n)).map (wt (a.put n l ks now))).sum≤(l.map fun p=>32+2*p.1.size+p.2.size+(ks.map fun k=>4+k.size).sum).sum:=by
   rw[List.map_map]
   refine Nat.le_trans (y0 (g:=fun p=>32+2*p.1.size+p.2.size+(ks.map fun k=>4+k.size).sum) l' fun p hp=>?_) (by rw[yl];exact mQ _ _)
   rw[yl]at hp
   obtain⟨lu,lV⟩:=List.mem_filter.1 hp
   have gD:a.v (p.1,n)=none:=by
    have:a.has (p.1,n)=false:=by simpa using lV
    unfold Ab.has at this
    cases hv:a.v (p.1,n)with
    | none=>rfl
    | some d=>rw[hv]at this;cases this
   have e:(a.put n l ks now).v (p.1,n)=some ⟨p.2,ks,if n<a.last p.1 then now else -1⟩:=by
    rw[Gm,gD,if_pos rfl,eH fB lu];rfl
   show wt (a.put n l ks now) (p.1,n)≤_
   unfold wt bO mo
   rw[e]
   simp -implicitDefEqProofs only[hO,Option.getD_some,List.length_append,hU,bj,Az,rA]
   have:(ks.map fun x=>(eT x).length).sum=(ks.map fun k=>4+k.size).sum:=oZ fun k _=>hU k
   omega
  have e3:=Cb (l:=l) (ks:=ks) hP hN
  omega
theorem hZ.same {a a':Ab}{B:Nat}(h:hZ a B)(hw:tH a')(hh:∀m,a'.has m=a.has m)(hv:∀m d,a'.v m=some d→∃d',a.v m=some d'∧d'.value=d.value∧d'.keys=d.keys):hZ a' B:=by
 obtain⟨_,hu,M,h3,h4,h5⟩:=h
 refine⟨hw,fun m hm=>hu m (by rw[←hh];exact hm),M,h3,fun m=>by rw[h4,hh],?_⟩
 have:(M.map (wt a')).sum=(M.map (wt a)).sum:=oZ fun m hm=>by
  have h0:=(h4 m).1 hm
  rw[←hh]at h0
  obtain⟨d,hd⟩:=Option.isSome_iff_exists.1 h0
  obtain⟨d',gB,e1,e2⟩:=hv m d hd
  exact u5 (by rw[hd,gB];exact e1.symm) (by rw[hd,gB];exact e2.symm)
 omega
theorem hZ.oa {a:Ab}{B:Nat}(h:hZ a B){n:Nat}{now:Int}(ht:bl now):hZ (a.oa n now) B :=
 h.same (h.w.oa ht) (fun m=>Aq) fun m d hd=>by
  obtain⟨y,h1,h2,h3,_⟩:=rh hd
  exact⟨y,h1,h2.symm,h3.symm⟩
theorem hZ.yP {a:Ab}{B:Nat}(h:hZ a B)(m:Nm):hZ (a.yP m) B:=by
 have hw:=h.w.yP m
 unfold Ab.yP at hw ⊢
 cases hv:a.v m with
 | none=>exact h
 | some d =>
  rw[hv]at hw
  simp only at hw ⊢
  split
  ·exact h
  ·rename_i hs
   rw[if_neg hs]at hw
   obtain⟨_,hu,M,h3,h4,h5⟩:=h
   have hc:∀m',(a.cut m).has m'=(a.has m'&&!decide (m'=m)):=fun m'=>by
    unfold Ab.has Ab.cut
    by_cases e:m'=m<;>simp[e]
   refine⟨hw,fun m' qi=>hu m' (by rw[hc]at qi;simp -implicitDefEqProofs only[Bool.and_eq_true]at qi;exact qi.1),M.filter (fun m'=>!decide (m'=m)),h3.filter _,fun m'=>by rw[List.mem_filter,h4,hc,Bool.and_eq_true],?_⟩
   have e1:((M.filter fun m'=>!decide (m'=m)).map (wt (a.cut m))).sum=((M.filter fun m'=>!decide (m'=m)).map (wt a)).sum:=oZ fun m' qi=>by
    have bG:=(List.mem_filter.1 qi).2
    have bG:m'≠m:=by simpa using bG
    have e:(a.cut m).v m'=a.v m':=by unfold Ab.cut;simp[bG]
    exact u5 (by rw[e]) (by rw[e])
   have:=mQ (f:=wt a) (fun m'=>!decide (m'=m)) M
   omega
theorem hZ.ry {a:Ab}{B:Nat}(h:hZ a B){n:Nat}{l:List (ByteArray×ByteArray)}{ks:List ByteArray}{now:Int}(hn:n<18446744073709551616):hZ (ry a n l ks now) (B+1560*((l.map fun p=>p.1.size+p.2.size+2).sum+(ks.map fun k=>k.size+1).sum)):=by
 unfold St.ry
 split
 ·rename_i hc;exact h.put hn hc.1 hc.2
 ·exact h.le (by omega)
theorem hZ.rz {a:Ab}{B:Nat}(h:hZ a B){n:Nat}{now:Int}:hZ (rz a n now) B:=by
 unfold St.rz
 split
 ·rename_i hc;exact h.oa hc.2
 ·exact h
theorem hZ.step {a:Ab}{B:Nat}(h:hZ a B){o:pA}(ho:xw o):hZ (hY a o) (B+1560*bo o):=by
 unfold hY
 split
 ·exact h.ry ho.2.2.2
 ·split
  ·exact h.rz.le (by omega)
  ·split
   ·exact(h.yP _).le (by omega)
   ·exact h.le (by omega)
def GU (l:List pA):Nat:=(l.map bo).sum
theorem hZ.run:∀{a:Ab} {B:Nat} (l:List pA),hZ a B→(∀o∈l,xw o)→hZ (gF a l) (B+1560*GU l)
 | a,B,[],h,_=>by simpa[gF,GU]using h
 | a,B,o :: l,h,ho=>by
  have:=hZ.run l (h.step (ho o (by simp))) fun x hx=>ho x (List.mem_cons_of_mem _ hx)
  show hZ (gF (hY a o) l) _
  refine this.le ?_
  show _≤B+1560*(bo o+GU l)
  omega
theorem hZ.body {a:Ab}{B:Nat}(h:hZ a B){N:List Nm}(hN:Names a N){ls:List ByteArray}(hL:dv a ls)(g:Nat):(body g (ls.map (ig a)) (N.map (bO a))).length≤21+B:=by
 obtain⟨hw,hu,M,h3,h4,h5⟩:=h
 rw[rp,rA,rA,List.map_map,List.map_map]
 have hNM:=u3 (f:=wt a) N M hN.nd fun x hx=>(h4 x).2 ((hN.2 x).1 hx)
 have xY:(N.map (wt a)).sum=(N.map fun m=>(mo (bO a m)).length).sum+(N.map fun m:Nm=>12+m.1.size).sum:=by
  unfold wt
  clear hNM hN
  induction N with
  | nil=>rfl
  | cons x N ih=>simp -implicitDefEqProofs only[List.map_cons,List.sum_cons,ih];omega
 have gv:((ls.map (ig a)).map fun m:Nm=>12+m.1.size).sum≤(N.map fun m:Nm=>12+m.1.size).sum:=by
  refine u3 _ _ (List.pairwise_map.2 (hL.1.imp fun {x y} Gl e=>by
   have:x=y:=(Prod.mk.inj e).1
   rw[this,fc]at Gl;cases Gl)) fun x hx=>?_
  obtain⟨k,hk,rfl⟩:=List.mem_map.1 hx
  obtain⟨n,hn⟩:=Option.isSome_iff_exists.1 ((hL.2 k).1 hk)
  refine(hN.2 _).2 ?_
  have:ig a k=(k,n):=by unfold ig Ab.last;rw[hn];rfl
  rw[this]
  exact hw.L _ _ hn
 rw[List.map_map]at gv
 have e1:(ls.map ((fun x=>(rI x).length) ∘ ig a)).sum=(ls.map ((fun m:Nm=>12+m.1.size) ∘ ig a)).sum:=oZ fun k _=>by
  show(eT (ig a k).1++dr 8 (ig a k).2).length=12+(ig a k).1.size
  rw[List.length_append,hU,bj];omega
 have e2:(N.map ((fun x=>(mo x).length) ∘ bO a)).sum=(N.map fun m=>(mo (bO a m)).length).sum:=rfl
 omega
theorem Ut {x:Nm}(r:List Nat)(h1:x.1.size≤65535)(h2:x.2<18446744073709551616):rL (rI x++r)=some (x,r):=by
 unfold rL rI
 rw[List.append_assoc,J3 _ h1 (by omega)]
 simp only
 rw[yS _ (show x.2<256^8 from h2)]
theorem Uu {m n:Nat}(r:List Nat)(h:n≤m)(h4:n<4294967296):pC m (dr 4 n++r)=some (n,r):=by
 unfold pC
 rw[yS _ (show n<256^4 from h4)]
 simp only
 rw[if_neg (by omega)]
theorem Uv {ks:List ByteArray}(r:List Nat)(h1:ks.length≤1024)(h2:∀k∈ks,k.size≤65535):CF 1024 65535 (Ay ks++r)=some (ks,r):=by
 unfold CF Ay
 rw[List.append_assoc,Uu _ h1 (by omega)]
 simp only
 exact Gv (e:=eT) ks r fun k hk r=>J3 r (h2 k hk) (by have:=h2 k hk;omega)
def raw (x:Kd):Kd:={ x with kk:=.arg,a9:=-1 }
structure Uw (x:Kd):Prop where
 key:x.key.size≤65535
 id:x.id<18446744073709551616
 val:x.value.size≤65535
 len:x.keys.length≤1024
 keys:∀k∈x.keys,k.size≤65535
theorem Ux {x:Kd}(r:List Nat)(h:Uw x):pz (mo x++r)=some (raw x,r):=by
 unfold pz mo
 rw[List.append_assoc,J3 _ h.key (by have:=h.key;omega)]
 simp only
 rw[List.append_assoc,yS _ (show x.id<256^8 from h.id)]
 simp only
 rw[List.append_assoc,J3 _ h.val (by have:=h.val;omega)]
 simp only
 rw[Uv _ h.len h.keys]
 rfl
theorem Kr (x:Kd):mo (raw x)=mo x:=rfl
theorem LS {α:Type}{p:List Nat→Option (α×List Nat)}{e:α→List Nat}(xs:List α)(r:List Nat)(hx:∀x∈xs,∀r,p (e x++r)=some (x,r))(hl:xs.length≤2147483647):rM p (some (dr 4 xs.length++(xs.flatMap e++r)))=some (xs,r):=by
 unfold rM
 simp only
 rw[Uu _ hl (by omega)]
 simp only
 exact Gv xs r hx
theorem aai {g:Nat}(r:List Nat)(h1:1≤g)(h2:g≤9223372036854775807):pH (dr 4 1918987632++(dr 1 1++(dr 8 g++r)))=some (g,r):=by
 unfold pH
 rw[yS _ (by decide)]
 simp only
 rw[yS _ (by decide)]
 simp only
 rw[yS _ (show g<256^8 by show g<18446744073709551616;omega)]
 simp only
 rw[if_pos ⟨trivial,trivial,h1,h2⟩]
theorem aaj {g:Nat}{L:List Nm}{K:List Kd}(h1:1≤g)(h2:g≤9223372036854775807)(hL:∀x∈L,x.1.size≤65535∧x.2<18446744073709551616)(hK:∀x∈K,Uw x)(Vu:L.length≤2147483647)(hKl:K.length≤2147483647):pR (body g L K)=some (g,L,K.map raw):=by
 unfold pR body
 rw[aai _ h1 h2]
 simp only
 rw[LS (e:=rI) L _ (fun x hx r=>Ut r (hL x hx).1 (hL x hx).2) Vu]
 simp only
 have ef:K.flatMap mo=(K.map raw).flatMap mo++[]:=by
  rw[List.append_nil,List.flatMap_map]
  rfl
 have el:K.length=(K.map raw).length:=(List.length_map _).symm
 rw[ef,el,LS (e:=mo) (K.map raw) [] (fun x hx r=>by
  obtain⟨y,hy,rfl⟩:=List.mem_map.1 hx
  rw[Kr,Ux r (hK y hy)]) (by rw[←el];exact hKl)]
 simp -implicitDefEqProofs only[if_true]
theorem Ks {l r:List Nat}{x:Nm}(hb:dR l)(h:rL l=some (x,r)):l=rI x++r∧(x.1.size≤65535∧x.2<18446744073709551616)∧dR r:=by
 unfold rL at h
 cases h1:pT 65535 l with
 | none=>rw[h1]at h;cases h
 | some y =>
  obtain⟨k,r1⟩:=y
  rw[h1]at h
  simp only at h
  obtain⟨e1,e2,_,e3⟩:=uV hb h1
  cases h2:pN 8 r1 with
  | none=>rw[h2]at h;cases h
  | some z =>
   obtain⟨v,r2⟩:=z
   rw[h2]at h
   simp -implicitDefEqProofs only[Option.some.injEq,Prod.mk.injEq]at h
   obtain⟨rfl,rfl⟩:=h
   obtain⟨f1,f2,f3⟩:=iV e3 h2
   exact⟨by unfold rI;rw[List.append_assoc,←f1];exact e1,⟨e2,f2⟩,f3⟩
theorem GV {m v:Nat}{l r:List Nat}(hb:dR l)(h:pC m l=some (v,r)):l=dr 4 v++r∧v≤m∧dR r:=by
 obtain⟨h1,h2⟩:=lQ h
 obtain⟨f1,f2,f3⟩:=iV hb h1
 exact⟨f1,h2,f3⟩
theorem Kt {c:Nat}{ks:List ByteArray}{l r:List Nat}(hb:dR l)(h:CF c 65535 l=some (ks,r)):l=Ay ks++r∧(ks.length≤c∧∀k∈ks,k.size≤65535)∧dR r:=by
 unfold CF at h
 cases h1:pC c l with
 | none=>rw[h1]at h;cases h
 | some y =>
  obtain⟨n,r1⟩:=y
  rw[h1]at h
  simp only at h
  obtain⟨e1,e2,e3⟩:=GV hb h1
  have hl:=uT h
  obtain⟨f1,f2,f3⟩:=yT (e:=eT) (Q:=fun k=>k.size≤65535) e3 (fun l x r hb h=>by
   obtain⟨a1,a2,_,a3⟩:=uV hb h;exact⟨a1,a2,a3⟩) h
  exact⟨by unfold Ay;rw[List.append_assoc,←f1,hl];exact e1,⟨by omega,f2⟩,f3⟩
theorem Ku {l r:List Nat}{x:Kd}(hb:dR l)(h:pz l=some (x,r)):l=mo x++r∧(Uw x∧raw x=x)∧dR r:=by
 unfold pz at h
 cases h1:pT 65535 l with
 | none=>rw[h1]at h;cases h
 | some y =>
  obtain⟨k,r1⟩:=y
  rw[h1]at h
  simp only at h
  obtain⟨e1,e2,_,e3⟩:=uV hb h1
  cases h2:pN 8 r1 with
  | none=>rw[h2]at h;cases h
  | some z =>
   obtain⟨v,r2⟩:=z
   rw[h2]at h
   simp only at h
   obtain⟨f1,f2,f3⟩:=iV e3 h2
   cases h3:pT 65535 r2 with
   | none=>rw[h3]at h;cases h
   | some w =>
    obtain⟨w,r3⟩:=w
    rw[h3]at h
    simp only at h
    obtain⟨g1,g2,_,g3⟩:=uV f3 h3
    cases h4:CF 1024 65535 r3 with
    | none=>rw[h4]at h;cases h
    | some q =>
     obtain⟨ks,r4⟩:=q
     rw[h4]at h
     simp -implicitDefEqProofs only[Option.some.injEq,Prod.mk.injEq]at h
     obtain⟨rfl,rfl⟩:=h
     obtain⟨a1,a2,a3⟩:=Kt g3 h4
     refine⟨?_,⟨⟨e2,f2,g2,a2.1,a2.2⟩,rfl⟩,a3⟩
     unfold mo
     simp -implicitDefEqProofs only[List.append_assoc]
     rw[←a1,←g1,←f1]
     exact e1
theorem AJ {α:Type}{p:List Nat→Option (α×List Nat)}{e:α→List Nat}{Q:α→Prop}{l r:List Nat}{xs:List α}(hb:dR l)(hp:∀l x r,dR l→p l=some (x,r)→l=e x++r∧Q x∧dR r)(h:rM p (some l)=some (xs,r)):l=dr 4 xs.length++(xs.flatMap e++r)∧(∀x∈xs,Q x)∧xs.length≤2147483647∧dR r:=by
 unfold rM at h
 simp only at h
 cases h1:pC 2147483647 l with
 | none=>rw[h1]at h;cases h
 | some y =>
  obtain⟨n,r1⟩:=y
  rw[h1]at h
  simp only at h
  obtain⟨e1,e2,e3⟩:=GV hb h1
  have hl:=uT h
  obtain⟨f1,f2,f3⟩:=yT e3 hp h
  exact⟨by rw[←f1,hl];exact e1,f2,by omega,f3⟩
theorem Pb {g:Nat}{L:List Nm}{K:List Kd}{l:List Nat}(hb:dR l)(h:pR l=some (g,L,K)):l=body g L K∧(1≤g∧g≤9223372036854775807)∧(∀x∈L,x.1.size≤65535∧x.2<18446744073709551616)∧(∀x∈K,Uw x∧raw x=x)∧L.length≤2147483647∧K.length≤2147483647:=by
 unfold pR at h
 cases h1:pH l with
 | none=>rw[h1]at h;cases h
 | some y =>
  obtain⟨g',r3⟩:=y
  rw[h1]at h
  simp only at h
  have hh:l=dr 4 1918987632++(dr 1 1++(dr 8 g'++r3))∧(1≤g'∧g'≤9223372036854775807)∧dR r3:=by
   unfold pH at h1
   cases k1:pN 4 l with
   | none=>rw[k1]at h1;cases h1
   | some a =>
    obtain⟨f,s1⟩:=a
    rw[k1]at h1
    simp only at h1
    obtain⟨e1,_,b1⟩:=iV hb k1
    cases k2:pN 1 s1 with
    | none=>rw[k2]at h1;cases h1
    | some a =>
     obtain⟨k,s2⟩:=a
     rw[k2]at h1
     simp only at h1
     obtain⟨e2,_,b2⟩:=iV b1 k2
     cases k3:pN 8 s2 with
     | none=>rw[k3]at h1;cases h1
     | some a =>
      obtain⟨v,s3⟩:=a
      rw[k3]at h1
      simp only at h1
      obtain⟨e3,_,b3⟩:=iV b2 k3
      split at h1
      ·rename_i hc
       simp -implicitDefEqProofs only[Option.some.injEq,Prod.mk.injEq]at h1
       obtain⟨rfl,rfl⟩:=h1
       rw[hc.1]at e1
       rw[hc.2.1]at e2
       exact⟨by rw[←e3,←e2];exact e1,⟨hc.2.2.1,hc.2.2.2⟩,b3⟩
      ·cases h1
  obtain⟨e1,hg,b3⟩:=hh
  cases h2:rM rL (some r3)with
  | none=>rw[h2]at h;cases h
  | some z =>
   obtain⟨L',r4⟩:=z
   rw[h2]at h
   simp only at h
   obtain⟨f1,f2,f3,f4⟩:=AJ (e:=rI) b3 (fun l x r hb h=>Ks hb h) h2
   cases h3:rM pz (some r4)with
   | none=>rw[h3]at h;cases h
   | some w =>
    obtain⟨K',r5⟩:=w
    rw[h3]at h
    simp only at h
    obtain⟨q1,q2,q3,q4⟩:=AJ (e:=mo) f4 (fun l x r hb h=>Ku hb h) h3
    split at h
    ·rename_i h5
     simp -implicitDefEqProofs only[Option.some.injEq,Prod.mk.injEq]at h
     obtain⟨rfl,rfl,rfl⟩:=h
     subst h5
     rw[List.append_nil]at q1
     exact⟨by unfold body;rw[←q1,←f1];exact e1,hg,f2,q2,f3,q3⟩
    ·cases h
def cg (now:Int)(a:Ab):Ab:=⟨fun m=>(a.v m).map fun d=>⟨d.value,d.keys,if m.2<a.last m.1 then now else -1⟩,a.l⟩
theorem Cc (now:Int)(a:Ab):(cg now a).last=a.last:=rfl
theorem rB (now:Int)(a:Ab)(m:Nm):(cg now a).has m=a.has m:=by
 show((a.v m).map _).isSome=(a.v m).isSome
 cases a.v m<;>rfl
theorem jS {now:Int}{a:Ab}{N:List Nm}(h:Names a N):Names (cg now a) N:=⟨h.1,fun m=>by rw[rB];exact h.2 m⟩
theorem iM {now:Int}{a:Ab}{ls:List ByteArray}(h:dv a ls):dv (cg now a) ls:=h
theorem tH.rest {a:Ab}(h:tH a){now:Int}(ht:bl now):tH (cg now a):=by
 have key:∀m x,(cg now a).v m=some x→∃d,a.v m=some d∧x=⟨d.value,d.keys,if m.2<a.last m.1 then now else -1⟩:=fun m x e=>by
  obtain⟨d,hd,e⟩:=Option.map_eq_some_iff.1 e
  exact⟨d,hd,e.symm⟩
 refine⟨fun m x e=>?_,fun m x e=>?_,fun m x e=>?_,fun k n e=>?_⟩
 ·obtain⟨d,_,rfl⟩:=key m x e
  rw[Cc]
  show(if m.2<a.last m.1 then now else -1)=-1↔_
  by_cases hl:m.2<a.last m.1
  ·rw[if_pos hl]
   constructor
   ·intro h1;unfold bl at ht;omega
   ·intro h1;exact absurd hl h1
  ·rw[if_neg hl];exact⟨fun _=>hl,fun _=>rfl⟩
 ·obtain⟨d,_,rfl⟩:=key m x e
  show(if m.2<a.last m.1 then now else -1)=-1∨bl (if m.2<a.last m.1 then now else -1)
  split
  ·exact .inr ht
  ·exact .inl rfl
 ·obtain⟨d,hd,rfl⟩:=key m x e
  exact h.G m d hd
 ·rw[rB];exact h.L k n e
theorem hZ.rest {a:Ab}{B:Nat}(h:hZ a B){now:Int}(ht:bl now):hZ (cg now a) B :=
 h.same (h.w.rest ht) (fun m=>rB now a m) fun m d hd=>by
  obtain⟨d0,h1,rfl⟩:=Option.map_eq_some_iff.1 hd
  exact⟨d0,h1,rfl,rfl⟩
theorem u6 {k:ByteArray}:∀(xs:List Nm) (v:Nat),(∀x∈xs,x.1≠k)→xs.foldl (fun v x=>if x.1=k then x.2 else v) v=v
 | [],_,_=>rfl
 | x :: xs,v,h=>by
  rw[List.foldl_cons,if_neg (h x (by simp))]
  exact u6 xs v fun y hy=>h y (List.mem_cons_of_mem _ hy)
theorem AK {k:ByteArray}{n:Nat}:∀(xs:List Nm) (v:Nat),(xs.map (·.1)).Nodup→(k,n)∈xs→xs.foldl (fun v x=>if x.1=k then x.2 else v) v=n
 | [],_,_,h=>by cases h
 | x :: xs,v,hn,h=>by
  rw[List.foldl_cons]
  obtain⟨h1,h2⟩:=List.nodup_cons.1 hn
  rcases List.mem_cons.1 h with e|h
  ·subst e
   rw[if_pos rfl]
   exact u6 xs n fun y hy e=>h1 (List.mem_map.2 ⟨y,hy,e⟩)
  ·exact AK xs _ h2 h
theorem GW {a:Ab}{ls:List ByteArray}(h:dv a ls)(k:ByteArray):AG (ls.map (ig a)) k=a.last k:=by
 by_cases hk:(a.l k).isSome=true
 ·refine AK _ _ ?_ (List.mem_map.2 ⟨k,(h.2 k).2 hk,rfl⟩)
  rw[List.map_map]
  exact List.pairwise_map.2 (h.1.imp fun {x y} Gl e=>by
   have:x=y:=e
   rw[this,fc]at Gl;cases Gl)
 ·have h0:a.last k=0:=by
   unfold Ab.last
   cases hl:a.l k with
   | none=>rfl
   | some n=>rw[hl]at hk;exact absurd rfl hk
  rw[h0]
  refine u6 _ _ fun x hx e=>hk ?_
  obtain⟨y,hy,rfl⟩:=List.mem_map.1 hx
  have:y=k:=e
  rw[←this];exact(h.2 y).1 hy
theorem GX {now:Int}{a:Ab}{N:List Nm}{ls:List ByteArray}(hN:Names a N)(hL:dv a ls):((N.map (bO a)).map raw).map (u2 now (ls.map (ig a)))=N.map (bO (cg now a)):=by
 rw[List.map_map,List.map_map]
 refine List.map_congr_left fun m hm=>?_
 obtain⟨d,hd⟩:=Option.isSome_iff_exists.1 ((hN.2 m).1 hm)
 have e:(cg now a).v m=some ⟨d.value,d.keys,if m.2<a.last m.1 then now else -1⟩:=by unfold cg;simp -implicitDefEqProofs only[hd,Option.map_some]
 show u2 now (ls.map (ig a)) (raw (bO a m))=bO (cg now a) m
 unfold u2 raw bO
 simp -implicitDefEqProofs only[GW hL,e,hd]
 rfl
theorem hZ.kdB {a:Ab}{B:Nat}(h:hZ a B){N:List Nm}(hN:Names a N):∀x∈N.map (bO a),Uw x:=fun x hx=>by
 obtain⟨m,hm,rfl⟩:=List.mem_map.1 hx
 have hh:=(hN.2 m).1 hm
 obtain⟨d,hd⟩:=Option.isSome_iff_exists.1 hh
 obtain⟨g1,g2,g3,g4⟩:=h.w.G m d hd
 have hk:∀k∈d.keys,k.size≤65535:=fun k hk=>by
  have:=dD.2 g2
  simp -implicitDefEqProofs only[jW,Bool.and_eq_true,List.all_eq_true,decide_eq_true_eq]at this
  exact this.1.1.2 k hk
 have hv:hO (a.v m)=d:=by rw[hd];rfl
 refine⟨hk _ g3,h.u m hh,?_,?_,?_⟩
 ·show(hO (a.v m)).value.size≤_;rw[hv];exact g4
 ·show(hO (a.v m)).keys.length≤_;rw[hv];exact g2.2.2
 ·show ∀k∈(hO (a.v m)).keys,_;rw[hv];exact hk
theorem hZ.lnB {a:Ab}{B:Nat}(h:hZ a B){ls:List ByteArray}(hL:dv a ls):∀x∈ls.map (ig a),x.1.size≤65535∧x.2<18446744073709551616:=fun x hx=>by
 obtain⟨k,hk,rfl⟩:=List.mem_map.1 hx
 obtain⟨n,hn⟩:=Option.isSome_iff_exists.1 ((hL.2 k).1 hk)
 have e:ig a k=(k,n):=by unfold ig Ab.last;rw[hn];rfl
 have hh:=h.w.L k n hn
 obtain⟨d,hd⟩:=Option.isSome_iff_exists.1 hh
 obtain⟨g1,g2,g3,g4⟩:=h.w.G _ d hd
 rw[e]
 refine⟨?_,h.u _ hh⟩
 have:=dD.2 g2
 simp -implicitDefEqProofs only[jW,Bool.and_eq_true,List.all_eq_true,decide_eq_true_eq]at this
 exact this.1.1.2 k g3
theorem hZ.back {a:Ab}{B:Nat}(h:hZ a B){N:List Nm}(hN:Names a N){ls:List ByteArray}(hL:dv a ls){g:Nat}(h1:1≤g)(h2:g≤9223372036854775807)(hN2:N.length≤2147483647)(hL2:ls.length≤2147483647) :
  pR (St.body g (ls.map (ig a)) (N.map (bO a)))=some (g,ls.map (ig a),(N.map (bO a)).map raw) :=
 aaj h1 h2 (h.lnB hL) (h.kdB hN) (by rw[List.length_map];exact hL2) (by rw[List.length_map];exact hN2)
theorem u7 {b:List Nat}:oY (whole b)∧(whole b).take ((whole b).length-4)=b:=by
 have hl:(whole b).length-4=b.length:=by unfold whole;rw[List.length_append,bj];omega
 have ht:(whole b).take b.length=b:=by unfold whole;rw[List.take_left' rfl]
 refine⟨⟨by unfold whole;rw[List.length_append,bj];omega,?_⟩,by rw[hl,ht]⟩
 rw[hl,ht]
 unfold whole
 rw[List.drop_left' rfl]
theorem lR {b:List Nat}(h:dR b):dR (whole b):=h.app (eQ _ _)
theorem GY (k k':SK)(l m:List Nat)(hl:dR l)(hm:dR m)(H:af):W env (.call 13 [.sl k (l.map eB),.sl k' (m.map eB)]) H (mY (.bool (decide (l=m))) H):=by
 have h1:=GJ (k:=k) (l:=l)
 have h2:=GJ (k:=k') (l:=m)
 refine W.bR rfl rfl rfl ?_
 by_cases e:l=m
 ·subst e
  simp -implicitDefEqProofs only[Jm,op,ef,cl,sq,reduceIte,q5,q6,q7,q9,j1,j2,j3,j4,j5,S1,↓h1,↓h2]
 ·have e':¬uS l=uS m:=fun h=>e ((AI hl hm).1 h)
  simp -implicitDefEqProofs only[Jm,op,ef,cl,sq,reduceIte,q5,q6,q7,q9,j1,j2,j3,j4,j5,S1,↓h1,↓h2,e',e]
theorem Kv (l:List Nat)(hl:l.length≤4294967296)(H:af):∃c H',m3 (H++[B.cells []]) 1 1 (.ax H.length 0 0 1) (l.map eB)=some (.ax c 0 l.length 1,H')∧H.length≤c∧H'[c]?=some (.cells (aJ eB l))∧Ext H H':=by
 by_cases h0:l=[]
 ·subst h0
  exact⟨H.length,_,rfl,Nat.le_refl _,aU rfl,Ext.rfl'.app _⟩
 obtain⟨t',H',ha,hm,dG⟩:=pP (enc:=eB) (n:=1) (n0:=H.length) (fun _=>rfl) (H:=H++[B.cells []]) (t:=.ax H.length 0 0 1) (l:=[]) (bytes:=1) l (.inr ⟨H.length,rfl,aU rfl,Nat.le_refl _⟩) (by simp) h0 (jn (by simp -implicitDefEqProofs only[List.length_nil];omega))
 rw[List.nil_append]at hm
 rcases hm with⟨h1,_⟩|⟨c,rfl,hc,h0⟩
 ·exact absurd h1 ‹_›
 ·exact⟨c,H',ha,h0,hc,dG.ext H (Nat.le_refl _) (Ext.rfl'.app _)⟩
theorem Pc (k:SK)(l:List Nat)(hl:l.length≤4294967296)(H:af):W env (.call 15 [.sl k (l.map eB)]) H (fun o H'=>Ext H H'∧∃c,H.length≤c∧o=.val (.ax c 0 l.length 1)∧H'[c]?=some (.cells (aJ eB l))):=by
 have cr:=xm l
 obtain⟨c,H',ha,hc,hd,hx⟩:=Kv l hl H
 refine W.bR rfl rfl rfl ?_
 have Jk:zg (.ax H.length 0 0 1)=.ax H.length 0 0 1:=rfl
 have aB:(1≠0)=True:=by decide
 simp -implicitDefEqProofs only[Na,op,ef,cl,sq,reduceIte,q5,q6,q7,q9,j1,j2,j3,j4,j5,S1,cr]
 simp -implicitDefEqProofs only[List.flatten_nil,aB,if_true,op,ef,cl,sq,reduceIte,q5,q6,q7,q9,j1,j2,j3,j4,j5,S1,cr]
 rw[Jk,ha]
 simp -implicitDefEqProofs only[op,ef,cl,sq,reduceIte,q5,q6,q7,q9,j1,j2,j3,j4,j5,S1]
 exact⟨hx,c,hc,rfl,hd⟩
theorem xC (k:SK)(l:List Nat)(hl:l.length≤4294967296)(H:af):W env (.call 15 [.sl k (l.map eB)]) H (fun o H'=>Ext H H'∧o=.val (.sl .arg (l.map eB))) :=
 W.xN (enc:=eB) (n:=1) (l:=l) (fun _=>rfl) (W.use (Pc k l hl H) fun o H' ⟨hx,c,hc,ho,hd⟩=>⟨c,ho,hd,hx.set hc _,rfl⟩)
theorem Uy {n:Nat}(h:n<256):IntKind.u32.wrap ((n:Int)*2^(min (24:Int).toNat IntKind.u32.bits))=((16777216*n:Nat):Int):=by
 have e:(min (24:Int).toNat IntKind.u32.bits)=24:=rfl
 rw[e,show((n:Int)*2^24)=((16777216*n:Nat):Int) by omega,wrap32 (by omega)]
theorem Uz {n:Nat}(h:n<256):IntKind.u32.wrap ((n:Int)*2^(min (16:Int).toNat IntKind.u32.bits))=((65536*n:Nat):Int):=by
 have e:(min (16:Int).toNat IntKind.u32.bits)=16:=rfl
 rw[e,show((n:Int)*2^16)=((65536*n:Nat):Int) by omega,wrap32 (by omega)]
theorem aak {n:Nat}(h:n<256):IntKind.u32.wrap ((n:Int)*2^(min (8:Int).toNat IntKind.u32.bits))=((256*n:Nat):Int):=by
 have e:(min (8:Int).toNat IntKind.u32.bits)=8:=rfl
 rw[e,show((n:Int)*2^8)=((256*n:Nat):Int) by omega,wrap32 (by omega)]
theorem Pd {a b:Nat}(ha:a<4294967296)(hb:b<4294967296):IntKind.u32.wrap ((BitVec.ofInt IntKind.u32.bits (a:Int) ||| BitVec.ofInt IntKind.u32.bits (b:Int)).toNat:Nat)=((a ||| b:Nat):Int):=by
 have e:(BitVec.ofInt IntKind.u32.bits (a:Int) ||| BitVec.ofInt IntKind.u32.bits (b:Int)).toNat=a ||| b:=TY 32 a b ha hb
 rw[e,wrap32 (Nat.or_lt_two_pow (n:=32) ha hb)]
theorem orA {i a b:Nat}(h:b<2^i):2^i*a ||| b=2^i*a+b:=(Nat.two_pow_add_eq_or_of_lt h a).symm
theorem aam {x y:Nat}(hy:y<256):16777216*x ||| 65536*y=16777216*x+65536*y:=orA (i:=24) (a:=x) (b:=65536*y) (by omega)
theorem aan {x y z:Nat}(hz:z<256):(16777216*x+65536*y) ||| 256*z=16777216*x+65536*y+256*z:=by
 have:=orA (i:=16) (a:=256*x+y) (b:=256*z) (by omega)
 rwa[show 2^16*(256*x+y)=16777216*x+65536*y by omega]at this
theorem aao {x y z w:Nat}(hw:w<256):(16777216*x+65536*y+256*z) ||| w=16777216*x+65536*y+256*z+w:=by
 have:=orA (i:=8) (a:=65536*x+256*y+z) (b:=w) (by omega)
 rwa[show 2^8*(65536*x+256*y+z)=16777216*x+65536*y+256*z by omega]at this
theorem UA {x y:Nat}(hx:x<256)(hy:y<256):IntKind.u32.wrap ((BitVec.ofInt IntKind.u32.bits ((16777216*x:Nat):Int) ||| BitVec.ofInt IntKind.u32.bits ((65536*y:Nat):Int)).toNat:Nat)=((16777216*x+65536*y:Nat):Int):=by
 rw[Pd (by omega) (by omega),aam hy]
theorem UB {x y z:Nat}(hx:x<256)(hy:y<256)(hz:z<256):IntKind.u32.wrap ((BitVec.ofInt IntKind.u32.bits ((16777216*x+65536*y:Nat):Int) ||| BitVec.ofInt IntKind.u32.bits ((256*z:Nat):Int)).toNat:Nat)=((16777216*x+65536*y+256*z:Nat):Int):=by
 rw[Pd (by omega) (by omega),aan hz]
theorem UC {x y z w:Nat}(hx:x<256)(hy:y<256)(hz:z<256)(hw:w<256):IntKind.u32.wrap ((BitVec.ofInt IntKind.u32.bits ((16777216*x+65536*y+256*z:Nat):Int) ||| BitVec.ofInt IntKind.u32.bits (w:Int)).toNat:Nat)=((16777216*x+65536*y+256*z+w:Nat):Int):=by
 rw[Pd (by omega) (by omega),aao hw]
theorem UD {l:List Nat}{n:Nat}(h:l.length=n+4):∃x y z w,l[n]?=some x∧l[n+1]?=some y∧l[n+2]?=some z∧l[n+3]?=some w∧l.drop n=[x,y,z,w]:=by
 obtain⟨x,hx⟩:=cj (l:=l) (i:=n) (by omega)
 obtain⟨y,hy⟩:=cj (l:=l) (i:=n+1) (by omega)
 obtain⟨z,hz⟩:=cj (l:=l) (i:=n+2) (by omega)
 obtain⟨w,hw⟩:=cj (l:=l) (i:=n+3) (by omega)
 refine⟨x,y,z,w,hx,hy,hz,hw,?_⟩
 rw[drop_cons hx,drop_cons hy,drop_cons hz,drop_cons hw,List.drop_eq_nil_of_le (by omega)]
theorem aap (x y z w:Nat):nR 0 [x,y,z,w]=16777216*x+65536*y+256*z+w:=by simp -implicitDefEqProofs only[nR,List.foldl];omega
theorem Cd (k:SK)(l:List Nat)(hb:dR l){n:Nat}(hn:l.length=n+4)(hl:l.length≤4294967296)(H:af):W env (.call 27 [.sl k (l.map eB)]) H (mY (.int .u32 (nR 0 (l.drop n):Nat)) H):=by
 obtain⟨x,y,z,w,hx,hy,hz,hw,hd⟩:=UD hn
 have bx:=hb x (List.mem_of_getElem? hx)
 have bY:=hb y (List.mem_of_getElem? hy)
 have bz:=hb z (List.mem_of_getElem? hz)
 have bw:=hb w (List.mem_of_getElem? hw)
 rw[hd,aap]
 have w4:IntKind.i64.wrap ((l.length:Int)-4)=((n:Nat):Int):=by rw[wrap64 (by omega)];omega
 have w3:IntKind.i64.wrap ((l.length:Int)-3)=((n+1:Nat):Int):=by rw[wrap64 (by omega)];omega
 have w2:IntKind.i64.wrap ((l.length:Int)-2)=((n+2:Nat):Int):=by rw[wrap64 (by omega)];omega
 have w1:IntKind.i64.wrap ((l.length:Int)-1)=((n+3:Nat):Int):=by rw[wrap64 (by omega)];omega
 have e8:∀{n x:Nat},l[n]?=some x→dE 1 n (.sl k (l.map eB))=some (.cP [T.int .u8 (x:Nat)]):=fun h=>fx (e:=eB) (n:=1) (fun _=>rfl) (by decide) (k:=k) h
 have i0:=e8 hx
 have i1:=e8 hy
 have i2:=e8 hz
 have i3:=e8 hw
 have v0:=wrap32 (n:=x) (by omega)
 have v1:=wrap32 (n:=y) (by omega)
 have v2:=wrap32 (n:=z) (by omega)
 have v3:=wrap32 (n:=w) (by omega)
 have s0:=Uy bx
 have s1:=Uz bY
 have s2:=aak bz
 have o0:=UA bx bY
 have o1:=UB bx bY bz
 have o2:=UC bx bY bz bw
 refine W.bR rfl rfl rfl ?_
 simp -implicitDefEqProofs only[Ni,op,ef,cl,sq,reduceIte,q5,q6,q7,q9,j1,j2,j3,j4,j5,S1,List.length_map,w4,w3,w2,w1,aa,i0,i1,i2,i3,cV,v0,v1,v2,v3,s0,s1,s2,o0,o1,o2]
theorem AL {α:Type}(e:α→List Nat)(he:∀x,1≤(e x).length)(l:List α):l.length≤(l.flatMap e).length:=by
 induction l with
 | nil=>simp
 | cons x l ih =>
  have:=he x
  simp -implicitDefEqProofs only[List.length_cons,List.flatMap_cons,List.length_append];omega
theorem GZ {l:List Nat}(hb:dR l){g:Nat}{L:List Nm}{K:List Kd}(h:pR l=some (g,L,K)):K.length≤l.length∧L.length≤l.length:=by
 have e:=(Pb hb h).1
 have h1:=rp g L K
 have h2:=AL rI (fun x=>by unfold rI;rw[List.length_append,bj];omega) L
 have h3:=AL mo (fun x=>by unfold mo;simp -implicitDefEqProofs only[List.length_append,bj];omega) K
 rw[e];omega
theorem rC {a:Ab}{B:Nat}(hz:hZ a B){N:List Nm}(hN:Names a N){ls:List ByteArray}(hL:dv a ls){g:Nat}(h1:1≤g)(h2:g≤9223372036854775807){now:Int}(ht:bl now)(hNl:N.length≤8000000)(Vu:ls.length≤8000000)
  (a6:(body g (ls.map (ig a)) (N.map (bO a))).length≤2147483647) (k:SK) (hk:k≠.nil) (H:af) :
  W env (.call 17 [.sl k ((whole (body g (ls.map (ig a)) (N.map (bO a)))).map eB),.int .i64 now]) H (fun o H'=>∃b F,o=.val (.bF [.int .i64 g,.ptr b.s 0,.int .i64 0])∧kr H H' b (cg now a) F N.length):=by
 have PK:=hz.back hN hL h1 h2 (by omega) (by omega)
 have dG:=GX (now:=now) hN hL
 have JZ:=(hz.w.rest ht).load (jS (now:=now) hN) (iM (now:=now) hL)
 have HA:=B0 (jS (now:=now) hN) (iM (now:=now) hL)
 have elm:ls.map (ig (cg now a))=ls.map (ig a):=rfl
 rw[elm]at JZ HA
 have P0:=ju g (ls.map (ig a)) (N.map (bO a))
 have Hc:(N.map (bO a)).length=N.length:=List.length_map _
 have rR:(ls.map (ig a)).length=ls.length:=List.length_map _
 obtain⟨BP,FN⟩:=u7 (b:=body g (ls.map (ig a)) (N.map (bO a)))
 have Cz:(whole (body g (ls.map (ig a)) (N.map (bO a)))).length=(body g (ls.map (ig a)) (N.map (bO a))).length+4:=by unfold whole;rw[List.length_append,bj]
 refine W.use (GO k (whole (body g (ls.map (ig a)) (N.map (bO a)))) (fun h=>absurd h hk) (lR P0) (by omega) now (fun _ g' L' K' h=>?_) H) fun o H' hq=>?_
 ·rw[FN,PK]at h
  simp -implicitDefEqProofs only[Option.some.injEq,Prod.mk.injEq]at h
  obtain⟨_,rfl,rfl⟩:=h
  rw[List.length_map];omega
 ·rcases hq with⟨h,_⟩|⟨_,h,_⟩|⟨_,_,h,_⟩|⟨_,_,g',L',K',h,hq⟩
  ·exact absurd ht h
  ·exact absurd BP h
  ·rw[FN,PK]at h;cases h
  ·rw[FN,PK]at h
   simp -implicitDefEqProofs only[Option.some.injEq,Prod.mk.injEq]at h
   obtain⟨rfl,rfl,rfl⟩:=h
   rw[dG,HA]at hq
   rcases hq with⟨_,b,F,ho,pv⟩|⟨h,_⟩
   ·rw[List.length_map,List.length_map]at pv
    exact⟨b,F,ho,pv⟩
   ·exact absurd JZ h
def kA:ByteArray:=⟨#[97]⟩
def kB:ByteArray:=⟨#[98]⟩
def w1:ByteArray:=⟨#[49]⟩
def w2:ByteArray:=⟨#[50]⟩
def w3:ByteArray:=⟨#[51]⟩
def Pe:List pA:=[⟨1,65536,⟨#[]⟩,.arg,[(kA,w1),(kB,w2)],.arg,[kA,kB],0⟩,⟨2,65536,⟨#[]⟩,.arg,[],.arg,[],0⟩]
def UE:List pA:=[⟨1,131072,⟨#[]⟩,.arg,[(kA,w3)],.arg,[kA],0⟩,⟨2,131072,⟨#[]⟩,.arg,[],.arg,[],0⟩]
def LU:List pA:=Pe++UE
theorem aaq:strLt kA kB=true:=by decide +kernel
theorem rD:kA≠kB:=by decide
theorem aar:lY 65536 [(kA,w1),(kB,w2)] [kA,kB]:=by
 refine⟨by decide,dD.1 (by decide +kernel),by decide,fun i hi p hp=>?_⟩
 match i,hi with
 | 0,_=>cases hp;exact⟨fun h=>absurd h (by decide),by simp,by decide⟩
 | 1,_=>cases hp;exact⟨fun _ q hq=>by cases hq;exact aaq,by simp,by decide⟩
theorem aas:lY 131072 [(kA,w3)] [kA]:=by
 refine⟨by decide,dD.1 (by decide +kernel),by decide,fun i hi p hp=>?_⟩
 match i,hi with
 | 0,_=>cases hp;exact⟨fun h=>absurd h (by decide),by simp,by decide⟩
def aL:Ab:=⟨fun m=>if m.1=kA then(if m.2=65536 then some ⟨w1,[kA,kB],0⟩else if m.2=131072 then some ⟨w3,[kA],-1⟩else none)else if m.1=kB∧m.2=65536 then some ⟨w2,[kA,kB],-1⟩else none,
 fun k=>if k=kA then some 131072 else if k=kB then some 65536 else none⟩
def HB:Ab:=⟨fun m=>if m.2=65536 then(if m.1=kA then some ⟨w1,[kA,kB],-1⟩else if m.1=kB then some ⟨w2,[kA,kB],-1⟩else none)else none,fun _=>none⟩
def LV:Ab:=⟨HB.v,fun k=>if k=kA∨k=kB then some 65536 else none⟩
def UF:Ab:=⟨fun m=>if m.1=kA∧m.2=131072 then some ⟨w3,[kA],-1⟩else HB.v m,LV.l⟩
theorem al1:Ab.emp.put 65536 [(kA,w1),(kB,w2)] [kA,kB] 0=HB:=by
 refine gm (fun m=>?_) fun k=>rfl
 simp -implicitDefEqProofs only[Ab.put,Ab.emp,Ab.last,HB,ah,List.find?]
 by_cases h1:m.2=65536
 ·by_cases h2:m.1=kA
  ·simp[h1,h2]
  ·by_cases h3:m.1=kB
   ·simp[h1,h2,h3,rD.symm]
   ·simp[h1,h2,h3]
 ·simp[h1]
theorem al2:HB.oa 65536 0=LV:=by
 refine gm (fun m=>?_) fun k=>?_
 ·simp -implicitDefEqProofs only[Ab.oa,LV,HB,Ab.has,Ab.last]
  by_cases h1:m.2=65536
  ·simp[h1]
  ·simp[h1]
 ·simp -implicitDefEqProofs only[Ab.oa,LV,HB,Ab.has,Ab.last]
  by_cases h2:k=kA
  ·simp[h2]
  ·by_cases h3:k=kB
   ·simp[h3,rD.symm]
   ·simp[h2,h3]
theorem al3:LV.put 131072 [(kA,w3)] [kA] 0=UF:=by
 refine gm (fun m=>?_) fun k=>rfl
 simp -implicitDefEqProofs only[Ab.put,Ab.last,UF,LV,HB,ah,List.find?]
 by_cases h1:m.2=65536
 ·by_cases h2:m.1=kA
  ·simp[h1,h2]
  ·by_cases h3:m.1=kB
   ·simp[h1,h3,rD.symm]
   ·simp[h1,h2,h3]
 ·by_cases h4:m.2=131072
  ·by_cases h2:m.1=kA
   ·simp[h4,h2]
   ·simp[h4,h2]
  ·simp[h1,h4]
theorem al4:UF.oa 131072 0=aL:=by
 refine gm (fun m=>?_) fun k=>?_
 ·simp -implicitDefEqProofs only[Ab.oa,aL,UF,LV,HB,Ab.has,Ab.last]
  by_cases h2:m.1=kA
  ·by_cases h1:m.2=65536
   ·simp[h1,h2]
   ·by_cases h4:m.2=131072
    ·simp[h4,h2]
    ·simp[h1,h4,h2]
  ·by_cases h3:m.1=kB
   ·by_cases h1:m.2=65536
    ·simp[h1,h3,rD.symm]
    ·simp[h1,h3,rD.symm]
   ·simp[h2,h3]
 ·simp -implicitDefEqProofs only[Ab.oa,aL,UF,LV,HB,Ab.has,Ab.last]
  by_cases h2:k=kA
  ·simp[h2]
  ·by_cases h3:k=kB
   ·simp[h3,rD.symm]
   ·simp[h2,h3]
theorem G0:gF Ab.emp LU=aL:=by
 have t0:bl 0:=⟨by decide,by decide⟩
 have p1:∀a,ry a 65536 [(kA,w1),(kB,w2)] [kA,kB] 0=a.put 65536 [(kA,w1),(kB,w2)] [kA,kB] 0:=fun a=>if_pos ⟨aar,t0⟩
 have p2:∀a,ry a 131072 [(kA,w3)] [kA] 0=a.put 131072 [(kA,w3)] [kA] 0:=fun a=>if_pos ⟨aas,t0⟩
 have c1:∀a,rz a 65536 0=a.oa 65536 0:=fun a=>if_pos ⟨by decide,t0⟩
 have c2:∀a,rz a 131072 0=a.oa 131072 0:=fun a=>if_pos ⟨by decide,t0⟩
 unfold gF LU Pe UE
 simp -implicitDefEqProofs only[List.cons_append,List.nil_append,List.foldl_cons,List.foldl_nil,hY,if_true,show((2:Int)=1)=False by decide,if_false,p1,p2,c1,c2,al1,al2,al3,al4]
def aN:List Nm:=[(kA,65536),(kA,131072),(kB,65536)]
theorem nW:Names aL aN:=by
 refine⟨by decide +kernel,fun m=>?_⟩
 obtain⟨k,n⟩:=m
 simp -implicitDefEqProofs only[aN,aL,Ab.has,List.mem_cons,List.not_mem_nil,or_false,Prod.mk.injEq]
 by_cases h2:k=kA
 ·by_cases h1:n=65536
  ·simp[h1,h2]
  ·by_cases h4:n=131072
   ·simp[h4,h2]
   ·simp[h1,h4,h2,rD]
 ·by_cases h3:k=kB
  ·by_cases h1:n=65536
   ·simp[h1,h3,rD.symm]
   ·simp[h1,h3,rD.symm]
  ·simp[h2,h3]
theorem lS:dv aL [kA,kB]:=by
 refine⟨by decide +kernel,fun k=>?_⟩
 simp -implicitDefEqProofs only[aL,List.mem_cons,List.not_mem_nil,or_false]
 by_cases h2:k=kA
 ·simp[h2]
 ·by_cases h3:k=kB
  ·simp[h3,rD.symm]
  ·simp[h2,h3]
theorem aat (x:Nm):bT [T.str x.1,T.int .u64 x.2] [T.str x.1,T.int .u64 x.2]=some true:=by simp[bT,ik,fw]
theorem UG (x:Nm):fk [.str,.int] [T.str x.1,T.int .u64 x.2]=true:=rfl
theorem G1 (k k':SK)(l:List ByteArray)(hl:l.length<9223372036854775807)(H:af):W env (.call 63 [.sl k (l.map eS),.sl k' (l.map eS)]) H (mY (.bool true) H):=by
 refine W.bR rfl rfl rfl ?_
 simp -implicitDefEqProofs only[NI,op,ef,cl,sq,reduceIte,q5,q6,q7,q9,j1,j2,j3,j4,j5,S1,List.length_map]
 refine W.wU [(0,_),(1,_)] (fun (i:Nat) R H'=>H'=H∧R 5=.int .i64 i∧i≤l.length) (fun i=>l.length-i) 0 ⟨rfl,rfl,Nat.zero_le _⟩ ?_
 rintro i R H1⟨rfl,g5,hi⟩
 by_cases au:i<l.length
 ·obtain⟨x,hx⟩:=cj au
  have i0:dE 1 i (.sl k (l.map eS))=some (.cP [.str x]):=fx (e:=eS) (n:=1) (fun _=>rfl) (by decide) (k:=k) hx
  have i1:dE 1 i (.sl k' (l.map eS))=some (.cP [.str x]):=fx (e:=eS) (n:=1) (fun _=>rfl) (by decide) (k:=k') hx
  have l4:=aC (show i<9223372036854775807 by omega)
  simp -implicitDefEqProofs only[ak,ai,op,ef,cl,sq,reduceIte,q5,q6,q7,q9,j1,j2,j3,j4,j5,S1,List.length_map,g5,au,aa,i0,i1,cV,l4]
  exact⟨i+1,by omega,rfl,au⟩
 ·simp -implicitDefEqProofs only[ak,ai,op,ef,cl,sq,reduceIte,q5,q6,q7,q9,j1,j2,j3,j4,j5,S1,List.length_map,g5,au]
theorem Pf (k k':SK)(l:List Nm)(hl:l.length<9223372036854775807)(H:af):W env (.call 21 [.sl k (l.map eW),.sl k' (l.map eW)]) H (mY (.bool true) H):=by
 refine W.bR rfl rfl rfl ?_
 simp -implicitDefEqProofs only[Nf,op,ef,cl,sq,reduceIte,q5,q6,q7,q9,j1,j2,j3,j4,j5,S1,List.length_map]
 refine W.wU [(0,_),(1,_)] (fun (i:Nat) R H'=>H'=H∧R 5=.int .i64 i∧i≤l.length) (fun i=>l.length-i) 0 ⟨rfl,rfl,Nat.zero_le _⟩ ?_
 rintro i R H1⟨rfl,g5,hi⟩
 by_cases au:i<l.length
 ·obtain⟨x,hx⟩:=cj au
  have i0:dE 2 i (.sl k (l.map eW))=some (.cP [.str x.1,.int .u64 x.2]):=fx (e:=eW) (n:=2) (fun _=>rfl) (by decide) (k:=k) hx
  have i1:dE 2 i (.sl k' (l.map eW))=some (.cP [.str x.1,.int .u64 x.2]):=fx (e:=eW) (n:=2) (fun _=>rfl) (by decide) (k:=k') hx
  have l4:=aC (show i<9223372036854775807 by omega)
  have OW:∀Hx,nZ Hx 2 (.cP [.str x.1,.int .u64 x.2])=some [.str x.1,.int .u64 x.2]:=fun _=>rfl
  have e1:=aat x
  have e2:=UG x
  simp -implicitDefEqProofs only[ak,ai,op,ef,cl,sq,reduceIte,q5,q6,q7,q9,j1,j2,j3,j4,j5,S1,List.length_map,g5,au,aa,i0,i1,OW,e1,e2,l4]
  exact⟨i+1,by omega,rfl,au⟩
 ·simp -implicitDefEqProofs only[ak,ai,op,ef,cl,sq,reduceIte,q5,q6,q7,q9,j1,j2,j3,j4,j5,S1,List.length_map,g5,au]
def G2 (st:Bool)(x y:Kd):Prop:=x.key=y.key∧x.id=y.id∧x.value=y.value∧x.keys=y.keys∧(st=true→x.a9=y.a9)
theorem y7 (k k':SK)(l m:List Kd)(st:Bool)(hlm:l.length=m.length)(hl:l.length<9223372036854775807)(hs:∀(i:Nat) (x y:Kd),l[i]?=some x→m[i]?=some y→G2 st x y)(hk:∀x∈l,x.keys.length<9223372036854775807)(H:af) :
  W env (.call 19 [.sl k (l.map js),.sl k' (m.map js),.bool st]) H (fun o H'=>o=.val (.bool true)∧Ext H H'):=by
 refine W.bR rfl rfl rfl ?_
 simp -implicitDefEqProofs only[Nc,op,ef,cl,sq,reduceIte,q5,q6,q7,q9,j1,j2,j3,j4,j5,S1,List.length_map,hlm]
 refine W.wU [(0,_),(1,_),(2,_)] (fun (i:Nat) R H'=>At H' (fun H'=>Ext H H')∧R 7=.int .i64 i∧i≤l.length) (fun i=>l.length-i) 0 ⟨.i Ext.rfl',rfl,Nat.zero_le _⟩ ?_
 rintro i R H1⟨gw,g7,hi⟩
 have gw:Ext H H1:=gw
 by_cases au:i<l.length
 ·obtain⟨x,hx⟩:=cj au
  obtain⟨y,hy⟩:=cj (l:=m) (i:=i) (by omega)
  have hkx:=hk x (List.mem_of_getElem? hx)
  obtain⟨h1,h2,h3,h4,h5⟩:=hs i x y hx hy
  have Kw:i<m.length:=by omega
  have i0:dE 5 i (.sl k (l.map js))=some (.cP [.str x.key,.int .u64 x.id,.str x.value,.sl x.kk (x.keys.map eS),.int .i64 x.a9]):=fx (e:=js) (n:=5) (fun _=>rfl) (by decide) (k:=k) hx
  have i1:dE 5 i (.sl k' (m.map js))=some (.cP [.str x.key,.int .u64 x.id,.str x.value,.sl y.kk (x.keys.map eS),.int .i64 y.a9]):=by
   rw[h1,h2,h3,h4];exact fx (e:=js) (n:=5) (fun _=>rfl) (by decide) (k:=k') hy
  have l4:=aC (show i<9223372036854775807 by omega)
  have ld4:∀Hx (a b c d e:T),nZ Hx 4 (.cP [a,b,c,d,e])=some [a,b,c,d]:=fun _ _ _ _ _ _=>rfl
  obtain⟨H2,B4⟩:∃H2,H2=H1++[B.cells [.str x.key,.int .u64 x.id,.str x.value,.sl x.kk (x.keys.map eS)]]:=⟨_,rfl⟩
  obtain⟨H3,vz⟩:∃H3,H3=H2++[B.cells [.str x.key,.int .u64 x.id,.str x.value,.sl y.kk (x.keys.map eS)]]:=⟨_,rfl⟩
  have d2:H2[H1.length]?=some (.cells [.str x.key,.int .u64 x.id,.str x.value,.sl x.kk (x.keys.map eS)]):=by rw[B4];exact aU rfl
  have x3:Ext H2 H3:=⟨_,vz⟩
  have d3:=x3.get d2
  have Am:H3[H2.length]?=some (.cells [.str x.key,.int .u64 x.id,.str x.value,.sl y.kk (x.keys.map eS)]):=by rw[vz];exact aU rfl
  have pd:Ext H H3:=gw.trans (Ext.trans ⟨_,B4⟩ x3)
  cases st with
  | false =>
   simp -implicitDefEqProofs only[ak,ai,op,ef,cl,sq,reduceIte,q5,q6,q7,q9,j1,j2,j3,j4,j5,S1,List.length_map,g7,au,Kw,aa,i0,i1,ld4,S2]
   rw[←B4,←vz]
   simp -implicitDefEqProofs only[op,ef,cl,sq,reduceIte,q5,q6,q7,q9,j1,j2,j3,j4,j5,S1,d3,Am]
   refine ae _ _ _ _ _ _ _ _ (G1 x.kk y.kk x.keys hkx _) ?_
   rintro u H4⟨hu,rfl⟩
   cases hu
   simp -implicitDefEqProofs only[op,ef,cl,sq,reduceIte,q5,q6,q7,q9,j1,j2,j3,j4,j5,S1,g7,d3,Am,l4]
   exact⟨i+1,by omega,.i pd,rfl,au⟩
  | true =>
   have h5:=h5 rfl
   simp -implicitDefEqProofs only[ak,ai,op,ef,cl,sq,reduceIte,q5,q6,q7,q9,j1,j2,j3,j4,j5,S1,List.length_map,g7,au,Kw,aa,i0,i1,ld4,S2]
   rw[←B4,←vz]
   simp -implicitDefEqProofs only[op,ef,cl,sq,reduceIte,q5,q6,q7,q9,j1,j2,j3,j4,j5,S1,d3,Am]
   refine ae _ _ _ _ _ _ _ _ (G1 x.kk y.kk x.keys hkx _) ?_
   rintro u H4⟨hu,rfl⟩
   cases hu
   simp -implicitDefEqProofs only[op,ef,cl,sq,reduceIte,q5,q6,q7,q9,j1,j2,j3,j4,j5,S1,g7,d3,Am,aa,i0,i1,cV,h5,l4]
   exact⟨i+1,by omega,.i pd,rfl,au⟩
 ·have Kw:¬i<m.length:=by omega
  simp -implicitDefEqProofs only[ak,ai,op,ef,cl,sq,reduceIte,q5,q6,q7,q9,j1,j2,j3,j4,j5,S1,List.length_map,g7,au,Kw]
  exact gw
theorem Ce (H:af):W env (.call 26 []) H (mY (.sl .full (Pe.map eO)) H):=by
 refine W.bR rfl rfl rfl ?_
 simp -implicitDefEqProofs only[Nh,op,ef,cl,sq,reduceIte,q5,q6,q7,q9,j1,j2,j3,j4,j5,S1]
 rfl
theorem opx:∀o∈LU,xw o:=fun o ho=>by
 simp -implicitDefEqProofs only[LU,Pe,UE,List.cons_append,List.nil_append,List.mem_cons,List.not_mem_nil,or_false]at ho
 rcases ho with rfl|rfl|rfl|rfl<;>exact⟨(fun h=>by cases h),by decide,by decide,by decide⟩
theorem aau:hZ aL 100000:=by
 have:=hZ.emp.run LU opx
 rw[G0]at this
 exact this.le (by decide)
theorem UH (now:Int):aN.map (bO (cg now aL))=[⟨kA,65536,w1,.arg,[kA,kB],now⟩,⟨kA,131072,w3,.arg,[kA],-1⟩,⟨kB,65536,w2,.arg,[kA,kB],-1⟩]:=by
 have n1:(kB=kA)=False:=by simp[rD.symm]
 simp -implicitDefEqProofs only[aN,List.map_cons,List.map_nil,bO,cg,aL,Ab.last,n1,if_true,if_false,hO]
 rfl
theorem y8 {a:Ab}{B:Nat}(h:hZ a B){N:List Nm}(hN:Names a N):∀x∈N.map (bO a),x.keys.length<9223372036854775807:=fun x hx=>by
 have:=(h.kdB hN x hx).len;omega
theorem rE:body 1 [] []=[114,97,109,112,1,0,0,0,0,0,0,0,1,0,0,0,0,0,0,0,0]:=by rfl
theorem Kx (l:List Nat):nR 0 (dr 4 (iW l))=iW l:=by
 rw[yQ,Nat.mod_eq_of_lt (show iW l<256^4 from J9 l)];omega
theorem Ky:Names Ab.emp []:=⟨List.Pairwise.nil,fun m=>by simp[Ab.has,Ab.emp]⟩
theorem G3:dv Ab.emp []:=⟨List.Pairwise.nil,fun m=>by simp[Ab.emp]⟩
set_option maxHeartbeats 4000000 in
theorem Pg (H:af):W env (.call 8 []) H (fun o H'=>o=.val (.bool true)∧Ext H H'):=by
 refine W.bR rfl rfl rfl ?_
 simp -implicitDefEqProofs only[WJ,op,ef,cl,sq,reduceIte,q5,q6,q7,q9,j1,j2,j3,j4,j5,S1]
 refine ae _ _ _ _ _ _ _ _ (GQ .nil [] (fun o ho=>by cases ho) (by decide) (by decide) _) ?_
 rintro u H1⟨b1,F1,hu,Pa⟩
 cases hu
 have x1:Ext H H1:=eM Pa.lg
 have a1:ja H1 b1 Ab.emp F1 0:=Pa.at_
 simp -implicitDefEqProofs only[op,ef,cl,sq,reduceIte,q5,q6,q7,q9,j1,j2,j3,j4,j5,S1]
 refine ae _ _ _ _ _ _ _ _ (Ce _) ?_
 rintro u H2⟨hu,rfl⟩
 cases hu
 have cr:=all_map (enc:=eO) (n:=6) (fun _=>rfl) Pe
 obtain⟨k3,H3,ha,_,dG⟩:=kZ (n0:=H2.length) (H:=H2) (bytes:=88) (k:=.full) (Pe.map eO) (UE.map eO) (.inr (.inl rfl)) (Nat.le_refl _) (by simp[UE]) (jn (by decide))
 have pd:Ext H2 H3:=dG.ext H2 (Nat.le_refl _) Ext.rfl'
 have Ov:gM H2 88 .full (Pe.map eO) [[T.int .i64 1,.int .u64 131072,.str ⟨#[]⟩,.sl .arg [[.str ⟨#[97]⟩,.str ⟨#[51]⟩]],.sl .arg [[.str ⟨#[97]⟩]],.int .i64 0],[.int .i64 2,.int .u64 131072,.str ⟨#[]⟩,.sl .arg [],.sl .arg [],.int .i64 0]]=some (.sl k3 (LU.map eO),H3):=ha
 simp -implicitDefEqProofs only[op,ef,cl,sq,reduceIte,q5,q6,q7,q9,j1,j2,j3,j4,j5,S1,cr,Ov]
 refine ae _ _ _ _ _ _ _ _ (GQ k3 LU opx (by decide) (by decide) _) ?_
 rintro u H4⟨b2,F2,hu,LW⟩
 cases hu
 rw[G0]at LW
 have uM:Ext H3 H4:=eM LW.lg
 have e1:dU .ptr (.ptr b1.s 0) .b0=some false:=rfl
 have e2:dU .ptr (.ptr b2.s 0) .b0=some false:=rfl
 have a1:=(a1.ext pd).ext uM
 obtain⟨W1,Ph⟩:∃W1,W1=whole (body 1 [] []):=⟨_,rfl⟩
 have jw:W env (.call 10 [.int .i64 1,.ptr b1.s 0]) H4 (fun o H'=>Ext H4 H'∧∃k,k≠.nil∧o=.val (.bF [.sl k (W1.map eB),.int .i64 0])):=by
  rw[Ph];exact pZ a1 (by decide) (fun k n h=>by cases h) Ky G3 1 ⟨by decide,by decide⟩ (by decide)
 simp -implicitDefEqProofs only[op,ef,cl,sq,reduceIte,q5,q6,q7,q9,j1,j2,j3,j4,j5,S1,e1,e2]
 refine ae _ _ _ _ _ _ _ _ jw ?_
 rintro u H5⟨mZ,k5,_,hu⟩
 cases hu
 have mZ:Ext H4 H5:=mZ
 have lW:W1.length=25:=by rw[Ph];unfold whole;rw[List.length_append,bj,rE];rfl
 have bW:dR W1:=by rw[Ph];exact lR (ju _ _ _)
 have g0:W1[0]?=some 114:=by rw[Ph];unfold whole;rw[rE];rfl
 have g12:W1[12]?=some 1:=by rw[Ph];unfold whole;rw[rE];rfl
 have tW:W1.take 21=body 1 [] []:=by rw[Ph];unfold whole;exact List.take_left' (by rw[rE];rfl)
 have dW:W1.drop 21=dr 4 (iW (body 1 [] [])):=by rw[Ph];unfold whole;exact List.drop_left' (by rw[rE];rfl)
 have i0:dE 1 0 (.sl k5 (W1.map eB))=some (.cP [.int .u8 114]):=fx (e:=eB) (n:=1) (fun _=>rfl) (by decide) (k:=k5) g0
 have i12:dE 1 12 (.sl k5 (W1.map eB))=some (.cP [.int .u8 1]):=fx (e:=eB) (n:=1) (fun _=>rfl) (by decide) (k:=k5) g12
 have Kz:∀R Hx a,(X.r a).ev R=.sl k5 (W1.map eB)→al R Hx (.gp 1 (.r a) none (some (.c (.int .i64 21))) none)=some (.sl (k5.cut W1.length 0 21) ((W1.take 21).map eB),Hx):=fun R Hx a ha=>by
  have:=GG (Hx:=Hx) (lo:=none) (hi:=some (.c (.int .i64 21))) (a:=0) (b:=21) ha rfl rfl (by decide) (by omega)
  simpa using this
 have n0:cq (.int .i64 0)=some 0:=rfl
 have n1:cq (.int .i64 1)=some 1:=rfl
 have Zg:cq (.int .i64 12)=some 12:=rfl
 have XR:((25:Nat):Int)=25:=rfl
 simp -implicitDefEqProofs only[op,ef,cl,sq,reduceIte,q5,q6,q7,q9,j1,j2,j3,j4,j5,S1,List.length_map,lW,XR,n0,Zg,i0,i12,cV,↓Kz]
 refine ae _ _ _ _ _ _ _ _ (Cd k5 W1 bW (n:=21) lW (by omega) _) ?_
 rintro u H6⟨hu,rfl⟩
 cases hu
 rw[dW,Kx]
 simp -implicitDefEqProofs only[op,ef,cl,sq,reduceIte,q5,q6,q7,q9,j1,j2,j3,j4,j5,S1,↓Kz]
 rw[tW]
 refine ae _ _ _ _ _ _ _ _ (xC _ (body 1 [] []) (by rw[rE];decide) _) ?_
 rintro u H7⟨pj,hu⟩
 cases hu
 have pj:Ext H6 H7:=pj
 simp -implicitDefEqProofs only[op,ef,cl,sq,reduceIte,q5,q6,q7,q9,j1,j2,j3,j4,j5,S1,↓Kz]
 refine ae _ _ _ _ _ _ _ _ (LJ .arg (body 1 [] []) (ju _ _ _) (by rw[rE];decide) _) ?_
 rintro u H8⟨rJ,hu⟩
 cases hu
 have rJ:Ext H7 H8:=rJ
 simp -implicitDefEqProofs only[op,ef,cl,sq,reduceIte,q5,q6,q7,q9,j1,j2,j3,j4,j5,S1,↓Kz]
 have a2:ja H8 b2 aL F2 (cX LU):=((LW.at_.ext mZ).ext pj).ext rJ
 have hz:=aau
 obtain⟨K2,P1⟩:∃K2,K2=body 7 ([kA,kB].map (ig aL)) (aN.map (bO aL)):=⟨_,rfl⟩
 have a6:K2.length≤200000:=by rw[P1];exact Nat.le_trans (hz.body nW lS 7) (by decide)
 obtain⟨W2,VK⟩:∃W2,W2=whole K2:=⟨_,rfl⟩
 have lW2:W2.length=K2.length+4:=by rw[VK];unfold whole;rw[List.length_append,bj]
 have bW2:dR W2:=by rw[VK,P1];exact lR (ju _ _ _)
 have po:W env (.call 10 [.int .i64 7,.ptr b2.s 0]) H8 (fun o H'=>Ext H8 H'∧∃k,k≠.nil∧o=.val (.bF [.sl k (W2.map eB),.int .i64 0])):=by
  rw[VK,P1];exact pZ a2 (by decide) hz.w.L nW lS 7 ⟨by decide,by decide⟩ (by have:=a6;rw[P1]at this;exact Nat.le_trans this (by decide))
 refine ae _ _ _ _ _ _ _ _ po ?_
 rintro u H9⟨AB,k9,hk9,hu⟩
 cases hu
 have AB:Ext H8 H9:=AB
 simp -implicitDefEqProofs only[op,ef,cl,sq,reduceIte,q5,q6,q7,q9,j1,j2,j3,j4,j5,S1]
 refine ae _ _ _ _ _ _ _ _ (xC k9 W2 (by omega) _) ?_
 rintro u xp⟨ki,hu⟩
 cases hu
 have ki:Ext H9 xp:=ki
 have t9:bl 9:=⟨by decide,by decide⟩
 have S8:W env (.call 17 [.sl .arg (W2.map eB),.int .i64 9]) xp (fun o H'=>∃b F,o=.val (.bF [.int .i64 7,.ptr b.s 0,.int .i64 0])∧kr xp H' b (cg 9 aL) F aN.length):=by
  rw[VK,P1];exact rC hz nW lS (g:=7) (by decide) (by decide) t9 (by decide) (by decide) (by have:=a6;rw[P1]at this;omega) .arg (by simp) _
 simp -implicitDefEqProofs only[op,ef,cl,sq,reduceIte,q5,q6,q7,q9,j1,j2,j3,j4,j5,S1]
 refine ae _ _ _ _ _ _ _ _ S8 ?_
 rintro u xq⟨b3,F3,hu,CG⟩
 cases hu
 have uY:Ext xp xq:=eM CG.lg
 have e3:dU .ptr (.ptr b3.s 0) .b0=some false:=rfl
 simp -implicitDefEqProofs only[op,ef,cl,sq,reduceIte,q5,q6,q7,q9,j1,j2,j3,j4,j5,S1,e3]
 refine ae _ _ _ _ _ _ _ _ (tF CG.at_ (by decide)) ?_
 rintro u yW⟨gn,VF,l12,_,aav,_,hu⟩
 cases hu
 have gn:Ext xq yW:=gn
 have e12:=aav.uniq (jS (now:=9) nW)
 subst e12
 have eK:aN.map (TI (cg 9 aL))=[[.str kA,.int .u64 65536,.str w1,.sl .arg [[.str kA],[.str kB]],.int .i64 9],[.str kA,.int .u64 131072,.str w3,.sl .arg [[.str kA]],.int .i64 (-1)],[.str kB,.int .u64 65536,.str w2,.sl .arg [[.str kA],[.str kB]],.int .i64 (-1)]]:=by
  have:=congrArg (List.map js) (UH 9)
  rw[List.map_map]at this
  exact this
 rw[eK]
 have wl:IntKind.i64.wrap ((W2.length:Int)-1)=((W2.length-1:Nat):Int):=by rw[wrap64 (by omega)];omega
 have dG:=rq (k:=k9) (l:=W2) (n:=W2.length-1) (by omega)
 simp -implicitDefEqProofs only[op,ef,cl,sq,reduceIte,q5,q6,q7,q9,j1,j2,j3,j4,j5,S1,List.length_map,wl,↓dG]
 refine ae _ _ _ _ _ _ _ _ (xC _ (W2.take (W2.length-1)) (by rw[List.length_take];omega) _) ?_
 rintro u yX⟨l6,hu⟩
 cases hu
 have l6:Ext yW yX:=l6
 have hl3:(W2.take (W2.length-1)).length≤300000:=by rw[List.length_take];omega
 have Cu:dR (W2.take (W2.length-1)):=bW2.take _
 simp -implicitDefEqProofs only[op,ef,cl,sq,reduceIte,q5,q6,q7,q9,j1,j2,j3,j4,j5,S1]
 refine ae _ _ _ _ _ _ _ _ (GO .arg (W2.take (W2.length-1)) (fun h=>by cases h) Cu (by omega) (-1) (fun _ g L K h=>by
  have h1:=GZ (Cu.take _) h
  have h2:((W2.take (W2.length-1)).take ((W2.take (W2.length-1)).length-4)).length≤(W2.take (W2.length-1)).length:=by rw[List.length_take];omega
  omega) _) ?_
 rintro u CE hq
 have nt:¬bl (-1):=fun h=>by have:=h.1;omega
 rcases hq with⟨_,hu,yY⟩|⟨h,_⟩|⟨h,_⟩|⟨h,_⟩
 rotate_left
 ·exact absurd h nt
 ·exact absurd h nt
 ·exact absurd h nt
 cases hu
 have yY:Ext yX CE:=yY
 have l0:dE 5 0 (.sl VF [[.str kA,.int .u64 65536,.str w1,.sl .arg [[.str kA],[.str kB]],.int .i64 9],[.str kA,.int .u64 131072,.str w3,.sl .arg [[.str kA]],.int .i64 (-1)],[.str kB,.int .u64 65536,.str w2,.sl .arg [[.str kA],[.str kB]],.int .i64 (-1)]])=some (.cP [.str kA,.int .u64 65536,.str w1,.sl .arg [[.str kA],[.str kB]],.int .i64 9]):=li0 rfl
 have l1:dE 5 1 (.sl VF [[.str kA,.int .u64 65536,.str w1,.sl .arg [[.str kA],[.str kB]],.int .i64 9],[.str kA,.int .u64 131072,.str w3,.sl .arg [[.str kA]],.int .i64 (-1)],[.str kB,.int .u64 65536,.str w2,.sl .arg [[.str kA],[.str kB]],.int .i64 (-1)]])=some (.cP [.str kA,.int .u64 131072,.str w3,.sl .arg [[.str kA]],.int .i64 (-1)]):=Za rfl
 have e14:dU .ptr .b0 .b0=some true:=rfl
 have a3:ja CE b3 (cg 9 aL) F3 aN.length:=((CG.at_.ext gn).ext l6).ext yY
 have Pz:(w1=⟨#[49]⟩)=True:=eq_true rfl
 simp -implicitDefEqProofs only[op,ef,cl,sq,reduceIte,q5,q6,q7,q9,j1,j2,j3,j4,j5,S1,n0,n1,l0,l1,cV,Pz]
 refine ae _ _ _ _ _ _ _ _ (pY a3 (by decide) (hz.rest (now:=9) t9).w.L) ?_
 rintro u B5⟨yZ,k15,l15,_,aaw,_,hu⟩
 cases hu
 have yZ:Ext CE B5:=yZ
 have e15:=aaw.uniq (iM (now:=9) lS)
 subst e15
 have e1:dU .ptr .b0 .b0=some true:=rfl
 simp -implicitDefEqProofs only[op,ef,cl,sq,reduceIte,q5,q6,q7,q9,j1,j2,j3,j4,j5,S1,e14,List.map_cons,List.map_nil,List.length_cons,List.length_nil]
 exact x1.trans (pd.trans (uM.trans (mZ.trans (pj.trans (rJ.trans (AB.trans (ki.trans (uY.trans (gn.trans (l6.trans (yY.trans yZ)))))))))))
theorem Cf {a:Ab}(hw:tH a){N:List Nm}(hN:Names a N):∃ls,dv a ls∧ls.length≤N.length:=by
 refine⟨(N.filter fun m=>decide (a.l m.1=some m.2)).map (·.1),⟨List.pairwise_map.2 ?_,fun k=>?_⟩,by rw[List.length_map];exact List.length_filter_le _ _⟩
 ·refine(hN.1.filter fun m=>decide (a.l m.1=some m.2)).imp_of_mem fun {x y} hx hy h=>?_
  have h1:=of_decide_eq_true (List.mem_filter.1 hx).2
  have h2:=of_decide_eq_true (List.mem_filter.1 hy).2
  rcases(nN _ _).1 h with h|⟨h,h'⟩
  ·exact h
  ·rw[h,h2]at h1;have:=Option.some.inj h1;omega
 ·rw[List.mem_map]
  constructor
  ·rintro⟨m,hm,rfl⟩
   rw[of_decide_eq_true (List.mem_filter.1 hm).2];rfl
  ·intro h
   obtain⟨n,hn⟩:=Option.isSome_iff_exists.1 h
   exact⟨(k,n),List.mem_filter.2 ⟨(hN.2 _).2 (hw.L k n hn),decide_eq_true hn⟩,rfl⟩
theorem Pj (o:pA):2*o.fH.length≤bo o:=by unfold bo;have:=y6 o.fH;omega
theorem u9:∀l:List pA,2*cX l≤GU l
 | []=>Nat.le_refl _
 | o :: l=>by
  have h1:=u9 l
  have h2:=Pj o
  simp -implicitDefEqProofs only[cX,GU,List.map_cons,List.sum_cons]at h1 ⊢;omega
theorem UI (now:Int):∃nw:Nat,nw≤1099511627775∧IntKind.i64.wrap ((BitVec.ofInt IntKind.i64.bits now &&& BitVec.ofInt IntKind.i64.bits 1099511627775).toNat:Nat)=(nw:Int):=by
 have h1:(BitVec.ofInt IntKind.i64.bits now &&& BitVec.ofInt IntKind.i64.bits 1099511627775).toNat≤1099511627775:=by
  rw[BitVec.toNat_and]
  exact Nat.le_trans Nat.and_le_right (by decide)
 exact⟨_,h1,wrap64 (by omega)⟩
theorem Pk (gen:Int)(hg:gen<9223372036854775808)(h:¬gen<1):∃g:Nat,1≤g∧g≤9223372036854775807∧gen=(g:Int):=⟨gen.toNat,by omega,by omega,by omega⟩
theorem KA (gen:Int)(h:gen<1):∃g:Nat,1≤g∧g≤9223372036854775807∧IntKind.i64.wrap (1-gen.tmod 1000)=(g:Int):=by
 have h1:-999≤gen.tmod 1000:=by
  have:=Int.lt_tmod_of_pos gen (show(0:Int)<1000 by decide)
  omega
 have h2:gen.tmod 1000≤0:=by
  by_cases h0:gen=0
  ·subst h0;decide
  ·obtain⟨n,hn⟩:∃n:Nat,gen=-(n:Int):=⟨(-gen).toNat,by omega⟩
   rw[hn,Int.neg_tmod]
   have:0≤(n:Int).tmod 1000:=Int.tmod_nonneg _ (by omega)
   omega
 exact⟨(1-gen.tmod 1000).toNat,by omega,by omega,by rw[wrap64 (by omega)];omega⟩
theorem ve {now:Int}{a:Ab}{m:Nm}(h:a.has m=true):bO (cg now a) m={ bO a m with a9:=if m.2<a.last m.1 then now else -1 }:=by
 obtain⟨d,hd⟩:=Option.isSome_iff_exists.1 h
 have e:(cg now a).v m=some ⟨d.value,d.keys,if m.2<a.last m.1 then now else -1⟩:=by unfold cg;simp -implicitDefEqProofs only[hd,Option.map_some]
 unfold bO
 rw[e,hd];rfl
theorem tO {now:Int}{a:Ab}{N:List Nm}(hN:Names a N)(g:Nat)(L:List Nm):body g L (N.map (bO (cg now a)))=body g L (N.map (bO a)):=by
 unfold body
 rw[List.length_map,List.length_map]
 have:(N.map (bO (cg now a))).flatMap mo=(N.map (bO a)).flatMap mo:=by
  rw[List.flatMap_map,List.flatMap_map,List.flatMap_def,List.flatMap_def]
  refine congrArg List.flatten (List.map_congr_left fun m hm=>?_)
  rw[ve ((hN.2 m).1 hm)];rfl
 rw[this]
theorem VL {a:Ab}(N:List Nm):N.map (TI a)=(N.map (bO a)).map js:=by rw[List.map_map];rfl
theorem Cg {now:Int}{a:Ab}{N:List Nm}(hN:Names a N):∀(i:Nat) (x y:Kd),(N.map (bO a))[i]?=some x→(N.map (bO (cg now a)))[i]?=some y→G2 false x y:=fun i x y hx hy=>by
 rw[List.getElem?_map]at hx hy
 obtain⟨m,hm,rfl⟩:=Option.map_eq_some_iff.1 hx
 rw[hm]at hy
 cases hy
 rw[ve ((hN.2 m).1 (List.mem_of_getElem? hm))]
 exact⟨rfl,rfl,rfl,rfl,fun h=>by cases h⟩
theorem tP (l:List Kd):∀(i:Nat) (x y:Kd),l[i]?=some x→l[i]?=some y→G2 true x y:=fun i x y hx hy=>by
 rw[hx]at hy;cases hy;exact⟨rfl,rfl,rfl,rfl,fun _=>rfl⟩
set_option maxHeartbeats 8000000 in
theorem UJ (gen:Int)(hg:gen<9223372036854775808)(k:SK)(ops:List pA)(ho:∀o∈ops,xw o)(hb:GU ops≤1048576)(hl:ops.length≤8000000)(now:Int)(k2:SK)(more:List pA)(ho2:∀o∈more,xw o)(kb:GU more≤1048576)(V6:more.length≤8000000)(H:af) :
  W env (.call 7 [.int .i64 gen,.sl k (ops.map eO),.int .i64 now,.sl k2 (more.map eO)]) H (fun o _=>o=.val (.bool true)):=by
 have hp:=u9 ops
 have lV:=u9 more
 have hz:=hZ.emp.run ops ho
 obtain⟨a,ha⟩:∃a,a=gF Ab.emp ops:=⟨_,rfl⟩
 rw[←ha]at hz
 refine W.bR rfl rfl rfl ?_
 simp -implicitDefEqProofs only[WI,op,ef,cl,sq,reduceIte,q5,q6,q7,q9,j1,j2,j3,j4,j5,S1]
 refine ae _ _ _ _ _ _ _ _ (Pg _) ?_
 rintro u H1⟨hu,gw⟩
 cases hu
 have UK:((1000:Int)=0)=False:=by decide
 simp -implicitDefEqProofs only[op,ef,cl,sq,reduceIte,q5,q6,q7,q9,j1,j2,j3,j4,j5,S1]
 refine BF [(1,_),(2,_),(3,_),(9,_)] (fun R' H'=>H'=H1∧∃g:Nat,R' 0=.int .i64 g∧1≤g∧g≤9223372036854775807) ?_ ?_
 ·by_cases hc:gen<1
  ·obtain⟨g,h1,h2,h3⟩:=KA gen hc
   simp -implicitDefEqProofs only[op,ef,cl,sq,reduceIte,q5,q6,q7,q9,j1,j2,j3,j4,j5,S1,hc,UK,h3,z7]
   exact⟨g,rfl,h1,h2⟩
  ·obtain⟨g,h1,h2,rfl⟩:=Pk gen hg hc
   simp -implicitDefEqProofs only[op,ef,cl,sq,reduceIte,q5,q6,q7,q9,j1,j2,j3,j4,j5,S1,hc,z7]
   exact⟨g,rfl,h1,h2⟩
 rintro R0 H1'⟨rfl,g,g0,hg1,hg2⟩
 obtain⟨nw,hnw,han⟩:=UI now
 have ht:bl (nw:Int):=⟨by omega,by omega⟩
 simp -implicitDefEqProofs only[ak,ai,op,ef,cl,sq,reduceIte,q5,q6,q7,q9,j1,j2,j3,j4,j5,S1,g0,han]
 refine ae _ _ _ _ _ _ _ _ (GQ k ops ho (by omega) hl _) ?_
 rintro u H2⟨b1,F1,hu,Pa⟩
 cases hu
 rw[←ha]at Pa
 have e1:dU .ptr (.ptr b1.s 0) .b0=some false:=rfl
 have a1:=Pa.at_
 obtain⟨N,hN,hNl⟩:=a1.names
 obtain⟨ls,hL,Vu⟩:=Cf hz.w hN
 have a6:=hz.body hN hL g
 obtain⟨Bd,LX⟩:∃Bd,Bd=body g (ls.map (ig a)) (N.map (bO a)):=⟨_,rfl⟩
 have P0:dR (whole Bd):=by rw[LX];exact lR (ju _ _ _)
 have ug:Bd.length≤2147483647:=by rw[LX];omega
 have Cz:(whole Bd).length=Bd.length+4:=by unfold whole;rw[List.length_append,bj]
 have bld:∀{Hx:af},ja Hx b1 a F1 (cX ops)→W env (.call 10 [.int .i64 (g:Int),.ptr b1.s 0]) Hx (fun o H'=>Ext Hx H'∧∃k,k≠.nil∧o=.val (.bF [.sl k ((whole Bd).map eB),.int .i64 0])):=fun hx=>by
  rw[LX]
  exact pZ hx (by omega) hz.w.L hN hL (g:Int) ⟨by omega,by omega⟩ (by rw[Int.toNat_natCast,←LX];exact ug)
 have rdw:∀{Hx:af},W env (.call 17 [.sl .arg ((whole Bd).map eB),.int .i64 (nw:Int)]) Hx (fun o H'=>∃b F,o=.val (.bF [.int .i64 g,.ptr b.s 0,.int .i64 0])∧kr Hx H' b (cg nw a) F N.length):=by
  rw[LX]
  exact rC hz hN hL hg1 hg2 ht (by omega) (by omega) (by rw[←LX];exact ug) .arg (by simp) _
 have VM:=jS (now:=nw) hN
 have hLr:=iM (now:=nw) hL
 have Qz:=hz.rest ht
 have aax:∀{Hx:af} {F:Nat→Prop} {b:Bk},ja Hx b (cg nw a) F N.length→W env (.call 10 [.int .i64 (g:Int),.ptr b.s 0]) Hx (fun o H'=>Ext Hx H'∧∃k,k≠.nil∧o=.val (.bF [.sl k ((whole Bd).map eB),.int .i64 0])):=fun hx=>by
  rw[LX,←tO (now:=nw) hN]
  exact pZ hx (by omega) Qz.w.L VM hLr (g:Int) ⟨by omega,by omega⟩ (by
   show(body (g:Int).toNat (ls.map (ig a)) _).length≤_
   rw[Int.toNat_natCast,tO hN,←LX];exact ug)
 simp -implicitDefEqProofs only[op,ef,cl,sq,reduceIte,q5,q6,q7,q9,j1,j2,j3,j4,j5,S1,e1,g0]
 refine ae _ _ _ _ _ _ _ _ (bld a1) ?_
 rintro u H3⟨pd,k3,hk3,hu⟩
 cases hu
 have pd:Ext H2 H3:=pd
 simp -implicitDefEqProofs only[op,ef,cl,sq,reduceIte,q5,q6,q7,q9,j1,j2,j3,j4,j5,S1]
 refine ae _ _ _ _ _ _ _ _ (xC k3 (whole Bd) (by omega) _) ?_
 rintro u H4⟨uM,hu⟩
 cases hu
 have uM:Ext H3 H4:=uM
 simp -implicitDefEqProofs only[op,ef,cl,sq,reduceIte,q5,q6,q7,q9,j1,j2,j3,j4,j5,S1]
 refine ae _ _ _ _ _ _ _ _ rdw ?_
 rintro u H5⟨b2,F2,hu,LW⟩
 cases hu
 have mZ:Ext H4 H5:=eM LW.lg
 have a4:=(a1.ext pd).ext uM
 have e2:dU .ptr (.ptr b2.s 0) .b0=some false:=rfl
 simp -implicitDefEqProofs only[op,ef,cl,sq,reduceIte,q5,q6,q7,q9,j1,j2,j3,j4,j5,S1,e2,g0]
 refine ae _ _ _ _ _ _ _ _ (tF (a4.ext mZ) (by omega)) ?_
 rintro u H6⟨rf,k6,N6,_,hN6,_,hu⟩
 cases hu
 have rf:Ext H5 H6:=rf
 rw[hN6.uniq hN]
 simp -implicitDefEqProofs only[op,ef,cl,sq,reduceIte,q5,q6,q7,q9,j1,j2,j3,j4,j5,S1]
 refine ae _ _ _ _ _ _ _ _ (pY ((a4.ext mZ).ext rf) (by omega) hz.w.L) ?_
 rintro u H7⟨pj,k7,ls7,_,hL7,_,hu⟩
 cases hu
 have pj:Ext H6 H7:=pj
 rw[hL7.uniq hL]
 simp -implicitDefEqProofs only[op,ef,cl,sq,reduceIte,q5,q6,q7,q9,j1,j2,j3,j4,j5,S1]
 refine ae _ _ _ _ _ _ _ _ (tF ((LW.at_.ext rf).ext pj) (by omega)) ?_
 rintro u H8⟨rJ,k8,N8,_,hN8,_,hu⟩
 cases hu
 have rJ:Ext H7 H8:=rJ
 rw[hN8.uniq VM]
 rw[VL,VL]
 have afq:N.length≤1048576:=by omega
 have a8:ja H8 b2 (cg nw a) F2 N.length:=((LW.at_.ext rf).ext pj).ext rJ
 simp -implicitDefEqProofs only[op,ef,cl,sq,reduceIte,q5,q6,q7,q9,j1,j2,j3,j4,j5,S1]
 refine ae _ _ _ _ _ _ _ _ (y7 k6 k8 (N.map (bO a)) (N.map (bO (cg nw a))) false (by rw[List.length_map,List.length_map]) (by rw[List.length_map];omega) (Cg hN) (y8 hz hN) _) ?_
 rintro u H9⟨hu,AB⟩
 cases hu
 have AB:Ext H8 H9:=AB
 simp -implicitDefEqProofs only[op,ef,cl,sq,reduceIte,q5,q6,q7,q9,j1,j2,j3,j4,j5,S1]
 refine ae _ _ _ _ _ _ _ _ (pY (a8.ext AB) (by omega) Qz.w.L) ?_
 rintro u xp⟨ki,Wo,afr,_,aay,_,hu⟩
 cases hu
 have ki:Ext H9 xp:=ki
 rw[aay.uniq hLr]
 simp -implicitDefEqProofs only[op,ef,cl,sq,reduceIte,q5,q6,q7,q9,j1,j2,j3,j4,j5,S1]
 refine ae _ _ _ _ _ _ _ _ (Pf k7 Wo (ls.map (ig a)) (by rw[List.length_map];omega) _) ?_
 rintro u xq⟨hu,rfl⟩
 cases hu
 have a11:ja xq b2 (cg nw a) F2 N.length:=(a8.ext AB).ext ki
 simp -implicitDefEqProofs only[op,ef,cl,sq,reduceIte,q5,q6,q7,q9,j1,j2,j3,j4,j5,S1]
 refine W.fW 0 [(0,_),(2,_),(3,_),(10,_),(11,_),(14,_),(16,_),(18,_)] (fun (i:Nat) R H'=>At H' (fun H'=>Ext xq H')∧R 19=.int .i64 i∧i≤N.length) (fun i=>N.length-i) 0 (fun R H'=>At H' (fun H'=>Ext xq H')) ⟨.i Ext.rfl',rfl,Nat.zero_le _⟩ ?_ ?_
 ·rintro i R yW⟨gn,Gp,hi⟩
  have gn:Ext xq yW:=gn
  by_cases au:i<N.length
  rotate_left
  ·simp -implicitDefEqProofs only[ak,ai,op,ef,cl,sq,reduceIte,q5,q6,q7,q9,j1,j2,j3,j4,j5,S1,List.length_map,Gp,au,dq]
   exact .i gn
  obtain⟨m,hm⟩:=cj au
  have hx:(N.map (bO (cg nw a)))[i]?=some (bO (cg nw a) m):=by rw[List.getElem?_map,hm];rfl
  have Oj:=ve (now:=nw) ((hN.2 m).1 (List.mem_of_getElem? hm))
  have ix:dE 5 i (.sl k8 ((N.map (bO (cg nw a))).map js))=some (.cP [.str m.1,.int .u64 m.2,.str (bO a m).value,.sl .arg ((bO a m).keys.map eS),.int .i64 (if m.2<a.last m.1 then(nw:Int)else -1)]):=by
   have:=fx (e:=js) (n:=5) (fun _=>rfl) (by decide) (k:=k8) hx
   rw[Oj]at this
   exact this
  have l4:=aC (show i<9223372036854775807 by omega)
  simp -implicitDefEqProofs only[ak,ai,op,ef,cl,sq,reduceIte,q5,q6,q7,q9,j1,j2,j3,j4,j5,S1,List.length_map,Gp,au,aa,ix,cV]
  refine ae _ _ _ _ _ _ _ _ (TG m.1 (a11.ext gn)) ?_
  rintro u yX⟨hu,rfl⟩
  cases hu
  have el:(cg nw a).last m.1=a.last m.1:=rfl
  rw[el]
  by_cases hs:m.2<a.last m.1
  ·have eI:(m.2:Int)<((a.last m.1:Nat):Int):=by omega
   rw[if_pos hs]at ix
   simp -implicitDefEqProofs only[op,ef,cl,sq,reduceIte,q5,q6,q7,q9,j1,j2,j3,j4,j5,S1,Gp,eI,aa,ix,cV,l4]
   exact⟨i+1,by omega,.i gn,rfl,au⟩
  ·have eI:¬(m.2:Int)<((a.last m.1:Nat):Int):=by omega
   rw[if_neg hs]at ix
   simp -implicitDefEqProofs only[op,ef,cl,sq,reduceIte,q5,q6,q7,q9,j1,j2,j3,j4,j5,S1,Gp,eI,aa,ix,cV,l4]
   exact⟨i+1,by omega,.i gn,rfl,au⟩
 rintro R yW gn
 have gn:Ext xq yW:=gn
 simp -implicitDefEqProofs only[ak,ai,op,ef,cl,sq,reduceIte,q5,q6,q7,q9,j1,j2,j3,j4,j5,S1,g0]
 refine ae _ _ _ _ _ _ _ _ (aax (a11.ext gn)) ?_
 rintro u yX⟨l6,k13,aft,hu⟩
 cases hu
 have l6:Ext yW yX:=l6
 simp -implicitDefEqProofs only[op,ef,cl,sq,reduceIte,q5,q6,q7,q9,j1,j2,j3,j4,j5,S1]
 refine ae _ _ _ _ _ _ _ _ (GY k3 k13 (whole Bd) (whole Bd) P0 P0 _) ?_
 rintro u CE⟨hu,rfl⟩
 cases hu
 have UL:Ext H5 CE:=rf.trans (pj.trans (rJ.trans (AB.trans (ki.trans (gn.trans l6)))))
 have aaz:kr H4 CE b2 (cg nw a) F2 N.length:=LW.ext UL
 simp -implicitDefEqProofs only[op,ef,cl,sq,reduceIte,q5,q6,q7,q9,j1,j2,j3,j4,j5,S1]
 refine W.fW 2 [(0,_),(2,_),(3,_),(10,_),(11,_),(14,_),(16,_),(18,_)] (fun (i:Nat) R H'=>At H' (fun H'=>∃a' F',kr H4 H' b2 a' F' (N.length+cX (more.take i)))∧R 23=.int .i64 i∧i≤more.length) (fun i=>more.length-i) 0
  (fun R H'=>At H' (fun H'=>∃a' F',kr H4 H' b2 a' F' (N.length+cX more))) ⟨.i ⟨_,_,aaz⟩,rfl,Nat.zero_le _⟩ ?_ ?_
 ·rintro i R B5⟨⟨a',F',Ch⟩,g23,hi⟩
  by_cases au:i<more.length
  rotate_left
  ·have mA:i=more.length:=by omega
   subst mA
   rw[List.take_length]at Ch
   simp -implicitDefEqProofs only[ak,ai,op,ef,cl,sq,reduceIte,q5,q6,q7,q9,j1,j2,j3,j4,j5,S1,List.length_map,g23,au,dq]
   exact .i ⟨a',F',Ch⟩
  obtain⟨o,uq⟩:=cj au
  have oo:=ho2 o (List.mem_of_getElem? uq)
  have io:=fx (e:=eO) (n:=6) (fun _=>rfl) (by decide) (k:=k2) uq
  have l4:=aC (show i<9223372036854775807 by omega)
  have LQ:∀Hx,nZ Hx 6 (.cP (eO o))=some (eO o):=fun _=>rfl
  have FV:=xz more (i+1)
  have epl:cX (more.take (i+1))=cX (more.take i)+o.fH.length:=by rw[fj uq,xy]
  obtain⟨LY,KB⟩:∃LY,LY=B5++[B.cells (eO o)]:=⟨_,rfl⟩
  have G4:Ext B5 LY:=⟨_,KB⟩
  have d16:LY[B5.length]?=some (.cells (eO o)):=by rw[KB];exact aU rfl
  have hq:¬F' B5.length:=fun h=>by have:=(Ch.new _ h).2;omega
  have aaB:=Ch.ext G4
  simp -implicitDefEqProofs only[eO]at KB d16 LQ io
  simp -implicitDefEqProofs only[ak,ai,op,ef,cl,sq,reduceIte,q5,q6,q7,q9,j1,j2,j3,j4,j5,S1,List.length_map,g23,au,aa,io,LQ,S2]
  rw[←KB]
  have GR:=all_map (enc:=eP) (n:=2) (fun _=>rfl) o.fH
  have GS:=all_map (enc:=eS) (n:=1) (fun _=>rfl) o.keys
  obtain⟨kp,VN,aaC,Ci,_,qU⟩:=jt (H:=LY) (bytes:=32) (o.fH.map eP) (jn (by simp -implicitDefEqProofs only[List.length_map];have:=oo.2.2.1;omega)) xA
  obtain⟨kq,H18,aaD,KC,_,hkq⟩:=jt (H:=VN) (bytes:=16) (o.keys.map eS) (jn (by simp -implicitDefEqProofs only[List.length_map];have:=oo.2.1;omega)) xB
  have d17:=Ci.get d16
  have d18:=KC.get d17
  have aaE:=(aaB.ext Ci).ext KC
  simp -implicitDefEqProofs only[op,ef,cl,sq,reduceIte,q5,q6,q7,q9,j1,j2,j3,j4,j5,S1,d16,d17,d18,GR,GS,aaC,aaD]
  refine ae _ _ _ _ _ _ _ _ (Uq o.id kp kq o.fH o.keys o.now aaE (by omega) (by have:=oo.2.1;omega) (fun h=>absurd h hkq)) ?_
  rintro u H19⟨⟨t,hu⟩,F19,aaF,f19,Gp⟩
  cases hu
  have d19:=f19.get d18 hq
  have aaG:¬F19 B5.length:=fun h=>by
   rcases Gp _ h with h|h
   ·exact hq h
   ·have:=aW d18;omega
  simp -implicitDefEqProofs only[op,ef,cl,sq,reduceIte,q5,q6,q7,q9,j1,j2,j3,j4,j5,S1,d19]
  refine ae _ _ _ _ _ _ _ _ (Ur o.id o.now aaF (by omega)) ?_
  rintro u H20⟨⟨t,hu⟩,F20,aaI,f20,g20⟩
  cases hu
  have d20:=f20.get d19 aaG
  simp -implicitDefEqProofs only[op,ef,cl,sq,reduceIte,q5,q6,q7,q9,j1,j2,j3,j4,j5,S1,d20]
  refine ae _ _ _ _ _ _ _ _ (Us o.key o.id aaI (by omega)) ?_
  rintro u H21⟨⟨t,hu⟩,F21,aaJ,f21,g21⟩
  cases hu
  simp -implicitDefEqProofs only[op,ef,cl,sq,reduceIte,q5,q6,q7,q9,j1,j2,j3,j4,j5,S1,g23,l4]
  exact⟨i+1,by omega,.i ⟨_,F21,aaJ.le (by omega)⟩,rfl,au⟩
 rintro R B5⟨a',F',Ch⟩
 have yZ:Ext H4 B5:=eM Ch.lg
 have a15:ja B5 b1 a F1 (cX ops):=a4.ext yZ
 simp -implicitDefEqProofs only[ak,ai,op,ef,cl,sq,reduceIte,q5,q6,q7,q9,j1,j2,j3,j4,j5,S1,g0]
 refine ae _ _ _ _ _ _ _ _ (bld a15) ?_
 rintro u LY⟨G4,k16,afx,hu⟩
 cases hu
 have G4:Ext B5 LY:=G4
 simp -implicitDefEqProofs only[op,ef,cl,sq,reduceIte,q5,q6,q7,q9,j1,j2,j3,j4,j5,S1]
 refine ae _ _ _ _ _ _ _ _ (xC k3 (whole Bd) (by omega) _) ?_
 rintro u VN⟨Ci,hu⟩
 cases hu
 have Ci:Ext LY VN:=Ci
 simp -implicitDefEqProofs only[op,ef,cl,sq,reduceIte,q5,q6,q7,q9,j1,j2,j3,j4,j5,S1]
 refine ae _ _ _ _ _ _ _ _ rdw ?_
 rintro u H18⟨b3,F3,hu,CG⟩
 cases hu
 have KC:Ext VN H18:=eM CG.lg
 have e3:dU .ptr (.ptr b3.s 0) .b0=some false:=rfl
 simp -implicitDefEqProofs only[op,ef,cl,sq,reduceIte,q5,q6,q7,q9,j1,j2,j3,j4,j5,S1,e3]
 refine ae _ _ _ _ _ _ _ _ (GY k3 k16 (whole Bd) (whole Bd) P0 P0 _) ?_
 rintro u H19⟨hu,rfl⟩
 cases hu
 simp -implicitDefEqProofs only[op,ef,cl,sq,reduceIte,q5,q6,q7,q9,j1,j2,j3,j4,j5,S1,e3]
 refine ae _ _ _ _ _ _ _ _ (tF (((a15.ext G4).ext Ci).ext KC) (by omega)) ?_
 rintro u H20⟨Pl,k20,afz,_,aaK,_,hu⟩
 cases hu
 have Pl:Ext H19 H20:=Pl
 rw[aaK.uniq hN]
 rw[VL]
 simp -implicitDefEqProofs only[op,ef,cl,sq,reduceIte,q5,q6,q7,q9,j1,j2,j3,j4,j5,S1,e3]
 refine ae _ _ _ _ _ _ _ _ (y7 k6 k20 (N.map (bO a)) (N.map (bO a)) true rfl (by rw[List.length_map];omega) (tP _) (y8 hz hN) _) ?_
 rintro u H21⟨hu,Pm⟩
 cases hu
 have Pm:Ext H20 H21:=Pm
 simp -implicitDefEqProofs only[op,ef,cl,sq,reduceIte,q5,q6,q7,q9,j1,j2,j3,j4,j5,S1,e3]
 refine ae _ _ _ _ _ _ _ _ (tF ((CG.at_.ext Pl).ext Pm) (by omega)) ?_
 rintro u H22⟨afA,k22,afC,_,aaL,_,hu⟩
 cases hu
 rw[aaL.uniq VM]
 rw[VL]
 simp -implicitDefEqProofs only[op,ef,cl,sq,reduceIte,q5,q6,q7,q9,j1,j2,j3,j4,j5,S1,e3]
 refine ae _ _ _ _ _ _ _ _ (y7 k8 k22 (N.map (bO (cg nw a))) (N.map (bO (cg nw a))) true rfl (by rw[List.length_map];omega) (tP _) (y8 Qz VM) _) ?_
 rintro u H23⟨hu,xg⟩
 cases hu
 simp -implicitDefEqProofs only[op,ef,cl,sq,reduceIte,q5,q6,q7,q9,j1,j2,j3,j4,j5,S1,e3]
end Go.Proofs.YtdcpehdijdllpaaGreat.St
end

section
namespace Go.Proofs.YtdcpehdijdllpaaGreat
open Go.ChangeShapes Go.WideShapes Go.ChangeAt Go.RowKit
namespace Law
theorem own:ownKnob Tryz.prog.godebug=none:=by kernel_rfl
theorem kids:Kids Tryz.prog (·<Tryz.prog.types.size):=kids_rows (by kernel_rfl) (by kernel_rfl)
noncomputable def hzB:Bool:=(List.range Tryz.prog.types.size).all fun t=>match Tryz.prog.underlying t with
 | some (.slice e)=>decide (0<Tryz.prog.cellsOf e)
 | _=>true
theorem Pn:hzB=true:=by kernel_rfl
theorem hz:∀t e,t<Tryz.prog.types.size→Tryz.prog.underlying t=some (.slice e)→0<Tryz.prog.cellsOf e:=fun t e ht h=>by
 have:=(List.all_eq_true.1 Pn) t (List.mem_range.2 ht)
 rw[h]at this
 simpa using this
mutual
theorem p0 {H:Type}:∀d:DataW H,Go.Rmp.bV d=Rows.uptoBulk d
 | .lit l=>by cases l<;>simp[Go.Rmp.bV,Rows.uptoBulk]
 | .nil=>by simp[Go.Rmp.bV,Rows.uptoBulk]
 | .ptr d=>by simp[Go.Rmp.bV,Rows.uptoBulk,p0 d]
 | .slice elems spare=>by simp[Go.Rmp.bV,Rows.uptoBulk,lk elems,lk spare]
 | .agg parts=>by simp[Go.Rmp.bV,Rows.uptoBulk,lk parts]
 | .iface _ d=>by simp[Go.Rmp.bV,Rows.uptoBulk,p0 d]
 | .map entries=>by simp[Go.Rmp.bV,Rows.uptoBulk,xD entries]
 | .held _=>by simp[Go.Rmp.bV,Rows.uptoBulk]
theorem lk {H:Type}:∀l:List (DataW H),Go.Rmp.bQ l=Rows.uptoBulkAll l
 | []=>by simp[Go.Rmp.bQ,Rows.uptoBulkAll]
 | d :: r=>by simp[Go.Rmp.bQ,Rows.uptoBulkAll,p0 d,lk r]
theorem xD {H:Type}:∀l:List (Lit×DataW H),Go.Rmp.fu l=Rows.uptoBulkEntries l
 | []=>by simp[Go.Rmp.fu,Rows.uptoBulkEntries]
 | x :: r=>by simp[Go.Rmp.fu,Rows.uptoBulkEntries,Cj x,xD r]
theorem Cj {H:Type}:∀x:Lit×DataW H,Go.Rmp.mF x=Rows.uptoBulkEntry x
 | (l,d)=>by cases l<;>simp[Go.Rmp.mF,Rows.uptoBulkEntry,p0 d]
end
theorem KD {H:Type}{ds:List (DataW H)}(h:Rows.uptoSmall H ds=true):Go.Rmp.bQ ds≤1048576:=by
 rw[lk];simpa[Rows.uptoSmall]using h
theorem KE {B:Nat}{t:Go.Rmp.T}(h:Go.Rmp.eu B .str t):∃s,t=.str s∧s.size≤B:=by
 cases h with|str h hB=>exact⟨_,rfl,hB⟩
theorem KF {B:Nat}{t:Go.Rmp.T}(h:Go.Rmp.eu B (.int .i64) t):∃n:Int,t=.int .i64 n∧-9223372036854775808≤n∧n<9223372036854775808:=by
 cases h with|int h =>
  rename_i n
  exact⟨n,rfl,by simp -implicitDefEqProofs only[Lit.wf,IntKind.min,IntKind.max,IntKind.signed,IntKind.bits]at h;simp at h;omega⟩
theorem aaM {B:Nat}{t:Go.Rmp.T}(h:Go.Rmp.eu B (.int .u64) t):∃n:Nat,t=.int .u64 n∧n<18446744073709551616:=by
 cases h with|int h =>
  rename_i n
  simp -implicitDefEqProofs only[Lit.wf,IntKind.min,IntKind.max,IntKind.signed,IntKind.bits]at h
  simp at h
  exact⟨n.toNat,by congr 1;omega,by omega⟩
end Law
namespace St
open Go.Rmp
theorem y9 {α:Type}{P:α→Prop}(enc:α→List T)(es:List (List T))(h:∀c∈es,∃x,c=enc x∧P x):∃l:List α,es=l.map enc∧∀x∈l,P x:=by
 induction es with
 | nil=>exact⟨[],rfl,by simp⟩
 | cons c es ih =>
  obtain⟨l,rfl,hl⟩:=ih (fun c hc=>h c (List.mem_cons_of_mem _ hc))
  obtain⟨x,rfl,hx⟩:=h _ List.mem_cons_self
  exact⟨x :: l,rfl,fun y hy=>by rcases List.mem_cons.1 hy with rfl|hy;exact hx;exact hl y hy⟩
theorem UM {B:Nat}{t:T}(h:eu B (.sl [.str]) t):∃k l,t=.sl k (List.map eS l)∧gz k l∧l.length≤B:=by
 cases h with
 | nil=>exact⟨.nil,[],rfl,fun _=>rfl,Nat.zero_le _⟩
 | sl hl hB h0 h =>
  rename_i es
  obtain⟨l,rfl,_⟩:=y9 (P:=fun _=>True) eS es fun c hc=>by
   have jw:=h0 c hc
   match c,jw with
   | [a],_=>obtain⟨s,rfl,_⟩:=Law.KE (h _ hc 0 .str a rfl rfl);exact⟨s,rfl,trivial⟩
  exact⟨.arg,l,rfl,fun h=>(by cases h),by simpa using hB⟩
theorem UN {B:Nat}{t:T}(h:eu B (.sl [.str,.str]) t):∃(k:SK) (l:List (ByteArray×ByteArray)),t=.sl k (l.map eP)∧l.length≤B:=by
 cases h with
 | nil=>exact⟨.nil,[],rfl,Nat.zero_le _⟩
 | sl hl hB h0 h =>
  rename_i es
  obtain⟨l,rfl,_⟩:=y9 (P:=fun _=>True) eP es fun c hc=>by
   have jw:=h0 c hc
   match c,jw with
   | [a,b],_ =>
    obtain⟨s,rfl,_⟩:=Law.KE (h _ hc 0 .str a rfl rfl)
    obtain⟨s',rfl,_⟩:=Law.KE (h _ hc 1 .str b rfl rfl)
    exact⟨(s,s'),rfl,trivial⟩
  exact⟨.arg,l,rfl,by simpa using hB⟩
theorem LZ {t:T}(h:eu 1048576 (.sl [.int .i64,.int .u64,.str,.sl [.str,.str],.sl [.str],.int .i64]) t):∃(k:SK) (l:List pA),t=.sl k (l.map eO)∧l.length≤1048576∧∀o∈l,xw o:=by
 cases h with
 | nil=>exact⟨.nil,[],rfl,Nat.zero_le _,by simp⟩
 | sl hl hB h0 h =>
  rename_i es
  obtain⟨l,rfl,hP⟩:=y9 (P:=fun o:pA=>xw o) eO es fun c hc=>by
   have jw:=h0 c hc
   match c,jw with
   | [a,b,c,d,e,f],_ =>
    obtain⟨z,rfl,_⟩:=Law.KF (h _ hc 0 (.int .i64) a rfl rfl)
    obtain⟨n,rfl,hn⟩:=Law.aaM (h _ hc 1 (.int .u64) b rfl rfl)
    obtain⟨s,rfl,_⟩:=Law.KE (h _ hc 2 .str c rfl rfl)
    obtain⟨k,l,rfl,xG⟩:=UN (h _ hc 3 (.sl [.str,.str]) d rfl rfl)
    obtain⟨k',l',rfl,hk,hl⟩:=UM (h _ hc 4 (.sl [.str]) e rfl rfl)
    obtain⟨z',rfl,_⟩:=Law.KF (h _ hc 5 (.int .i64) f rfl rfl)
    exact⟨⟨z,n,s,k,l,k',l',z'⟩,rfl,hk,hl,xG,hn⟩
  exact⟨.arg,l,rfl,by simpa using hB,hP⟩
theorem za:∀l:List pA,GU l≤Cw (l.map eO)
 | []=>Nat.zero_le _
 | o :: l=>by
  have h1:=za l
  have h2:∀ps:List (ByteArray×ByteArray),(ps.map fun p=>p.1.size+p.2.size+2).sum≤Cw (ps.map eP):=fun ps=>by
   induction ps with
   | nil=>exact Nat.zero_le _
   | cons p ps ih=>simp -implicitDefEqProofs only[List.map_cons,List.sum_cons,Cw,eP,oG,T.bk];omega
  have h3:=h2 o.fH
  have h4:∀ks:List ByteArray,(ks.map fun k=>k.size+1).sum≤Cw (ks.map eS):=fun ks=>by
   induction ks with
   | nil=>exact Nat.zero_le _
   | cons p ps ih=>simp -implicitDefEqProofs only[List.map_cons,List.sum_cons,Cw,eS,oG,T.bk];omega
  have h5:=h4 o.keys
  have e:GU (o :: l)=bo o+GU l:=by simp[GU]
  rw[e]
  unfold bo
  simp -implicitDefEqProofs only[List.map_cons,Cw,eO,oG,T.bk]
  omega
end St
namespace Law
theorem zb (PE:List Go.Rmp.T)(hs:Go.Rmp.oI 1048576 [.int .i64,Go.Rmp.Sh.sl [.int .i64,.int .u64,.str,.sl [.str,.str],.sl [.str],.int .i64],.int .i64,Go.Rmp.Sh.sl [.int .i64,.int .u64,.str,.sl [.str,.str],.sl [.str],.int .i64]] PE)(hb:Go.Rmp.oG PE≤1048576):Go.Rmp.W Ir.env (.call 7 PE) [] (fun o _=>o=.val (.bool true)):=by
 cases hs with|cons h1 hs =>
 cases hs with|cons h2 hs =>
 cases hs with|cons h3 hs =>
 cases hs with|cons h4 hs =>
 cases hs
 obtain⟨g,rfl,_,hg⟩:=KF h1
 obtain⟨k,l,rfl,n1,n2⟩:=St.LZ h2
 obtain⟨w,rfl,_,_⟩:=KF h3
 obtain⟨k',l',rfl,m1,m2⟩:=St.LZ h4
 have:=St.za l
 have:=St.za l'
 simp -implicitDefEqProofs only[Go.Rmp.oG,Go.Rmp.T.bk]at hb
 exact St.UJ g hg k l n2 (by omega) (by omega) w k' l' m2 (by omega) (by omega) []
theorem xE (H:Type):∀ds:List (DataW H),ds.length=Tryz.f7.params.toList.length→Rows.snapBackSpec.fn H ds={ results:=[.lit (.bool true)],args:=ds }:=by
 have hn:Tryz.f7.params.toList.length=4:=by kernel_rfl
 rw[hn]
 intro ds zz
 cases ds with|nil=>simp at zz|cons d0 ds =>
 cases ds with|nil=>simp at zz|cons d1 ds =>
 cases ds with|nil=>simp at zz|cons d2 ds =>
 cases ds with|nil=>simp at zz|cons d3 ds =>
 cases ds with|cons=>simp at zz|nil =>
 rfl
set_option maxRecDepth 100000 in
theorem pB (os:Os)(started:os.Started)(H:Type)(enc:TypeId×Value→H)(F:Stop.Interp) :
  ReturnsInHanded {} Tryz.checked os 7 .any ((Rows.OpenSpec.upto Rows.snapBackSpec).pre6 enc Tryz.prog Tryz.f7 Rows.snapBackUptoRow.domain false) (((Rows.OpenSpec.upto Rows.snapBackSpec).at F).post enc Tryz.prog Tryz.f7 false true false false):=by
 refine returnsInHanded_of_cond (C:=Tryz.checked) (s:=Rows.OpenSpec.upto Rows.snapBackSpec) (k:=Rows.uptoSmall) rfl own started (by kernel_rfl) Tryz.func7
  (OpenSpec.witness (enc:=enc) (C:=Tryz.checked) (s:=Rows.OpenSpec.upto Rows.snapBackSpec) (k:=Rows.uptoSmall) rfl false ⟨#[],#[.int .i64 0,.slice .none 0 0,.int .i64 0,.slice .none 0 0],[]⟩ 8 (by kernel_rfl) (by kernel_rfl) (by kernel_rfl)
   (x:=([.lit (.int .i64 0),.nil,.lit (.int .i64 0),.nil],[],[])) (by kernel_rfl) rfl (by kernel_rfl)) ?_
 intro W base args ds gs before BB hW _ hk _
 exact Go.Rmp.sb (s:=Rows.snapBackSpec) (Ja:=[.int .i64,Go.Rmp.Sh.sl [.int .i64,.int .u64,.str,.sl [.str,.str],.sl [.str],.int .i64],.int .i64,Go.Rmp.Sh.sl [.int .i64,.int .u64,.str,.sl [.str,.str],.sl [.str],.int .i64]]) (B:=1048576) (tb:=Tryz.f7.resultTypes[0]!) Ir.So kids hz (by kernel_rfl) (by intro t ht;exact of_decide_eq_true ((List.all_eq_true.1 (show Tryz.f7.params.toList.all (fun t=>decide (t<Tryz.prog.types.size))=true by kernel_rfl)) t ht)) (by kernel_rfl) (by kernel_rfl) rfl (xE H) zb base args ds gs before BB hW (KD hk)
theorem su:Rows.snapBackUptoRow.holds Tryz.pinned (Rows.OpenSpec.upto Rows.snapBackSpec) :=
 OpenClaim.holds_of_cond 7 Tryz.f7 rfl rfl rfl rfl rfl rfl rfl ⟨rfl,rfl,rfl,rfl,rfl⟩ rfl rfl rfl rfl rfl (by kernel_rfl) Tryz.func7 (by kernel_rfl)
  (of_decide_eq_true (by kernel_rfl)) (by unfold Func.isWrapper;first|(rw[if_pos (by decide +kernel)];kernel_rfl)|(rw[if_neg (by decide +kernel)];exact⟨rfl,rfl⟩))
  (fun os started H enc _ F=>pB os started H enc F)
theorem snapBack_proved:Rows.SnapBackUptoSaid:=su
end Law
end Go.Proofs.YtdcpehdijdllpaaGreat
end
