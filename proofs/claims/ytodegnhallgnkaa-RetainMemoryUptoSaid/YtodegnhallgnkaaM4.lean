/- Part of a proof of a law of this seat: the machine of plain values, its simulation, and the contracts of the functions that the law reaches. Conditions: none beyond the given row. -/
import Derived.Test.YtodegnhallgnkaaM3
import Derived.Test.YtodegnhallgnkaaRows
import Derived.WalkKit
import Derived.ProofKit
import Derived.OpenShut
import Derived.JoinedCond
import Derived.ChangeBears
open Int renaming reduceLT → q1, reduceLE → q2, reduceBEq → q3, reduceBNe → q4, reduceEq → q6
open Nat renaming reduceAdd → q8, reduceLeDiff → j1, reduceLT → j2, reduceEqDiff → j3
set_option linter.unusedSimpArgs false
set_option linter.unusedVariables false
set_option linter.unnecessarySimpa false
set_option maxHeartbeats 4000000
section
namespace Go.Proofs.Ytodegnhallgnkaa.St
open Go.Rmp Go.Proofs.Ytodegnhallgnkaa.Ir
set_option maxRecDepth 10000
theorem xQ {α:Type}{enc:α→List T}{n n0:Nat}(hn:∀x,(enc x).length=n){H:ae}{t:T}{l:List α}(h:dM enc n n0 H t l):aP H n t=some (l.map enc):=by
 rcases h with⟨rfl,rfl⟩|⟨b,rfl,hb,_⟩
 ·rfl
 ·have:=(ea hn hb 0 l.length l.length 0 (by omega)).1
  simp -implicitDefEqProofs only[Nat.zero_mul,List.drop_zero,List.take_length,eL,hb]at this
  simp -implicitDefEqProofs only[aP,hb];exact this
theorem rb {H:ae}{t:T}{l:List Nm}{n0:Nat}(h:dM eW 2 n0 H t l):t.cells?=some [t]:=by
 rcases h with⟨_,e⟩|⟨c',e,_⟩<;>rw[e]<;>rfl
theorem re {H:ae}{t:T}{l:List Nm}{n0 c:Nat}(h:dM eW 2 n0 H t l)(hc:tb t=some c):n0≤c∧c<H.length:=by
 rcases h with⟨_,e⟩|⟨c',e,h1,h2⟩
 ·rw[e]at hc;cases hc
 ·rw[e]at hc;cases hc;exact⟨h2,a6 h1⟩
theorem E3.get {H:ae}{t:T}{l:List Nm}(h:E3 H t l){i:Nat}{x:Nm}(hx:l[i]?=some x):∃c,H[c]?=some (.fz (aJ eW l))∧ew 2 i t=some (.ptr c (i*2))∧mE 1 (i*2+0) (some (.fz (aJ eW l)))=some [.str x.1]:=by
 have hi:=(List.getElem?_eq_some_iff.1 hx).1
 rcases h with⟨rfl,_⟩|⟨c,rfl,hc⟩
 ·simp at hi
 ·refine⟨c,hc,by rw[ie];simp[hi],?_⟩
  have:=g9 (enc:=eW) (n:=2) (fun _=>rfl) hx 0 1 (by decide)
  rw[F7]
  exact this
theorem LS (C0:C)(hC:ig Dh.body 8=some (.loop C0)){H:ae}{b:Bk}{a:Ab}{F:Nat→Prop}{m L:Nat}{ts:Nat→T}{D:List Nm}{Q:Nat→List Nm}{t:T}{R:aj}(hd:D.length≤8000000)
  (h:Ls H b a F m L ts 3 Q) (ht:dM eW 2 0 H t D) (hF:∀c,tb t=some c→¬F c∧c≠L∧∀j,j<3→tb (ts j)≠some c) (Vh:R 19=t) (Vi:R 24=.int .i64 0) :
  W env (.code (.loop C0) R) H (vO 8 (fun _ H'=>Ls H' b a F m L ts 3 Q)):=by
 simp[Dh,ig,sq]at hC
 subst hC
 obtain⟨f,hf⟩:∃f:Nm→Nm,f=fun _=>(⟨#[111,118,101,114]⟩,0):=⟨_,rfl⟩
 refine W.fZ [(19,t)] (fun (k:Nat) R H'=>At H' (fun H'=>Ls H' b a F m L ts 3 Q∧dM eW 2 0 H' t (dp f D k))∧R 24=.int .i64 k∧k≤D.length) (fun k=>D.length-k) 0 ⟨.i ⟨h,by rw[qY];exact ht⟩,Vi,Nat.zero_le _⟩ ?_ ⟨Vh,trivial⟩
 rintro k R H1⟨h1,RY,hk⟩
 obtain⟨h1,hm⟩:Ls H1 b a F m L ts 3 Q∧dM eW 2 0 H1 t (dp f D k):=h1
 have hlen:=hU hm
 rw[fw]at hlen
 by_cases jv:k<D.length
 ·obtain⟨x,hx⟩:=cF jv
  have Ii:=aF (show k<9223372036854775807 by omega)
  have LU:=jw (f:=f) hx
  obtain⟨c,hc,ix,_⟩:=pZ (enc:=eW) (n:=2) (fun _=>rfl) (by decide) hm LU
  have cn:=jr (enc:=eW) (n:=2) (fun _=>rfl) (y:=f x) LU H1 c [.str ⟨#[111,118,101,114]⟩,.int .u64 0] 0 (by decide) (by rw[hf];rfl)
  simp -implicitDefEqProofs only[Nat.add_zero]at cn
  have DU:=Bt hm LU ix
  obtain⟨NF,Ea,Vj⟩:=hF c DU
  rw[qc hx]at cn
  have aG:bO (fun x=>x=c) H1 (H1.set c (.cells (aJ eW (dp f D (k+1))))):=(bO.refl (fun x=>x=c) H1).set (.inl rfl) _
  have h2:=h1.go (h1.at_.Bd (.cells (aJ eW (dp f D (k+1)))) NF) aG (fun e=>Ea e.symm) (fun j c' hj eB e=>Vj j hj (e▸eB))
  have FQ:dM eW 2 0 (H1.set c (.cells (aJ eW (dp f D (k+1))))) t (dp f D (k+1)):=by
   rcases hm with⟨e,_⟩|⟨c',e,eB,_⟩
   ·rw[e]at LU;cases LU
   ·rw[e]at DU;cases DU
    exact .inr ⟨c,by rw[e,fw,fw],cK (a6 hc),Nat.zero_le _⟩
  simp -implicitDefEqProofs only[ar,ak,op,ef,cl,sq,reduceIte,q1,q2,q3,q4,q6,q8,j1,j2,j3,S1,RY,aa,hlen,jv,ix,hc,cn,Ii]
  exact⟨k+1,by omega,.i ⟨h2,FQ⟩,rfl,by omega⟩
 ·simp -implicitDefEqProofs only[ar,ak,op,ef,cl,sq,reduceIte,q1,q2,q3,q4,q6,q8,j1,j2,j3,S1,RY,hlen,jv]
  exact⟨rfl,h1⟩
set_option maxHeartbeats 2000000 in
theorem DX (k0:SK)(l:List mZ)(hl:l.length≤1048576)(ho:∀o∈l,I8 o)(H:ae):W env (.call 3 [.sl k0 (l.map eO)]) H (fun o _=>o=.val (.bool true)):=by
 have RZ:=wh l hl l.length (Nat.le_refl _)
 have hS:=RU l hl l.length (Nat.le_refl _)
 rw[List.take_length]at RZ hS
 obtain⟨A,hA⟩:∃A,A=(xM l).1:=⟨_,rfl⟩
 obtain⟨mJ,Ij⟩:∃now,now=(xM l).2:=⟨_,rfl⟩
 have mQ:0≤mJ∧mJ≤7*1048576:=by
  have:=RZ.t;rw[←Ij]at this;omega
 rw[←hA,←Ij]at hS
 have DY:qb 1:=⟨by omega,by omega⟩
 have QC:qb 2:=⟨by omega,by omega⟩
 have tok:cM (mJ+40):=⟨by omega,by omega⟩
 have w3:IntKind.i64.wrap (mJ+40)=mJ+40:=by rw[wrap64 (by omega)]
 refine W.cJ rfl rfl rfl ?_
 simp -implicitDefEqProofs only[Dh,op,ef,cl,sq,reduceIte,q1,q2,q3,q4,q6,q8,j1,j2,j3,S1]
 refine af _ _ _ _ _ _ _ _ (Ic _) ?_
 rintro u H0⟨hu,D6⟩
 cases hu
 simp -implicitDefEqProofs only[op,ef,cl,sq,reduceIte,q1,q2,q3,q4,q6,q8,j1,j2,j3,S1]
 refine af _ _ _ _ _ _ _ _ (Ib k0 l hl ho _) ?_
 rintro u H1⟨nH,b,F,hu,v1,nF⟩
 cases hu
 rw[←hA]at v1
 rw[←Ij]
 simp -implicitDefEqProofs only[op,ef,cl,sq,reduceIte,q1,q2,q3,q4,q6,q8,j1,j2,j3,S1,eV,dS,w3]
 refine af _ _ _ _ _ _ _ _ (Bm (mJ+40) 1 v1 (by decide) tok DY) ?_
 rintro u H2⟨x2,t5,l0,m5,z5,N0,yq,hu⟩
 have v2:=v1.ext x2
 obtain⟨D,hD⟩:∃D,D=dN A (mJ+40) 1 l0:=⟨_,rfl⟩
 have Qm:=oC A (mJ+40) 1 l0
 have R9:=Ie hS N0 mQ.1
 rw[←hD]at m5 z5 Qm R9
 have q5:=fun c (hc:tb t5=some c)=>re m5 hc
 cases hu
 simp -implicitDefEqProofs only[op,ef,cl,sq,reduceIte,q1,q2,q3,q4,q6,q8,j1,j2,j3,S1,w3]
 refine af _ _ _ _ _ _ _ _ (Bm (mJ+40) 2 v2 (by decide) tok QC) ?_
 rintro u H3⟨x3,t7,l3,m7,z7,N3,_,hu⟩
 cases N3.uniq N0
 have v3:=v2.ext x3
 rw[R9]at m7 z7
 have q7:=fun c (hc:tb t7=some c)=>re m7 hc
 cases hu
 simp -implicitDefEqProofs only[op,ef,cl,sq,reduceIte,q1,q2,q3,q4,q6,q8,j1,j2,j3,S1,w3]
 refine af _ _ _ _ _ _ _ _ (Bm (mJ+40) 1 v3 (by decide) tok DY) ?_
 rintro u H4⟨x4,t9,l4,m9,z9,N4,_,hu⟩
 cases N4.uniq N0
 have v4:=v3.ext x4
 rw[←hD]at m9 z9
 have q9:=fun c (hc:tb t9=some c)=>re m9 hc
 cases hu
 have m5:=(m5.ext x3).ext x4
 have m7:=m7.ext x4
 have e9:=xQ (enc:=eW) (n:=2) (fun _=>rfl) m9
 have kp:∃kw H5,kv H4 24 .nil [] (D.map eW)=some (.sl kw (D.map eW),H5)∧Ext H4 H5:=by
  by_cases hd:D=[]
  ·subst hd;exact⟨.nil,H4,rfl,Ext.rfl'⟩
  ·obtain⟨kw,H5,ha,_,cn⟩:=kg (bytes:=24) [] (D.map eW) (kX H4.length H4) (Nat.le_refl _) (by simpa using hd) (ja (by simp;omega) (by omega))
   refine⟨kw,H5,?_,cn.ext _ (Nat.le_refl _) Ext.rfl'⟩
   rw[ha];simp -implicitDefEqProofs only[List.nil_append,List.map_map]
   congr 3
 obtain⟨kw,H5,ha,x5⟩:=kp
 have v5:=v4.ext x5
 have m5:=m5.ext x5
 have m7:=m7.ext x5
 have m9:=m9.ext x5
 simp -implicitDefEqProofs only[op,ef,cl,sq,reduceIte,q1,q2,q3,q4,q6,q8,j1,j2,j3,S1,e9,ha]
 have QD:D.length≤16777216:=by omega
 refine af _ _ _ _ _ _ _ _ (qX (dM.rd m5) (dM.rd m9) QD) ?_
 rintro u H6⟨hu,hh⟩
 have hh:=hh.symm
 subst hh
 cases hu
 simp -implicitDefEqProofs only[op,ef,cl,sq,reduceIte,q1,q2,q3,q4,q6,q8,j1,j2,j3,S1]
 refine af _ _ _ _ _ _ _ _ (qX (dM.rd m5) (dM.rd m7) QD) ?_
 rintro u H7⟨hu,hh⟩
 have hh:=hh.symm
 subst hh
 cases hu
 obtain⟨ts,tf⟩:∃ts:Nat→T,ts=fun j=>match j with|0=>t5|1=>t7|_=>t9:=⟨_,rfl⟩
 have MX:ts 0=t5:=by simp -implicitDefEqProofs only[tf]
 have FY:ts 1=t7:=by simp -implicitDefEqProofs only[tf]
 have IQ:ts 2=t9:=by simp -implicitDefEqProofs only[tf]
 have y2:=x2.len
 have y3:=x3.len
 have y4:=x4.len
 have y5:=x5.len
 have c3:∀j:Nat,j<3→j=0∨j=1∨j=2:=fun j hj=>by omega
 have x6:Ext H5 (H5++[.cells [t5,t7,t9]]):=⟨_,rfl⟩
 have Vk:Ls (H5++[.cells [t5,t7,t9]]) b A F 6400000 H5.length ts 0 (fun _=>D):=by
  have MY:∀j c,j<3→tb (ts j)=some c→H1.length≤c∧c<H4.length∧(j=0→c<H2.length)∧(j=1→H2.length≤c∧c<H3.length)∧(j=2→H3.length≤c):=fun j c hj hc=>by
   rcases c3 j hj with rfl|rfl|rfl
   ·rw[MX]at hc;have:=q5 c hc;omega
   ·rw[FY]at hc;have:=q7 c hc;omega
   ·rw[IQ]at hc;have:=q9 c hc;omega
  refine⟨v5.ext x6,fun c hc=>by have:=nF c hc;simp -implicitDefEqProofs only[List.length_append];omega,by rw[MX,FY,IQ];exact aZ rfl,fun h=>by have:=nF _ h;omega,fun j hj _=>?_,fun j _ hj=>by omega,fun j hj e=>?_,fun j c hj hc=>⟨fun h=>by have:=nF c h;have:=MY j c hj hc;omega,by have:=MY j c hj hc;omega⟩,fun i j c hi hj h1 h2=>?_⟩
  ·rcases c3 j hj with rfl|rfl|rfl
   ·rw[MX];exact dM.le (dM.ext m5 x6) (Nat.zero_le _)
   ·rw[FY];exact dM.le (dM.ext m7 x6) (Nat.zero_le _)
   ·rw[IQ];exact dM.le (dM.ext m9 x6) (Nat.zero_le _)
  ·rcases c3 j hj with rfl|rfl|rfl
   ·rw[MX];exact z5 e
   ·rw[FY];exact z7 e
   ·rw[IQ];exact z9 e
  ·have a1:=MY i c hi h1
   have a2:=MY j c hj h2
   rcases c3 i hi with rfl|rfl|rfl<;>rcases c3 j hj with rfl|rfl|rfl<;>omega
 have eD:∀Hx,aP Hx 2 (.sl kw (D.map eW))=some (D.map eW):=fun Hx=>by simp[aP,eW]
 have k5:=rb m5
 have k7:=rb m7
 have k9:=rb m9
 have Vl:[[t5],[t7],[t9]].flatten=[t5,t7,t9]:=rfl
 have Vm:(1≠0)=True:=by simp
 simp -implicitDefEqProofs only[op,ef,cl,sq,reduceIte,q1,q2,q3,q4,q6,q8,j1,j2,j3,S1,k5,k7,k9,Vl,Vm]
 refine W.AK 0 [(3,_),(4,_),(11,_),(12,_),(13,_)] _ (LP _ rfl (by omega) Vk (by rfl) (by rfl) (by rfl)) ?_
 intro R H6 h6
 simp -implicitDefEqProofs only[ar,ak,op,ef,cl,sq,reduceIte,q1,q2,q3,q4,q6,q8,j1,j2,j3,S1]
 refine W.AK 4 [(3,_),(4,_),(11,_),(12,_),(13,_)] _ (LQ _ rfl (N:=D.length) (by omega) (fun j=>ra D 3 0 j) h6 (by rfl) (by rfl)) ?_
 intro R H7 h7
 have QE:=h7.fl
 simp -implicitDefEqProofs only[ar,ak,op,ef,cl,sq,reduceIte,q1,q2,q3,q4,q6,q8,j1,j2,j3,S1,w3]
 refine af _ _ _ _ _ _ _ _ (l9 (mJ+40) 1 h7.at_ QE (by decide) tok DY) ?_
 rintro u H8⟨t19,l8,MZ,N8,_,hu,v8,f8⟩
 cases N8.uniq N0
 rw[←hD]at MZ v8
 cases hu
 have h8:=h7.go v8 f8 h7.nL fun j c hj hc=>(h7.nF j c hj hc).1
 have Vn:=fun c (hc:tb t19=some c)=>re MZ hc
 have Vo:=LK H8 kw D
 simp -implicitDefEqProofs only[ar,ak,op,ef,cl,sq,reduceIte,q1,q2,q3,q4,q6,q8,j1,j2,j3,S1]
 refine af _ _ _ _ _ _ _ _ (qX (dM.rd MZ) Vo QD) ?_
 rintro u H9⟨hu,hh⟩
 have hh:=hh.symm
 subst hh
 cases hu
 simp -implicitDefEqProofs only[ar,ak,op,ef,cl,sq,reduceIte,q1,q2,q3,q4,q6,q8,j1,j2,j3,S1,w3]
 refine af _ _ _ _ _ _ _ _ (l9 (mJ+40) 1 h8.at_ h8.fl (by decide) tok DY) ?_
 rintro u V0⟨t22,Rf,Sa,Sb,_,hu,v10,f10⟩
 rw[hD]at Sb
 have Sc:=xO N0 Sb
 rw[←hD]at Sc
 rw[Sc]at Sa v10
 cases hu
 have Vp:=hU Sa
 have aU:=h8.go v10 f10 h8.nL fun j c hj hc=>(h8.nF j c hj hc).1
 have QF:=lr MZ f10 fun c hc hn LG=>by have:=QE c LG;omega
 simp -implicitDefEqProofs only[ar,ak,op,ef,cl,sq,reduceIte,q1,q2,q3,q4,q6,q8,j1,j2,j3,S1]
 refine W.AK 8 [(12,_),(13,_),(21,_),(22,_)] _ (LS _ rfl (by omega) aU (dM.le QF (Nat.zero_le _)) (fun c hc=>?_) (by rfl) (by rfl)) ?_
 ·have a1:=Vn c hc
  refine⟨fun LG=>by have:=QE c LG;omega,fun e=>?_,fun j hj e=>?_⟩
  ·have:=a6 h7.lL;omega
  ·have:=h7.cu hj e;omega
 intro R Vq bD
 simp -implicitDefEqProofs only[ar,ak,op,ef,cl,sq,reduceIte,q1,q2,q3,q4,q6,q8,j1,j2,j3,S1]
 refine W.Kx 10 [(12,_),(13,_),(21,_),(22,_)] (fun (i:Nat) R H'=>H'=Vq∧R 25=.int .i64 i∧i≤3) (fun i=>3-i) 0 (fun _ _=>True) ⟨rfl,rfl,Nat.zero_le _⟩ ?_ ?_
 ·rintro i R Sd⟨rfl,M0,hi⟩
  by_cases au:i<3
  ·have mI:=aF (show i<9223372036854775807 by omega)
   have tz:((i:Nat):Int)<3:=by omega
   have ia:=Bv (L:=H5.length) au
   have ld:=Bw ts au
   have na:=Bu au
   have hL:=bD.lL
   have NS:=bD.fz i au au
   have hlen:=bD.len au
   rw[LO au]at NS hlen
   rw[List.length_map]at hlen
   simp -implicitDefEqProofs only[ar,ak,op,ef,cl,sq,reduceIte,q1,q2,q3,q4,q6,q8,j1,j2,j3,S1,M0,tz]
   refine W.fZ [(12,_),(13,_),(21,_),(22,_),(25,_)] (fun (k:Nat) R H'=>H'=Sd∧R 26=.int .i64 k∧k≤D.length) (fun k=>D.length-k) 0 ⟨rfl,rfl,Nat.zero_le _⟩ ?_
   rintro k R V1⟨rfl,HX,hk⟩
   by_cases jv:k<D.length
   ·obtain⟨x,hx⟩:=cF jv
    have Ii:=aF (show k<9223372036854775807 by omega)
    obtain⟨c,hc,ix,lx⟩:=NS.get (i:=k) (x:=wo i x) (by rw[List.getElem?_map,hx];rfl)
    have lx:mE 1 (k*2+0) (some (.fz (aJ eW (D.map (wo i)))))=some [.str (nz i)]:=lx
    simp -implicitDefEqProofs only[ar,ak,op,ef,cl,sq,reduceIte,q1,q2,q3,q4,q6,q8,j1,j2,j3,S1,M0,HX,aa,ia,hL,ld,hlen,jv,na,ix,hc,lx,Ii]
    exact⟨k+1,by omega,rfl,by omega⟩
   ·simp -implicitDefEqProofs only[ar,ak,op,ef,cl,sq,reduceIte,q1,q2,q3,q4,q6,q8,j1,j2,j3,S1,M0,HX,aa,ia,hL,ld,hlen,jv,mI]
    exact⟨i+1,by omega,rfl,by omega⟩
  ·simp -implicitDefEqProofs only[ar,ak,op,ef,cl,sq,reduceIte,q1,q2,q3,q4,q6,q8,j1,j2,j3,S1,M0,show i=3 by omega]
 ·rintro R Sd -
  simp -implicitDefEqProofs only[ar,ak,op,ef,cl,sq,reduceIte,q1,q2,q3,q4,q6,q8,j1,j2,j3,S1,Vp,List.length_nil]
end Go.Proofs.Ytodegnhallgnkaa.St
end

section
namespace Go.Proofs.Ytodegnhallgnkaa
open Go.ChangeShapes Go.WideShapes Go.ChangeAt Go.RowKit
namespace Law
theorem own:ownKnob Try.prog.godebug=none:=by kernel_rfl
theorem kids:Kids Try.prog (·<Try.prog.types.size):=kids_rows (by kernel_rfl) (by kernel_rfl)
noncomputable def Vr:Bool:=(List.range Try.prog.types.size).all fun t=>match Try.prog.underlying t with
 | some (.slice e)=>decide (0<Try.prog.cellsOf e)
 | _=>true
theorem Ik:Vr=true:=by kernel_rfl
theorem hz:∀t e,t<Try.prog.types.size→Try.prog.underlying t=some (.slice e)→0<Try.prog.cellsOf e:=fun t e ht h=>by
 have:=(List.all_eq_true.1 Ik) t (List.mem_range.2 ht)
 rw[h]at this
 simpa using this
mutual
theorem m3 {H:Type}:∀d:DataW H,Go.Rmp.bl d=Rows.uptoBulk d
 | .lit l=>by cases l<;>simp[Go.Rmp.bl,Rows.uptoBulk]
 | .nil=>by simp[Go.Rmp.bl,Rows.uptoBulk]
 | .ptr d=>by simp[Go.Rmp.bl,Rows.uptoBulk,m3 d]
 | .slice elems spare=>by simp[Go.Rmp.bl,Rows.uptoBulk,jf elems,jf spare]
 | .agg parts=>by simp[Go.Rmp.bl,Rows.uptoBulk,jf parts]
 | .iface _ d=>by simp[Go.Rmp.bl,Rows.uptoBulk,m3 d]
 | .map entries=>by simp[Go.Rmp.bl,Rows.uptoBulk,ta entries]
 | .held _=>by simp[Go.Rmp.bl,Rows.uptoBulk]
theorem jf {H:Type}:∀l:List (DataW H),Go.Rmp.a7 l=Rows.uptoBulkAll l
 | []=>by simp[Go.Rmp.a7,Rows.uptoBulkAll]
 | d :: r=>by simp[Go.Rmp.a7,Rows.uptoBulkAll,m3 d,jf r]
theorem ta {H:Type}:∀l:List (Lit×DataW H),Go.Rmp.dL l=Rows.uptoBulkEntries l
 | []=>by simp[Go.Rmp.dL,Rows.uptoBulkEntries]
 | x :: r=>by simp[Go.Rmp.dL,Rows.uptoBulkEntries,xR x,ta r]
theorem xR {H:Type}:∀x:Lit×DataW H,Go.Rmp.kd x=Rows.uptoBulkEntry x
 | (l,d)=>by cases l<;>simp[Go.Rmp.kd,Rows.uptoBulkEntry,m3 d]
end
theorem DZ {H:Type}{ds:List (DataW H)}(h:Rows.uptoSmall H ds=true):Go.Rmp.a7 ds≤1048576:=by
 rw[jf];simpa[Rows.uptoSmall]using h
theorem QG {B:Nat}{t:Go.Rmp.T}(h:Go.Rmp.dm B .str t):∃s,t=.str s∧s.size≤B:=by
 cases h with|str h hB=>exact⟨_,rfl,hB⟩
theorem QH {B:Nat}{t:Go.Rmp.T}(h:Go.Rmp.dm B (.int .i64) t):∃n:Int,t=.int .i64 n∧St.RP n:=by
 cases h with|int h =>
  rename_i n
  exact⟨n,rfl,by simpa[St.RP,Lit.wf,IntKind.min,IntKind.max,IntKind.signed,IntKind.bits]using h⟩
theorem E5 {B:Nat}{t:Go.Rmp.T}(h:Go.Rmp.dm B (.int .u8) t):∃n:Nat,t=.int .u8 n∧n<256:=by
 cases h with|int h =>
  rename_i n
  have:0≤n∧n≤255:=by simpa[Lit.wf,IntKind.min,IntKind.max,IntKind.signed,IntKind.bits]using h
  exact⟨n.toNat,by congr 1;omega,by omega⟩
theorem Il {B:Nat}{t:Go.Rmp.T}(h:Go.Rmp.dm B (.int .u64) t):∃n:Nat,t=.int .u64 n∧n<18446744073709551616:=by
 cases h with|int h =>
  rename_i n
  have:0≤n∧n≤18446744073709551615:=by simpa[Lit.wf,IntKind.min,IntKind.max,IntKind.signed,IntKind.bits]using h
  exact⟨n.toNat,by congr 1;omega,by omega⟩
end Law
namespace St
open Go.Rmp
theorem Im {α:Type}{P:α→Prop}(enc:α→List T)(es:List (List T))(h:∀c∈es,∃x,c=enc x∧P x):∃l:List α,es=l.map enc∧∀x∈l,P x:=by
 induction es with
 | nil=>exact⟨[],rfl,by simp⟩
 | cons c es ih =>
  obtain⟨l,rfl,hl⟩:=ih (fun c hc=>h c (List.mem_cons_of_mem _ hc))
  obtain⟨x,rfl,hx⟩:=h _ List.mem_cons_self
  exact⟨x :: l,rfl,fun y hy=>by rcases List.mem_cons.1 hy with rfl|hy;exact hx;exact hl y hy⟩
theorem LV {B:Nat}{t:T}(h:dm B (.sl [.int .i64,.int .u64,.int .u8,.int .u8,.str]) t):∃(k:SK) (l:List mZ),t=.sl k (l.map eO)∧l.length≤B∧∀o∈l,I8 o:=by
 cases h with
 | nil=>exact⟨.nil,[],rfl,Nat.zero_le _,by simp⟩
 | sl hl hB h0 h =>
  rename_i es
  obtain⟨l,rfl,hP⟩:=Im (P:=fun o:mZ=>I8 o) eO es fun c hc=>by
   have kK:=h0 c hc
   match c,kK with
   | [a,b,d,e,f],_ =>
    obtain⟨x,rfl,hx⟩:=Law.QH (h _ hc 0 (.int .i64) a rfl rfl)
    obtain⟨y,rfl,hy⟩:=Law.Il (h _ hc 1 (.int .u64) b rfl rfl)
    obtain⟨z,rfl,hz⟩:=Law.E5 (h _ hc 2 (.int .u8) d rfl rfl)
    obtain⟨w,rfl,hw⟩:=Law.E5 (h _ hc 3 (.int .u8) e rfl rfl)
    obtain⟨s,rfl,_⟩:=Law.QG (h _ hc 4 .str f rfl rfl)
    exact⟨⟨x,y,z,w,s⟩,rfl,hy,hz,hw⟩
  exact⟨.arg,l,rfl,by simpa using hB,hP⟩
end St
namespace Law
theorem oD (Bz:List Go.Rmp.T)(hs:Go.Rmp.ke 1048576 [Go.Rmp.Sh.sl [.int .i64,.int .u64,.int .u8,.int .u8,.str]] Bz):Go.Rmp.W Ir.env (.call 3 Bz) [] (fun o _=>o=.val (.bool true)):=by
 cases hs with|cons h1 hs =>
 cases hs
 obtain⟨k,l,rfl,n1,n2⟩:=St.LV h1
 exact St.DX k l n1 n2 []
theorem mK (H:Type):∀ds:List (DataW H),ds.length=Try.f3.params.toList.length→Rows.retainMemorySpec.fn H ds={ results:=[.lit (.bool true)],args:=ds }:=by
 have hn:Try.f3.params.toList.length=1:=by kernel_rfl
 rw[hn]
 intro ds y0
 cases ds with|nil=>simp at y0|cons d0 ds =>
 cases ds with|cons=>simp at y0|nil =>
 rfl
set_option maxRecDepth 100000 in
theorem jE (os:Os)(started:os.Started)(H:Type)(enc:TypeId×Value→H)(F:Stop.Interp) :
  ReturnsInHanded {} Try.checked os 3 .any ((Rows.OpenSpec.upto Rows.retainMemorySpec).pre6 enc Try.prog Try.f3 Rows.retainMemoryUptoRow.domain false) (((Rows.OpenSpec.upto Rows.retainMemorySpec).at F).post enc Try.prog Try.f3 false true false false):=by
 refine returnsInHanded_of_cond (C:=Try.checked) (s:=Rows.OpenSpec.upto Rows.retainMemorySpec) (k:=Rows.uptoSmall) rfl own started (by kernel_rfl) Try.func3
  (OpenSpec.witness (enc:=enc) (C:=Try.checked) (s:=Rows.OpenSpec.upto Rows.retainMemorySpec) (k:=Rows.uptoSmall) rfl false ⟨#[],#[.slice .none 0 0],[]⟩ 8 (by kernel_rfl) (by kernel_rfl) (by kernel_rfl)
   (x:=([.nil],[],[])) (by kernel_rfl) rfl (by kernel_rfl)) ?_
 intro W base args ds gs before sz hW _ hk _
 exact Go.Rmp.qx (s:=Rows.retainMemorySpec) (xY:=[Go.Rmp.Sh.sl [.int .i64,.int .u64,.int .u8,.int .u8,.str]]) (B:=1048576) (tb:=Try.f3.resultTypes[0]!) Ir.KE kids hz (by kernel_rfl) (by intro t ht;exact of_decide_eq_true ((List.all_eq_true.1 (show Try.f3.params.toList.all (fun t=>decide (t<Try.prog.types.size))=true by kernel_rfl)) t ht)) (by kernel_rfl) (by kernel_rfl) rfl (mK H) oD base args ds gs before sz hW (DZ hk)
theorem lu:Rows.retainMemoryUptoRow.holds Try.pinned (Rows.OpenSpec.upto Rows.retainMemorySpec) :=
 OpenClaim.holds_of_cond 3 Try.f3 rfl rfl rfl rfl rfl rfl rfl ⟨rfl,rfl,rfl,rfl,rfl⟩ rfl rfl rfl rfl rfl (by kernel_rfl) Try.func3 (by kernel_rfl)
  (of_decide_eq_true (by kernel_rfl)) (by unfold Func.isWrapper;first|(rw[if_pos (by decide +kernel)];kernel_rfl)|(rw[if_neg (by decide +kernel)];exact⟨rfl,rfl⟩))
  (fun os started H enc _ F=>jE os started H enc F)
theorem retainMemory_proved:Rows.RetainMemoryUptoSaid:=lu
end Law
end Go.Proofs.Ytodegnhallgnkaa
end
