/- Part of a proof of a law of this seat: the machine of plain values, its simulation, and the contracts of the functions that the law reaches. Conditions: none beyond the given row. -/
import Derived.Test.YtdcpehdijdllpaaGreatM3
open Int renaming reduceLT → j1, reduceLE → j2, reduceBEq → j3, reduceBNe → j4, reduceEq → j5
open Nat renaming reduceAdd → j6, reduceLeDiff → j7, reduceLT → j8, reduceEqDiff → j9
set_option linter.unusedSimpArgs false
set_option linter.unusedVariables false
set_option linter.unnecessarySimpa false
set_option maxHeartbeats 4000000
section
namespace Go.Proofs.YtdcpehdijdllpaaGreat.St
open Go.Rmp Go.Proofs.YtdcpehdijdllpaaGreat.Ir
set_option maxRecDepth 10000
set_option maxHeartbeats 8000000
section
variable {c n i j:Nat} {d:Array ByteArray}
theorem aD (h:i<n):fw 1 i (.aA c 0 n 1)=some (.ptr c (i*1)):=by rw[jZ];simp[h]
theorem o5 {l:List ByteArray}:(aJ eS l).length=l.length*1:=by rw[dF (n:=1) (fun _=>rfl)]
theorem aE (h:i<d.size):(i*1+1≤(aJ eS d.toList).length)=True:=by rw[o5];simp;omega
theorem aF (h:i<d.size):List.take 1 (List.drop (i*1) (aJ eS d.toList))=[.str d[i]!]:=by
 have:=Aa h
 rw[nR,if_pos (by rw[o5];simp;omega)]at this
 exact Option.some.inj this
theorem aG {x:ByteArray}(h:i<d.size):(i*1+1≤(aJ eS (d.toList.set j x)).length)=True:=by rw[o5];simp;omega
theorem aH (h:i<d.size)(h':j<d.size):(List.take (i*1) (aJ eS d.toList)++[.str d[j]!])++List.drop (i*1+1) (aJ eS d.toList)=aJ eS (d.toList.set i d[j]!):=by
 have:=(sO (Hx:=[.cells []]) (c:=0) d h h').1
 rw[iZ,if_pos (by rw[o5];simp;omega)]at this
 simpa using this
theorem aI (h:i<d.size)(h':j<d.size):(List.take (j*1) (aJ eS (d.toList.set i d[j]!))++[.str d[i]!])++List.drop (j*1+1) (aJ eS (d.toList.set i d[j]!))=aJ eS (Go.Sort.swp d i j).toList:=by
 have:=(sO (Hx:=[.cells []]) (c:=0) d h h').2 [.cells []]
 rw[iZ,if_pos (by rw[o5];simp;omega)]at this
 simpa using this
end
open Go.Sort in
def jd (c n:Nat)(H:af)(P:Array ByteArray→Prop)(H':af):Prop:=∃d:Array ByteArray,H'[c]?=some (.cells (aJ eS d.toList))∧d.size=n∧P d∧a9 (fun x=>x=c) H H'
open Go.Sort in
theorem jd.swp {c n:Nat}{H H1:af}{P:Array ByteArray→Prop}{y x:B}{d':Array ByteArray}(hd:H1[c]?=some y)(hs:d'.size=n)(hP:P d')(hf:a9 (fun x=>x=c) H H1):jd c n H P ((H1.set c x).set c (.cells (aJ eS d'.toList))) :=
 ⟨d',bR (by rw[List.length_set];exact aM hd),hs,hP,(hf.set (.inl rfl) _).set (.inl rfl) _⟩
open Go.Sort in
def sP (c n:Nat)(d':Array ByteArray)(H:af):Out→af→Prop:=fun o H'=>o=.val (.bJ [])∧jd c n H (fun x=>x=d') H'
open Go.Sort in
theorem V1 (c n:Nat)(d:Array ByteArray)(a b:Nat)(H:af)(hn:d.size=n)(hc:H[c]?=some (.cells (aJ eS d.toList)))(hb:b≤n)(fG:a<b)(hs:n<4611686018427387903) :
  W env (.call 146 [.aA c 0 n 1,.int .i64 a,.int .i64 b]) H (sP c n (reverseRange d a b) H):=by
 refine W.bu rfl rfl rfl ?_
 simp -implicitDefEqProofs (maxSteps:=1000000) (disch:=omega) only[GZ,op,ef,cl,sq,reduceIte,j1,j2,j3,j4,j5,j6,j7,j8,j9,S1,a0]
 refine W.cK (fun (i:Nat) R H'=>At H' (fun H'=>∃j,R 7=.int .i64 (j:Nat)∧i+j=a+b-1∧a≤i∧jd c n H (fun di=>reverseLoop i j di=reverseRange d a b) H')∧R 0=.aA c 0 n 1∧R 6=.int .i64 i) (fun i=>a+b-i) a ⟨.i ⟨b-1,rfl,by omega,Nat.le_refl _,d,hc,hn,rfl,a9.refl _ _⟩,rfl,rfl⟩ ?_
 rintro i R H1⟨⟨j,h9,sH,Hw,di,hd,a7,zT,ar⟩,h0,h8⟩
 have lc:=aM hd
 by_cases al:i<j
 ·simp -implicitDefEqProofs (maxSteps:=1000000) (disch:=omega) only[aa,aD,aE,aF,aG,aH,aI,wA,a6,wS,a0,wM,S2,op,ef,cl,sq,reduceIte,j1,j2,j3,j4,j5,j6,j7,j8,j9,S1,h0,h8,h9,al,hd,lc]
  exact⟨i+1,by omega,.i ⟨j-1,rfl,by omega,by omega,.swp hd (by rw[swp_size];exact a7) (by rw[←zT];conv=>{ rhs;rw[reverseLoop,if_pos al] }) ar⟩,rfl⟩
 ·simp -implicitDefEqProofs only[op,ef,cl,sq,reduceIte,j1,j2,j3,j4,j5,j6,j7,j8,j9,S1,h0,h8,h9,al]
  rw[reverseLoop,if_neg al]at zT
  exact⟨rfl,di,hd,a7,zT,ar⟩
open Go.Sort in
theorem BF (c n:Nat)(d:Array ByteArray)(lo hi first:Nat)(H:af)(hn:d.size=n)(hc:H[c]?=some (.cells (aJ eS d.toList)))(hb:first+hi≤n)(pq:lo≤n)(hs:n<2305843009213693951) :
  W env (.call 158 [.aA c 0 n 1,.int .i64 lo,.int .i64 hi,.int .i64 first]) H (sP c n (siftDown strLt hi first lo d) H):=by
 refine W.bu rfl rfl rfl ?_
 simp -implicitDefEqProofs only[Hb,op,ef,cl,sq,reduceIte,j1,j2,j3,j4,j5,j6,j7,j8,j9,S1]
 refine W.cK (fun (r:Nat) R H'=>At H' (fun H'=>jd c n H (fun di=>siftDown strLt hi first r di=siftDown strLt hi first lo d) H')∧R 0=.aA c 0 n 1∧R 2=.int .i64 hi∧R 3=.int .i64 first∧R 0=.aA c 0 n 1∧R 8=.int .i64 r∧r≤n) (fun r=>hi-r) lo ⟨.i ⟨d,hc,hn,rfl,a9.refl _ _⟩,rfl,rfl,rfl,rfl,rfl,pq⟩ ?_
 rintro r R H1⟨⟨di,hd,a7,hP,ar⟩,h0,h2,h3,h4,aC,hr⟩
 have lc:=aM hd
 by_cases dJ:2*r+1≥hi
 ·simp -implicitDefEqProofs (maxSteps:=1000000) (disch:=omega) only[aa,aD,aE,aF,aG,aH,aI,wA,a6,wS,a0,wM,S2,op,ef,cl,sq,reduceIte,j1,j2,j3,j4,j5,j6,j7,j8,j9,S1,h0,h2,h3,h4,aC,dJ]
  rw[siftDown,dif_pos dJ]at hP
  exact⟨rfl,di,hd,a7,hP,ar⟩
 by_cases dy:2*r+1+1<hi
 ·simp -implicitDefEqProofs (maxSteps:=1000000) (disch:=omega) only[aa,aD,aE,aF,aG,aH,aI,wA,a6,wS,a0,wM,S2,op,ef,cl,sq,reduceIte,j1,j2,j3,j4,j5,j6,j7,j8,j9,S1,h0,h2,h3,h4,aC,dJ,dy,hd,lc]
  refine ae _ _ _ _ _ _ _ _ (dZ di[first+(2*r+1)]! di[first+(2*r+1)+1]! _) ?_
  rintro u H2⟨hu,kr⟩
  cases hu
  have hx:Ext H1 H2:=by rw[kr];exact Ext.rfl'
  have hd:=hx.get hd
  have lc:=aM hd
  have ar:=ar.trans (ax (F:=fun _=>False) hx) (fun _ h=>h.elim)
  have cV:strLt di[first+(2*r+1)]! di[first+(2*r+1)+1]! = decide (strLt di[first+(2*r+1)]! di[first+(2*r+1)+1]! = true):=by simp
  by_cases c1:strLt di[first+(2*r+1)]! di[first+(2*r+1)+1]! = true
  ·simp -implicitDefEqProofs (maxSteps:=1000000) (disch:=omega) only[aa,aD,aE,aF,aG,aH,aI,wA,a6,wS,a0,wM,S2,op,ef,cl,sq,reduceIte,j1,j2,j3,j4,j5,j6,j7,j8,j9,S1,h0,h2,h3,h4,aC,dJ,dy,hd,lc,c1]
   refine ae _ _ _ _ _ _ _ _ (dZ di[first+r]! di[first+(2*r+1+1)]! _) ?_
   rintro u H3⟨hu,kr⟩
   cases hu
   have hx:Ext H2 H3:=by rw[kr];exact Ext.rfl'
   have hd:=hx.get hd
   have lc:=aM hd
   have ar:=ar.trans (ax (F:=fun _=>False) hx) (fun _ h=>h.elim)
   have yx:strLt di[first+r]! di[first+(2*r+1+1)]! = decide (strLt di[first+r]! di[first+(2*r+1+1)]! = true):=by simp
   by_cases c2:strLt di[first+r]! di[first+(2*r+1+1)]! = true
   ·simp -implicitDefEqProofs (maxSteps:=1000000) (disch:=omega) only[aa,aD,aE,aF,aG,aH,aI,wA,a6,wS,a0,wM,S2,op,ef,cl,sq,reduceIte,j1,j2,j3,j4,j5,j6,j7,j8,j9,S1,h0,h2,h3,h4,aC,dJ,dy,hd,lc,c2]
    refine⟨2*r+1+1,by omega,.i (.swp hd (by rw[swp_size];exact a7) ?_ ar),rfl,by omega⟩
    rw[←hP]
    conv=>{ rhs;rw[siftDown,dif_neg dJ,if_pos (gg (ct dy) (cV.trans (ct c1))),if_neg (lA (yx.trans (ct c2))),dif_pos dy] }
   ·simp -implicitDefEqProofs (maxSteps:=1000000) (disch:=omega) only[aa,aD,aE,aF,aG,aH,aI,wA,a6,wS,a0,wM,S2,op,ef,cl,sq,reduceIte,j1,j2,j3,j4,j5,j6,j7,j8,j9,S1,h0,h2,h3,h4,aC,dJ,dy,hd,lc,c2]
    rw[siftDown,dif_neg dJ,if_pos (gg (ct dy) (cV.trans (ct c1))),if_pos (fE (yx.trans (cr c2)))]at hP
    exact⟨rfl,di,hd,a7,hP,ar⟩
  ·simp -implicitDefEqProofs (maxSteps:=1000000) (disch:=omega) only[aa,aD,aE,aF,aG,aH,aI,wA,a6,wS,a0,wM,S2,op,ef,cl,sq,reduceIte,j1,j2,j3,j4,j5,j6,j7,j8,j9,S1,h0,h2,h3,h4,aC,dJ,dy,hd,lc,c1]
   refine ae _ _ _ _ _ _ _ _ (dZ di[first+r]! di[first+(2*r+1)]! _) ?_
   rintro u H3⟨hu,kr⟩
   cases hu
   have hx:Ext H2 H3:=by rw[kr];exact Ext.rfl'
   have hd:=hx.get hd
   have lc:=aM hd
   have ar:=ar.trans (ax (F:=fun _=>False) hx) (fun _ h=>h.elim)
   have yx:strLt di[first+r]! di[first+(2*r+1)]! = decide (strLt di[first+r]! di[first+(2*r+1)]! = true):=by simp
   by_cases c2:strLt di[first+r]! di[first+(2*r+1)]! = true
   ·simp -implicitDefEqProofs (maxSteps:=1000000) (disch:=omega) only[aa,aD,aE,aF,aG,aH,aI,wA,a6,wS,a0,wM,S2,op,ef,cl,sq,reduceIte,j1,j2,j3,j4,j5,j6,j7,j8,j9,S1,h0,h2,h3,h4,aC,dJ,dy,hd,lc,c2]
    refine⟨2*r+1,by omega,.i (.swp hd (by rw[swp_size];exact a7) ?_ ar),rfl,by omega⟩
    rw[←hP]
    conv=>{ rhs;rw[siftDown,dif_neg dJ,if_neg (eb (cV.trans (cr c1))),if_neg (lA (yx.trans (ct c2)))] }
   ·simp -implicitDefEqProofs (maxSteps:=1000000) (disch:=omega) only[aa,aD,aE,aF,aG,aH,aI,wA,a6,wS,a0,wM,S2,op,ef,cl,sq,reduceIte,j1,j2,j3,j4,j5,j6,j7,j8,j9,S1,h0,h2,h3,h4,aC,dJ,dy,hd,lc,c2]
    rw[siftDown,dif_neg dJ,if_neg (eb (cV.trans (cr c1))),if_pos (fE (yx.trans (cr c2)))]at hP
    exact⟨rfl,di,hd,a7,hP,ar⟩
 ·simp -implicitDefEqProofs (maxSteps:=1000000) (disch:=omega) only[aa,aD,aE,aF,aG,aH,aI,wA,a6,wS,a0,wM,S2,op,ef,cl,sq,reduceIte,j1,j2,j3,j4,j5,j6,j7,j8,j9,S1,h0,h2,h3,h4,aC,dJ,dy,hd,lc]
  try simp -implicitDefEqProofs only[op,ef,cl,sq,reduceIte,j1,j2,j3,j4,j5,j6,j7,j8,j9,S1]
  try simp -implicitDefEqProofs (maxSteps:=1000000) (disch:=omega) only[aa,aD,aE,aF,aG,aH,aI,wA,a6,wS,a0,wM,S2,op,ef,cl,sq,reduceIte,j1,j2,j3,j4,j5,j6,j7,j8,j9,S1,h0,h2,h3,h4,aC,dJ,dy,hd,lc]
  refine ae _ _ _ _ _ _ _ _ (dZ di[first+r]! di[first+(2*r+1)]! _) ?_
  rintro u H3⟨hu,kr⟩
  cases hu
  have hx:Ext H1 H3:=by rw[kr];exact Ext.rfl'
  have hd:=hx.get hd
  have lc:=aM hd
  have ar:=ar.trans (ax (F:=fun _=>False) hx) (fun _ h=>h.elim)
  have yx:strLt di[first+r]! di[first+(2*r+1)]! = decide (strLt di[first+r]! di[first+(2*r+1)]! = true):=by simp
  by_cases c2:strLt di[first+r]! di[first+(2*r+1)]! = true
  ·simp -implicitDefEqProofs (maxSteps:=1000000) (disch:=omega) only[aa,aD,aE,aF,aG,aH,aI,wA,a6,wS,a0,wM,S2,op,ef,cl,sq,reduceIte,j1,j2,j3,j4,j5,j6,j7,j8,j9,S1,h0,h2,h3,h4,aC,dJ,dy,hd,lc,c2]
   refine⟨2*r+1,by omega,.i (.swp hd (by rw[swp_size];exact a7) ?_ ar),rfl,by omega⟩
   rw[←hP]
   conv=>{ rhs;rw[siftDown,dif_neg dJ,if_neg (dw (cr dy)),if_neg (lA (yx.trans (ct c2)))] }
  ·simp -implicitDefEqProofs (maxSteps:=1000000) (disch:=omega) only[aa,aD,aE,aF,aG,aH,aI,wA,a6,wS,a0,wM,S2,op,ef,cl,sq,reduceIte,j1,j2,j3,j4,j5,j6,j7,j8,j9,S1,h0,h2,h3,h4,aC,dJ,dy,hd,lc,c2]
   rw[siftDown,dif_neg dJ,if_neg (dw (cr dy)),if_pos (fE (yx.trans (cr c2)))]at hP
   exact⟨rfl,di,hd,a7,hP,ar⟩
open Go.Sort in
theorem QP (c n:Nat)(d:Array ByteArray)(a b:Nat)(H:af)(hn:d.size=n)(hc:H[c]?=some (.cells (aJ eS d.toList)))(hb:b≤n)(fG:a<b)(hs:n<2305843009213693951) :
  W env (.call 143 [.aA c 0 n 1,.int .i64 a,.int .i64 b]) H (sP c n (heapSort strLt d a b) H):=by
 refine W.bu rfl rfl rfl ?_
 simp -implicitDefEqProofs (maxSteps:=1000000) (disch:=omega) only[GX,aa,aD,aE,aF,aG,aH,aI,wA,a6,wS,a0,wM,S2,op,ef,cl,sq,reduceIte,j1,j2,j3,j4,j5,j6,j7,j8,j9,S1,wQ2]
 refine W.cT 0 (fun (k:Nat) R H'=>At H' (fun H'=>jd c n H (fun di=>heapBuild strLt (b-a) a k di=heapBuild strLt (b-a) a ((b-a-1)/2+1) d) H')∧R 0=.aA c 0 n 1∧R 0=.aA c 0 n 1∧R 6=.int .i64 a∧R 7=.int .i64 0∧R 8=.int .i64 (b-a:Nat)∧R 9=.int .i64 ((k:Int)-1)∧k≤b-a) (fun k=>k) ((b-a-1)/2+1)
  (fun R H'=>At H' (fun H'=>jd c n H (fun di=>di=heapBuild strLt (b-a) a ((b-a-1)/2+1) d) H')∧R 0=.aA c 0 n 1∧R 0=.aA c 0 n 1∧R 6=.int .i64 a∧R 7=.int .i64 0∧R 8=.int .i64 (b-a:Nat))
  ⟨.i ⟨d,hc,hn,rfl,a9.refl _ _⟩,rfl,rfl,rfl,rfl,rfl,by simp[pn],by omega⟩ ?_ ?_
 ·rintro k R H1⟨⟨di,hd,a7,hP,ar⟩,h0,h3,h8,h9,aC,bf,hk⟩
  cases k with
  | zero =>
   rw[show(((0:Nat):Int)-1)=-1 from rfl]at bf
   simp -implicitDefEqProofs (maxSteps:=1000000) (disch:=omega) only[aa,aD,aE,aF,aG,aH,aI,wA,a6,wS,a0,wM,S2,op,ef,cl,sq,reduceIte,j1,j2,j3,j4,j5,j6,j7,j8,j9,S1,h0,h3,h8,h9,aC,bf]
   exact .i ⟨di,hd,a7,hP,ar⟩
  | succ k =>
   rw[show(((k+1:Nat):Int)-1)=(k:Int) by omega]at bf
   simp -implicitDefEqProofs (maxSteps:=1000000) (disch:=omega) only[aa,aD,aE,aF,aG,aH,aI,wA,a6,wS,a0,wM,S2,op,ef,cl,sq,reduceIte,j1,j2,j3,j4,j5,j6,j7,j8,j9,S1,h0,h3,h8,h9,aC,bf,Lu]
   refine ae _ _ _ _ _ _ _ _ (BF c n di k (b-a) a _ a7 hd (by omega) (by omega) hs) ?_
   rintro u H2⟨hu,d2,cz,jb,rfl,eF⟩
   cases hu
   simp -implicitDefEqProofs (maxSteps:=1000000) (disch:=omega) only[Yc,op,ef,cl,sq,reduceIte,j1,j2,j3,j4,j5,j6,j7,j8,j9,S1,h0,h3,h8,h9,aC,bf]
   exact⟨k,by omega,.i ⟨_,cz,jb,hP,ar.trans eF fun _ h=>.inl h⟩,rfl,by omega⟩
 ·rintro R H1⟨⟨di,hd,a7,hP,ar⟩,h0,h3,h8,h9,aC⟩
  simp -implicitDefEqProofs (maxSteps:=1000000) (disch:=omega) only[aa,aD,aE,aF,aG,aH,aI,wA,a6,wS,a0,wM,S2,op,ef,cl,sq,reduceIte,j1,j2,j3,j4,j5,j6,j7,j8,j9,S1,h0,h3,h8,h9,aC]
  refine W.cK (fun (k:Nat) R H'=>At H' (fun H'=>jd c n H (fun di=>heapPop strLt a k di=heapSort strLt d a b) H')∧R 0=.aA c 0 n 1∧R 0=.aA c 0 n 1∧R 6=.int .i64 a∧R 7=.int .i64 0∧R 8=.int .i64 (b-a:Nat)∧R 10=.int .i64 ((k:Int)-1)∧k≤b-a) (fun k=>k) (b-a) ⟨.i ⟨di,hd,a7,by rw[hP];rfl,ar⟩,?_,?_,?_,?_,?_,?_,Nat.le_refl _⟩ ?_
  ·simp -implicitDefEqProofs only[op,ef,cl,sq,reduceIte,j1,j2,j3,j4,j5,j6,j7,j8,j9,S1,h0]
  ·simp -implicitDefEqProofs only[op,ef,cl,sq,reduceIte,j1,j2,j3,j4,j5,j6,j7,j8,j9,S1,h3]
  ·simp -implicitDefEqProofs only[op,ef,cl,sq,reduceIte,j1,j2,j3,j4,j5,j6,j7,j8,j9,S1,h8]
  ·simp -implicitDefEqProofs only[op,ef,cl,sq,reduceIte,j1,j2,j3,j4,j5,j6,j7,j8,j9,S1,h9]
  ·simp -implicitDefEqProofs only[op,ef,cl,sq,reduceIte,j1,j2,j3,j4,j5,j6,j7,j8,j9,S1,aC]
  ·simp -implicitDefEqProofs only[op,ef,cl,sq,reduceIte,j1,j2,j3,j4,j5,j6,j7,j8,j9,S1];omega
  rintro k R H1⟨⟨di,hd,a7,hP,ar⟩,h0,h3,h8,h9,aC,aB,hk⟩
  have lc:=aM hd
  cases k with
  | zero =>
   rw[show(((0:Nat):Int)-1)=-1 from rfl]at aB
   simp -implicitDefEqProofs (maxSteps:=1000000) (disch:=omega) only[aa,aD,aE,aF,aG,aH,aI,wA,a6,wS,a0,wM,S2,op,ef,cl,sq,reduceIte,j1,j2,j3,j4,j5,j6,j7,j8,j9,S1,h0,h3,h8,h9,aC,aB]
   exact⟨rfl,di,hd,a7,hP,ar⟩
  | succ k =>
   rw[show(((k+1:Nat):Int)-1)=(k:Int) by omega]at aB
   simp -implicitDefEqProofs (maxSteps:=1000000) (disch:=omega) only[aa,aD,aE,aF,aG,aH,aI,wA,a6,wS,a0,wM,S2,op,ef,cl,sq,reduceIte,j1,j2,j3,j4,j5,j6,j7,j8,j9,S1,h0,h3,h8,h9,aC,aB,Lu,hd,lc]
   obtain⟨d1,pw,zU,rfl,qg⟩:=jd.swp (n:=n) (P:=fun x=>x=swp di a (a+k)) (x:=.cells (aJ eS (di.toList.set a di[a+k]!))) hd (by rw[Go.Sort.swp_size];exact a7) rfl ar
   refine ae _ _ _ _ _ _ _ _ (BF c n _ 0 k a _ zU pw (by omega) (by omega) hs) ?_
   rintro u H2⟨hu,d2,cz,jb,rfl,eF⟩
   cases hu
   simp -implicitDefEqProofs (maxSteps:=1000000) (disch:=omega) only[Yc,op,ef,cl,sq,reduceIte,j1,j2,j3,j4,j5,j6,j7,j8,j9,S1,h0,h3,h8,h9,aC,aB]
   exact⟨k,by omega,.i ⟨_,cz,jb,hP,qg.trans eF fun _ h=>.inl h⟩,rfl,by omega⟩
open Go.Sort in
theorem Ac (c n p sw:Nat)(d:Array ByteArray)(a b:Nat)(H:af)(hn:d.size=n)(hc:H[c]?=some (.cells (aJ eS d.toList)))(hp:H[p]?=some (.cells [.int .i64 sw]))(ha:a<n)(hb:b<n)(hs:n<2305843009213693951)(QB:sw<1000) :
  W env (.call 163 [.aA c 0 n 1,.int .i64 a,.int .i64 b,.ptr p 0]) H (VF p (order2 strLt d a b sw) H):=by
 refine W.bu rfl rfl rfl ?_
 have hd:=hc
 have ar:=a9.refl (fun x=>x=p) H
 simp -implicitDefEqProofs (maxSteps:=1000000) (disch:=omega) only[Hg,aa,aD,aE,aF,aG,aH,aI,wA,a6,wS,a0,wM,S2,op,ef,cl,sq,reduceIte,j1,j2,j3,j4,j5,j6,j7,j8,j9,S1,hd]
 refine ae _ _ _ _ _ _ _ _ (dZ d[b]! d[a]! _) ?_
 rintro u H1⟨hu,kr⟩
 cases hu
 have hx:Ext H H1:=by rw[kr];exact Ext.rfl'
 have hd:=hx.get hd
 have lc:=aM hd
 have ar:=ar.trans (ax (F:=fun _=>False) hx) (fun _ h=>h.elim)
 have kG:=hx.get hp
 have lp:=aM kG
 have cV:strLt d[b]! d[a]! = decide (strLt d[b]! d[a]! = true):=by simp
 by_cases c1:strLt d[b]! d[a]! = true
 ·simp -implicitDefEqProofs (maxSteps:=1000000) (disch:=omega) only[aa,aD,aE,aF,aG,aH,aI,wA,a6,wS,a0,wM,S2,op,ef,cl,sq,reduceIte,j1,j2,j3,j4,j5,j6,j7,j8,j9,S1,hd,c1,kG,lp]
  refine⟨?_,?_,?_⟩
  ·rw[order2,if_pos (cV.trans (ct c1))]
  ·rw[order2,if_pos (cV.trans (ct c1))];exact bR lp
  ·exact ar.set (.inl rfl) _
 ·simp -implicitDefEqProofs (maxSteps:=1000000) (disch:=omega) only[aa,aD,aE,aF,aG,aH,aI,wA,a6,wS,a0,wM,S2,op,ef,cl,sq,reduceIte,j1,j2,j3,j4,j5,j6,j7,j8,j9,S1,hd,c1,kG,lp]
  refine⟨?_,?_,?_⟩
  ·rw[order2,if_neg (by rw[cV,cr c1];simp)]
  ·rw[order2,if_neg (by rw[cV,cr c1];simp)];exact kG
  ·exact ar
open Go.Sort in
theorem wD (d:Array ByteArray){n a b sw:Nat}(ha:a<n)(hb:b<n):(Go.Sort.order2 strLt d a b sw).1<n∧(Go.Sort.order2 strLt d a b sw).2.1<n∧(Go.Sort.order2 strLt d a b sw).2.2≤sw+1:=by
 unfold Go.Sort.order2
 split
 ·exact⟨hb,ha,Nat.le_refl _⟩
 ·exact⟨ha,hb,Nat.le_succ _⟩
open Go.Sort in
theorem Ad (c n p sw:Nat)(d:Array ByteArray)(a b e:Nat)(H:af)(hn:d.size=n)(hc:H[c]?=some (.cells (aJ eS d.toList)))(hp:H[p]?=some (.cells [.int .i64 sw]))(qh:¬c=p)(ha:a<n)(hb:b<n)(he:e<n)(hs:n<2305843009213693951)(QB:sw<900) :
  W env (.call 160 [.aA c 0 n 1,.int .i64 a,.int .i64 b,.int .i64 e,.ptr p 0]) H (fun o H'=>Lv p (median strLt d a b e sw) H o H'∧(median strLt d a b e sw).1<n∧(median strLt d a b e sw).2≤sw+3):=by
 refine W.bu rfl rfl rfl ?_
 simp -implicitDefEqProofs only[He,op,ef,cl,sq,reduceIte,j1,j2,j3,j4,j5,j6,j7,j8,j9,S1]
 refine ae _ _ _ _ _ _ _ _ (Ac c n p sw d a b _ hn hc hp ha hb hs (by omega)) ?_
 rintro u H1⟨hu,kG,qg⟩
 cases hu
 have kv:=qg.get hc qh
 obtain⟨r1,DM⟩:∃r,r=order2 strLt d a b sw:=⟨_,rfl⟩
 obtain⟨q1,q2,q3⟩:=wD d (sw:=sw) ha hb
 rw[←DM]at q1 q2 q3 kG ⊢
 try simp -implicitDefEqProofs only[op,ef,cl,sq,reduceIte,j1,j2,j3,j4,j5,j6,j7,j8,j9,S1]
 refine ae _ _ _ _ _ _ _ _ (Ac c n p r1.2.2 d r1.2.1 e _ hn kv kG q2 he hs (by omega)) ?_
 rintro u H2⟨hu,lD,eF⟩
 cases hu
 have pG:=eF.get kv qh
 obtain⟨r2,vS⟩:∃r,r=order2 strLt d r1.2.1 e r1.2.2:=⟨_,rfl⟩
 obtain⟨q4,q5,q6⟩:=wD d (sw:=r1.2.2) q2 he
 rw[←vS]at q4 q5 q6 lD ⊢
 try simp -implicitDefEqProofs only[op,ef,cl,sq,reduceIte,j1,j2,j3,j4,j5,j6,j7,j8,j9,S1]
 refine ae _ _ _ _ _ _ _ _ (Ac c n p r2.2.2 d r1.1 r2.1 _ hn pG lD q1 q4 hs (by omega)) ?_
 rintro u H3⟨hu,HA,qi⟩
 cases hu
 obtain⟨q7,q8,q9⟩:=wD d (sw:=r2.2.2) q1 q4
 have e:median strLt d a b e sw=((order2 strLt d r1.1 r2.1 r2.2.2).2.1,(order2 strLt d r1.1 r2.1 r2.2.2).2.2):=by rw[median,←DM,←vS]
 rw[e]
 try simp -implicitDefEqProofs only[op,ef,cl,sq,reduceIte,j1,j2,j3,j4,j5,j6,j7,j8,j9,S1]
 exact⟨⟨rfl,HA,(qg.trans eF fun _ h=>.inl h).trans qi fun _ h=>.inl h⟩,q8,by omega⟩
open Go.Sort in
theorem wE (c n p sw:Nat)(d:Array ByteArray)(a:Nat)(H:af)(hn:d.size=n)(hc:H[c]?=some (.cells (aJ eS d.toList)))(hp:H[p]?=some (.cells [.int .i64 sw]))(qh:¬c=p)(ha:1≤a)(zj:a+1<n)(hs:n<2305843009213693951)(QB:sw<900) :
  W env (.call 159 [.aA c 0 n 1,.int .i64 a,.ptr p 0]) H (fun o H'=>Lv p (medianAdjacent strLt d a sw) H o H'∧(medianAdjacent strLt d a sw).1<n∧(medianAdjacent strLt d a sw).2≤sw+3):=by
 refine W.bu rfl rfl rfl ?_
 simp -implicitDefEqProofs (maxSteps:=1000000) (disch:=omega) only[Hc,aa,aD,aE,aF,aG,aH,aI,wA,a6,wS,a0,wM,S2,op,ef,cl,sq,reduceIte,j1,j2,j3,j4,j5,j6,j7,j8,j9,S1]
 refine ae _ _ _ _ _ _ _ _ (Ad c n p sw d (a-1) a (a+1) _ hn hc hp qh (by omega) (by omega) zj hs QB) ?_
 rintro u H1⟨⟨hu,kG,qg⟩,q1,q2⟩
 cases hu
 try simp -implicitDefEqProofs only[op,ef,cl,sq,reduceIte,j1,j2,j3,j4,j5,j6,j7,j8,j9,S1]
 exact⟨⟨rfl,kG,qg⟩,q1,q2⟩
open Go.Sort in
theorem HO (c n:Nat)(d:Array ByteArray)(a b:Nat)(H:af)(hn:d.size=n)(hc:H[c]?=some (.cells (aJ eS d.toList)))(hb:b≤n)(fG:a+12<b)(hs:n<1305843009213693951) :
  W env (.call 145 [.aA c 0 n 1,.int .i64 a,.int .i64 b]) H (fun o H'=>o=.val (.bJ [.int .i64 (choosePivot strLt d a b).1,.int .i64 (ig (choosePivot strLt d a b).2)])∧Ext H H'):=by
 refine W.bu rfl rfl rfl ?_
 have h8:8≤b-a:=by omega
 have lc:=aM hc
 have qh:¬c=H.length:=by omega
 have nG:(H++[B.cells [T.int IntKind.i64 0]])[c]?=some (.cells (aJ eS d.toList)):=by rw[aP lc];exact hc
 have VG:(H++[B.cells [T.int IntKind.i64 0]])[H.length]?=some (.cells [.int .i64 ((0:Nat):Int)]):=aK rfl
 have fin:∀H2:af,a9 (fun x=>x=H.length) (H++[B.cells [T.int IntKind.i64 0]]) H2→Ext H H2:=fun H2 hf=>nV fun x y hx=>hf.get (by rw[aP (aM hx)];exact hx) (by have:=aM hx;omega)
 by_cases wz:50≤b-a
 ·simp -implicitDefEqProofs (maxSteps:=1000000) (disch:=omega) only[Bv,aa,aD,aE,aF,aG,aH,aI,wA,a6,wS,a0,wM,S2,op,ef,cl,sq,reduceIte,j1,j2,j3,j4,j5,j6,j7,j8,j9,S1,DV,Yd,DW,Ye,h8,wz]
  refine ae _ _ _ _ _ _ _ _ (wE c n H.length 0 d _ _ hn nG VG qh (by omega) (by omega) (by omega) (by omega)) ?_
  rintro u H1⟨⟨hu,kG,qg⟩,q1,q2⟩
  cases hu
  obtain⟨ri,mS⟩:∃r,r=medianAdjacent strLt d (a+(b-a)/4*1) 0:=⟨_,rfl⟩
  rw[←mS]at q1 q2 kG ⊢
  have kv:=qg.get nG qh
  try simp -implicitDefEqProofs only[op,ef,cl,sq,reduceIte,j1,j2,j3,j4,j5,j6,j7,j8,j9,S1]
  refine ae _ _ _ _ _ _ _ _ (wE c n H.length ri.2 d _ _ hn kv kG qh (by omega) (by omega) (by omega) (by omega)) ?_
  rintro u H2⟨⟨hu,lD,eF⟩,q3,q4⟩
  cases hu
  obtain⟨rj,VH⟩:∃r,r=medianAdjacent strLt d (a+(b-a)/4*2) ri.2:=⟨_,rfl⟩
  rw[←VH]at q3 q4 lD ⊢
  have pG:=eF.get kv qh
  try simp -implicitDefEqProofs only[op,ef,cl,sq,reduceIte,j1,j2,j3,j4,j5,j6,j7,j8,j9,S1]
  refine ae _ _ _ _ _ _ _ _ (wE c n H.length rj.2 d _ _ hn pG lD qh (by omega) (by omega) (by omega) (by omega)) ?_
  rintro u H3⟨⟨hu,HA,qi⟩,q5,q6⟩
  cases hu
  obtain⟨rk,VI⟩:∃r,r=medianAdjacent strLt d (a+(b-a)/4*3) rj.2:=⟨_,rfl⟩
  rw[←VI]at q5 q6 HA ⊢
  have VJ:=qi.get pG qh
  try simp -implicitDefEqProofs only[op,ef,cl,sq,reduceIte,j1,j2,j3,j4,j5,j6,j7,j8,j9,S1]
  refine ae _ _ _ _ _ _ _ _ (Ad c n H.length rk.2 d ri.1 rj.1 rk.1 _ hn VJ HA qh q1 q3 q5 (by omega) (by omega)) ?_
  rintro u H4⟨⟨hu,mT,zb⟩,q7,q8⟩
  cases hu
  have e:choosePivot strLt d a b=((median strLt d ri.1 rj.1 rk.1 rk.2).1,if (median strLt d ri.1 rj.1 rk.1 rk.2).2=0 then .increasing else if (median strLt d ri.1 rj.1 rk.1 rk.2).2=12 then .decreasing else .unknown):=by
   simp -implicitDefEqProofs only[choosePivot,ge_iff_le,if_pos h8,if_pos wz,←mS,←VH,←VI]
  rw[e]
  have hx:=fin _ (((qg.trans eF fun _ h=>.inl h).trans qi fun _ h=>.inl h).trans zb fun _ h=>.inl h)
  generalize median strLt d ri.1 rj.1 rk.1 rk.2=r at *
  obtain⟨m,sw⟩:=r
  simp only at mT ⊢
  by_cases s0:sw=0
  ·subst s0
   have e0:(((0:Nat):Int)==0)=true:=rfl
   simp -implicitDefEqProofs only[op,ef,cl,sq,reduceIte,j1,j2,j3,j4,j5,j6,j7,j8,j9,S1,mT,e0]
   exact⟨rfl,hx⟩
  have e0:(((sw:Nat):Int)==0)=false:=by simp;omega
  by_cases s1:sw=12
  ·subst s1
   have e1:(((12:Nat):Int)==12)=true:=rfl
   simp -implicitDefEqProofs only[op,ef,cl,sq,reduceIte,j1,j2,j3,j4,j5,j6,j7,j8,j9,S1,mT,e0,e1]
   exact⟨rfl,hx⟩
  have e1:(((sw:Nat):Int)==12)=false:=by simp;omega
  simp -implicitDefEqProofs only[op,ef,cl,sq,reduceIte,j1,j2,j3,j4,j5,j6,j7,j8,j9,S1,mT,e0,e1,s0,s1]
  exact⟨rfl,hx⟩
 ·simp -implicitDefEqProofs (maxSteps:=1000000) (disch:=omega) only[Bv,aa,aD,aE,aF,aG,aH,aI,wA,a6,wS,a0,wM,S2,op,ef,cl,sq,reduceIte,j1,j2,j3,j4,j5,j6,j7,j8,j9,S1,DV,Yd,DW,Ye,h8,wz]
  refine ae _ _ _ _ _ _ _ _ (Ad c n H.length 0 d _ _ _ _ hn nG VG qh (by omega) (by omega) (by omega) (by omega) (by omega)) ?_
  rintro u H4⟨⟨hu,mT,zb⟩,q7,q8⟩
  cases hu
  have e:choosePivot strLt d a b=((median strLt d (a+(b-a)/4*1) (a+(b-a)/4*2) (a+(b-a)/4*3) 0).1,if (median strLt d (a+(b-a)/4*1) (a+(b-a)/4*2) (a+(b-a)/4*3) 0).2=0 then .increasing else if (median strLt d (a+(b-a)/4*1) (a+(b-a)/4*2) (a+(b-a)/4*3) 0).2=12 then .decreasing else .unknown):=by
   simp -implicitDefEqProofs only[choosePivot,ge_iff_le,if_pos h8,if_neg wz]
  rw[e]
  have hx:=fin _ zb
  generalize median strLt d (a+(b-a)/4*1) (a+(b-a)/4*2) (a+(b-a)/4*3) 0=r at *
  obtain⟨m,sw⟩:=r
  simp only at mT ⊢
  by_cases s0:sw=0
  ·subst s0
   have e0:(((0:Nat):Int)==0)=true:=rfl
   simp -implicitDefEqProofs only[op,ef,cl,sq,reduceIte,j1,j2,j3,j4,j5,j6,j7,j8,j9,S1,mT,e0]
   exact⟨rfl,hx⟩
  have e0:(((sw:Nat):Int)==0)=false:=by simp;omega
  by_cases s1:sw=12
  ·subst s1
   have e1:(((12:Nat):Int)==12)=true:=rfl
   simp -implicitDefEqProofs only[op,ef,cl,sq,reduceIte,j1,j2,j3,j4,j5,j6,j7,j8,j9,S1,mT,e0,e1]
   exact⟨rfl,hx⟩
  have e1:(((sw:Nat):Int)==12)=false:=by simp;omega
  simp -implicitDefEqProofs only[op,ef,cl,sq,reduceIte,j1,j2,j3,j4,j5,j6,j7,j8,j9,S1,mT,e0,e1,s0,s1]
  exact⟨rfl,hx⟩
def yC (a len md:Nat)(d:Array ByteArray):Nat→UInt64×Array ByteArray
 | 0=>(UInt64.ofNat len,d)
 | j+1=>Go.Sort.breakStep a len md (yC a len md d j) (a+len/4*2-1+j)
open Go.Sort in
theorem LM (c n:Nat)(d:Array ByteArray)(a b:Nat)(H:af)(hn:d.size=n)(hc:H[c]?=some (.cells (aJ eS d.toList)))(hb:b≤n)(fG:a+12<b)(hs:n<16777216) :
  W env (.call 144 [.aA c 0 n 1,.int .i64 a,.int .i64 b]) H (sP c n (breakPatterns d a b) H):=by
 refine W.bu rfl rfl rfl ?_
 have h8:8≤b-a:=by omega
 have lc:=aM hc
 obtain⟨len,hlen⟩:∃len,len=b-a:=⟨_,rfl⟩
 have wl:IntKind.u64.wrap ((len:Nat):Int)=(len:Int):=qz (by omega)
 rw[←hlen]at h8
 simp -implicitDefEqProofs (maxSteps:=1000000) (disch:=omega) only[GY,aa,aD,aE,aF,aG,aH,aI,wA,a6,wS,a0,wM,S2,op,ef,cl,sq,reduceIte,j1,j2,j3,j4,j5,j6,j7,j8,j9,S1,DV,DW,←hlen,wl,h8]
 refine ae _ _ _ _ _ _ _ _ (HE len (by omega) _) ?_
 rintro u H1⟨hu,rfl⟩
 cases hu
 obtain⟨md,VN⟩:∃md,md=1 <<< bitsLen len:=⟨_,rfl⟩
 have OT:=yA (n:=len) (by omega)
 have Lr:1≤1 <<< bitsLen len:=by rw[Nat.one_shiftLeft];exact Nat.one_le_two_pow
 rw[←VN]at Lr OT ⊢
 have hq:len/4*2≤len:=by omega
 obtain⟨ix,xu⟩:∃ix,ix=a+len/4*2-1:=⟨_,rfl⟩
 have vT:breakPatterns d a b=(yC a len md d 3).2:=by
  simp -implicitDefEqProofs only[breakPatterns,←hlen,ge_iff_le,if_pos h8,yC,←VN,Nat.add_zero]
 simp -implicitDefEqProofs (maxSteps:=1000000) (disch:=omega) only[aa,aD,aE,aF,aG,aH,aI,wA,a6,wS,a0,wM,S2,op,ef,cl,sq,reduceIte,j1,j2,j3,j4,j5,j6,j7,j8,j9,S1,DV,DW,←xu]
 have kv:(H++[B.cells [T.int IntKind.u64 len]])[c]?=some (.cells (aJ eS d.toList)):=by rw[aP lc];exact hc
 have kG:(H++[B.cells [T.int IntKind.u64 len]])[H.length]?=some (.cells [.int .u64 (UInt64.ofNat len).toNat]):=by
  rw[aK rfl,UInt64.toNat_ofNat_of_lt' (by show len<18446744073709551616;omega)]
 refine W.cK (fun (j:Nat) R H'=>At H' (fun H'=>∃d':Array ByteArray,H'[c]?=some (.cells (aJ eS d'.toList))∧d'.size=n∧d'=(yC a len md d j).2∧H'[H.length]?=some (.cells [.int .u64 (yC a len md d j).1.toNat])∧a9 (fun x=>x=c∨x=H.length) (H++[B.cells [T.int IntKind.u64 len]]) H')∧R 0=.aA c 0 n 1∧R 1=.int .i64 a∧R 6=.int .i64 len∧R 7=.ptr H.length 0∧R 8=.int .u64 md∧R 9=.int .i64 (ix+j:Nat)∧j≤3) (fun j=>3-j) 0 ⟨.i ⟨d,kv,hn,rfl,kG,a9.refl _ _⟩,rfl,rfl,rfl,rfl,rfl,rfl,by omega⟩ ?_
 rintro j R H1⟨⟨di,hd,a7,VO,hp,ar⟩,h0,h1,LA,h9,aC,bf,hj⟩
 by_cases hj3:j<3
 ·have hle:ix+j≤a+len/4*2+1:=by omega
  simp -implicitDefEqProofs (maxSteps:=1000000) (disch:=omega) only[aa,aD,aE,aF,aG,aH,aI,wA,a6,wS,a0,wM,S2,op,ef,cl,sq,reduceIte,j1,j2,j3,j4,j5,j6,j7,j8,j9,S1,DV,DW,h0,h1,LA,h9,aC,bf,hle]
  refine ae _ _ _ _ _ _ _ _ (NH H.length _ _ hp) ?_
  rintro u H2⟨hu,lD,eF⟩
  cases hu
  have hd:=eF.get hd (by omega)
  have z7:=aM hd
  obtain⟨r,hr⟩:∃r,r=xorNext (yC a len md d j).1:=⟨_,rfl⟩
  rw[←hr]at lD ⊢
  obtain⟨ot,LB⟩:∃ot,ot=r.toNat &&& (md-1):=⟨_,rfl⟩
  have hol:ot≤md-1:=by rw[LB];exact Nat.and_le_right
  have b0:yC a len md d (j+1)=(r,swp di (ix+j) (a+if ot≥len then ot-len else ot)):=by
   simp -implicitDefEqProofs only[yC,breakStep,←hr,←VO,←LB,←xu]
  have bQ:¬(c=H.length):=by omega
  by_cases dJ:len≤ot
  ·rw[if_pos dJ]at b0
   simp -implicitDefEqProofs (maxSteps:=1000000) (disch:=omega) only[aa,aD,aE,aF,aG,aH,aI,wA,a6,wS,a0,wM,S2,op,ef,cl,sq,reduceIte,j1,j2,j3,j4,j5,j6,j7,j8,j9,S1,Yf,BE,wN,←LB,h0,h1,LA,h9,aC,bf,dJ,hd,z7]
   refine⟨j+1,by omega,.i ⟨swp di (ix+j) (a+(ot-len)),bR (by rw[List.length_set];exact z7),by rw[swp_size];exact a7,by rw[b0],?_,((ar.trans eF fun x h=>.inl (.inr h)).set (.inl (.inl rfl)) _).set (.inl (.inl rfl)) _⟩,rfl,by omega⟩
   rw[bl bQ,bl bQ,lD,b0]
  ·rw[if_neg dJ]at b0
   simp -implicitDefEqProofs (maxSteps:=1000000) (disch:=omega) only[aa,aD,aE,aF,aG,aH,aI,wA,a6,wS,a0,wM,S2,op,ef,cl,sq,reduceIte,j1,j2,j3,j4,j5,j6,j7,j8,j9,S1,Yf,BE,wN,←LB,h0,h1,LA,h9,aC,bf,dJ,hd,z7]
   refine⟨j+1,by omega,.i ⟨swp di (ix+j) (a+ot),bR (by rw[List.length_set];exact z7),by rw[swp_size];exact a7,by rw[b0],?_,((ar.trans eF fun x h=>.inl (.inr h)).set (.inl (.inl rfl)) _).set (.inl (.inl rfl)) _⟩,rfl,by omega⟩
   rw[bl bQ,bl bQ,lD,b0]
 ·have Ln:j=3:=by omega
  subst Ln
  have hle:¬(ix+3≤a+len/4*2+1):=by omega
  simp -implicitDefEqProofs (maxSteps:=1000000) (disch:=omega) only[aa,aD,aE,aF,aG,aH,aI,wA,a6,wS,a0,wM,S2,op,ef,cl,sq,reduceIte,j1,j2,j3,j4,j5,j6,j7,j8,j9,S1,DV,DW,h0,h1,LA,h9,aC,bf,hle]
  exact⟨rfl,di,hd,a7,by rw[vT,VO],(ax (F:=fun x=>x=c) (H:=H) (H':=H++[B.cells [T.int IntKind.u64 len]]) ⟨_,rfl⟩).trans ar fun x h=>h.elim .inl fun e=>.inr (by omega)⟩
open Go.Sort in
theorem lg {p:ByteArray→Bool}{d:Array ByteArray}{i k:Nat}(h:1≤i):scanDown p d i k=if (decide (i≤k)&&p d[k]!)=true then scanDown p d i (k-1)else k:=by
 cases k with
 | zero=>rw[scanDown,if_neg (dw (cr (by omega)))]
 | succ k=>rw[scanDown];rfl
open Go.Sort in
theorem LN {a i j si sj:Nat}{d:Array ByteArray}(hi:si=scanUp (fun x=>!strLt d[a]! x) d j i)(hj:sj=scanDown (fun x=>strLt d[a]! x) d si j):partEqLoop strLt a i j d=if si>sj then(si,d)else if (sj-1)+1-(si+1)<j+1-i then partEqLoop strLt a (si+1) (sj-1) (swp d si sj)else(si,d):=by
 subst hi;subst hj
 rw[partEqLoop]
 rfl
open Go.Sort in
theorem V2 (c n:Nat)(d:Array ByteArray)(a b pv:Nat)(H:af)(hn:d.size=n)(hc:H[c]?=some (.cells (aJ eS d.toList)))(hb:b≤n)(fG:a<b)(ni:pv<n)(hs:n<2305843009213693951) :
  W env (.call 149 [.aA c 0 n 1,.int .i64 a,.int .i64 b,.int .i64 pv]) H (fun o H'=>o=.val (.int .i64 (partitionEqual strLt d a b pv).1)∧jd c n H (fun x=>x=(partitionEqual strLt d a b pv).2) H'):=by
 refine W.bu rfl rfl rfl ?_
 have hd:=hc
 have lc:=aM hd
 simp -implicitDefEqProofs (maxSteps:=1000000) (disch:=omega) only[G3,aa,aD,aE,aF,aG,aH,aI,wA,a6,wS,a0,wM,S2,op,ef,cl,sq,reduceIte,j1,j2,j3,j4,j5,j6,j7,j8,j9,S1,hd,lc]
 obtain⟨d1,pw,zU,e1,qg⟩:=jd.swp (n:=n) (P:=fun x=>x=swp d a pv) (x:=.cells (aJ eS (d.toList.set a d[pv]!))) hd (by rw[Go.Sort.swp_size];exact hn) rfl (a9.refl (fun x=>x=c) H)
 subst e1
 generalize ((H.set c (.cells (aJ eS (d.toList.set a d[pv]!)))).set c (.cells (aJ eS (swp d a pv).toList)))=H1 at *
 refine W.cT 0 (fun (q:Nat×Nat) R H'=>At H' (fun H'=>jd c n H (fun di=>partEqLoop strLt a q.1 q.2 di=partitionEqual strLt d a b pv) H')∧R 0=.aA c 0 n 1∧R 1=.int .i64 a∧R 0=.aA c 0 n 1∧R 9=.int .i64 q.1∧R 10=.int .i64 q.2∧a<q.1∧q.2<n∧q.1≤n) (fun q=>q.2+1-q.1) (a+1,b-1)
  (fun R H'=>At H' (fun H'=>jd c n H (fun di=>di=(partitionEqual strLt d a b pv).2) H')∧R 9=.int .i64 (partitionEqual strLt d a b pv).1) ⟨.i ⟨_,pw,zU,rfl,qg⟩,rfl,rfl,rfl,rfl,rfl,by omega,by simp only;omega,by simp only;omega⟩ ?_ ?_
 ·rintro⟨i,j⟩ R H1 ⟨⟨di,hd,a7,hP,ar⟩,h0,h1,h4,bf,aB,Hw,zw,iP⟩
  simp only at hP bf aB Hw zw iP ⊢
  simp -implicitDefEqProofs only[op,ef,cl,sq,reduceIte,j1,j2,j3,j4,j5,j6,j7,j8,j9,S1,h0,h1,h4,bf,aB]
  obtain⟨si,qj⟩:∃si,si=scanUp (fun x=>!strLt di[a]! x) di j i:=⟨_,rfl⟩
  refine W.cT 2 (fun (k:Nat) R H'=>At H' (fun H'=>H'[c]?=some (.cells (aJ eS di.toList))∧a9 (fun x=>x=c) H H')∧R 0=.aA c 0 n 1∧R 1=.int .i64 a∧R 0=.aA c 0 n 1∧R 9=.int .i64 k∧R 10=.int .i64 j∧i≤k∧k≤n∧scanUp (fun x=>!strLt di[a]! x) di j k=si) (fun k=>j+1-k) i
   (fun R H'=>At H' (fun H'=>H'[c]?=some (.cells (aJ eS di.toList))∧a9 (fun x=>x=c) H H')∧R 0=.aA c 0 n 1∧R 1=.int .i64 a∧R 0=.aA c 0 n 1∧R 9=.int .i64 si∧R 10=.int .i64 j∧i≤si∧si≤n) ⟨.i ⟨hd,ar⟩,h0,h1,h4,bf,aB,Nat.le_refl _,iP,qj.symm⟩ ?_ ?_
  ·rintro k R H2⟨⟨hd,ar⟩,h0,h1,h4,bf,aB,sM,qe,hk⟩
   have lc:=aM hd
   by_cases fk:k≤j
   ·simp -implicitDefEqProofs (maxSteps:=1000000) (disch:=omega) only[aa,aD,aE,aF,aG,aH,aI,wA,a6,wS,a0,wM,S2,op,ef,cl,sq,reduceIte,j1,j2,j3,j4,j5,j6,j7,j8,j9,S1,h0,h1,h4,bf,aB,fk,hd,lc]
    refine ae _ _ _ _ _ _ _ _ (dZ di[a]! di[k]! _) ?_
    rintro u H3⟨hu,kr⟩
    cases hu
    have hx:Ext H2 H3:=by rw[kr];exact Ext.rfl'
    have hd:=hx.get hd
    have lc:=aM hd
    have ar:=ar.trans (ax (F:=fun _=>False) hx) (fun _ h=>h.elim)
    have cV:strLt di[a]! di[k]! = decide (strLt di[a]! di[k]! = true):=by simp
    by_cases c1:strLt di[a]! di[k]! = true
    ·simp -implicitDefEqProofs (maxSteps:=1000000) (disch:=omega) only[aa,aD,aE,aF,aG,aH,aI,wA,a6,wS,a0,wM,S2,op,ef,cl,sq,reduceIte,j1,j2,j3,j4,j5,j6,j7,j8,j9,S1,h0,h1,h4,bf,aB,fk,c1]
     rw[scanUp,if_neg (eb (by rw[cV,ct c1];rfl))]at hk
     subst hk
     exact⟨.i ⟨hd,ar⟩,rfl,sM,qe⟩
    ·simp -implicitDefEqProofs (maxSteps:=1000000) (disch:=omega) only[aa,aD,aE,aF,aG,aH,aI,wA,a6,wS,a0,wM,S2,op,ef,cl,sq,reduceIte,j1,j2,j3,j4,j5,j6,j7,j8,j9,S1,h0,h1,h4,bf,aB,fk,c1]
     rw[scanUp,if_pos (gg (ct fk) (fE (cV.trans (cr c1))))]at hk
     exact⟨k+1,by omega,.i ⟨hd,ar⟩,rfl,by omega,by omega,hk⟩
   ·simp -implicitDefEqProofs (maxSteps:=1000000) (disch:=omega) only[op,ef,cl,sq,reduceIte,j1,j2,j3,j4,j5,j6,j7,j8,j9,S1,h0,h1,h4,bf,aB,fk]
    try simp -implicitDefEqProofs only[op,ef,cl,sq,reduceIte,j1,j2,j3,j4,j5,j6,j7,j8,j9,S1,h0,h1,h4,bf,aB,fk]
    rw[scanUp,if_neg (dw (cr fk))]at hk
    subst hk
    exact⟨.i ⟨hd,ar⟩,rfl,sM,qe⟩
  ·rintro R H2⟨⟨hd,ar⟩,h0,h1,h4,bf,aB,z8,HF⟩
   simp -implicitDefEqProofs only[op,ef,cl,sq,reduceIte,j1,j2,j3,j4,j5,j6,j7,j8,j9,S1,h0,h1,h4,bf,aB]
   obtain⟨sj,ua⟩:∃sj,sj=scanDown (fun x=>strLt di[a]! x) di si j:=⟨_,rfl⟩
   refine W.cT 4 (fun (k:Nat) R H'=>At H' (fun H'=>H'[c]?=some (.cells (aJ eS di.toList))∧a9 (fun x=>x=c) H H')∧R 0=.aA c 0 n 1∧R 1=.int .i64 a∧R 0=.aA c 0 n 1∧R 9=.int .i64 si∧R 10=.int .i64 k∧k≤j∧scanDown (fun x=>strLt di[a]! x) di si k=sj) (fun k=>k) j
    (fun R H'=>At H' (fun H'=>H'[c]?=some (.cells (aJ eS di.toList))∧a9 (fun x=>x=c) H H')∧R 0=.aA c 0 n 1∧R 1=.int .i64 a∧R 0=.aA c 0 n 1∧R 9=.int .i64 si∧R 10=.int .i64 sj∧sj≤j) ⟨.i ⟨hd,ar⟩,h0,h1,h4,bf,aB,Nat.le_refl _,ua.symm⟩ ?_ ?_
   ·rintro k R H3⟨⟨hd,ar⟩,h0,h1,h4,bf,aB,fk,hk⟩
    have lc:=aM hd
    rw[lg (by omega)]at hk
    by_cases bO:si≤k
    ·simp -implicitDefEqProofs (maxSteps:=1000000) (disch:=omega) only[aa,aD,aE,aF,aG,aH,aI,wA,a6,wS,a0,wM,S2,op,ef,cl,sq,reduceIte,j1,j2,j3,j4,j5,j6,j7,j8,j9,S1,h0,h1,h4,bf,aB,bO,hd,lc]
     refine ae _ _ _ _ _ _ _ _ (dZ di[a]! di[k]! _) ?_
     rintro u H4⟨hu,kr⟩
     cases hu
     have hx:Ext H3 H4:=by rw[kr];exact Ext.rfl'
     have hd:=hx.get hd
     have lc:=aM hd
     have ar:=ar.trans (ax (F:=fun _=>False) hx) (fun _ h=>h.elim)
     have cV:strLt di[a]! di[k]! = decide (strLt di[a]! di[k]! = true):=by simp
     by_cases c1:strLt di[a]! di[k]! = true
     ·simp -implicitDefEqProofs (maxSteps:=1000000) (disch:=omega) only[aa,aD,aE,aF,aG,aH,aI,wA,a6,wS,a0,wM,S2,op,ef,cl,sq,reduceIte,j1,j2,j3,j4,j5,j6,j7,j8,j9,S1,h0,h1,h4,bf,aB,bO,c1]
      rw[if_pos (gg (ct bO) (cV.trans (ct c1)))]at hk
      exact⟨k-1,by omega,.i ⟨hd,ar⟩,rfl,by omega,hk⟩
     ·simp -implicitDefEqProofs (maxSteps:=1000000) (disch:=omega) only[aa,aD,aE,aF,aG,aH,aI,wA,a6,wS,a0,wM,S2,op,ef,cl,sq,reduceIte,j1,j2,j3,j4,j5,j6,j7,j8,j9,S1,h0,h1,h4,bf,aB,bO,c1]
      rw[if_neg (eb (cV.trans (cr c1)))]at hk
      subst hk
      exact⟨.i ⟨hd,ar⟩,rfl,fk⟩
    ·simp -implicitDefEqProofs only[op,ef,cl,sq,reduceIte,j1,j2,j3,j4,j5,j6,j7,j8,j9,S1,h0,h1,h4,bf,aB,bO]
     rw[if_neg (dw (cr bO))]at hk
     subst hk
     exact⟨.i ⟨hd,ar⟩,rfl,fk⟩
   ·rintro R H3⟨⟨hd,ar⟩,h0,h1,h4,bf,aB,HG⟩
    have lc:=aM hd
    rw[LN qj ua]at hP
    by_cases lI:sj<si
    ·rw[if_pos lI]at hP
     simp -implicitDefEqProofs only[op,ef,cl,sq,reduceIte,j1,j2,j3,j4,j5,j6,j7,j8,j9,S1,h0,h1,h4,bf,aB,lI]
     exact⟨.i ⟨di,hd,a7,by rw[←hP],ar⟩,by rw[←hP]⟩
    ·rw[if_neg lI,if_pos (by omega)]at hP
     simp -implicitDefEqProofs (maxSteps:=1000000) (disch:=omega) only[aa,aD,aE,aF,aG,aH,aI,wA,a6,wS,a0,wM,S2,op,ef,cl,sq,reduceIte,j1,j2,j3,j4,j5,j6,j7,j8,j9,S1,h0,h1,h4,bf,aB,lI,hd,lc]
     exact⟨(si+1,sj-1),by simp only;omega,.i (.swp hd (by rw[swp_size];exact a7) hP ar),rfl,rfl,by simp only;omega,by simp only;omega,by simp only;omega⟩
 ·rintro R H1⟨⟨di,hd,a7,hP,ar⟩,bf⟩
  simp -implicitDefEqProofs only[op,ef,cl,sq,reduceIte,j1,j2,j3,j4,j5,j6,j7,j8,j9,S1,bf]
  exact⟨di,hd,a7,hP,ar⟩
open Go.Sort in
theorem HP {a i j si sj:Nat}{d:Array ByteArray}(hi:si=scanUp (fun x=>strLt x d[a]!) d j i)(hj:sj=scanDown (fun x=>!strLt x d[a]!) d si j):partLoop strLt a i j d=if si>sj then(sj,d)else if (sj-1)+1-(si+1)<j+1-i then partLoop strLt a (si+1) (sj-1) (swp d si sj)else(sj,d):=by
 subst hi;subst hj
 rw[partLoop]
 rfl
open Go.Sort in
theorem QQ (c n:Nat)(d:Array ByteArray)(a b pv:Nat)(H:af)(hn:d.size=n)(hc:H[c]?=some (.cells (aJ eS d.toList)))(hb:b≤n)(fG:a<b)(ni:pv<n)(hs:n<2305843009213693951) :
  W env (.call 150 [.aA c 0 n 1,.int .i64 a,.int .i64 b,.int .i64 pv]) H (fun o H'=>o=.val (.bJ [.int .i64 (partition strLt d a b pv).1,.bool (partition strLt d a b pv).2.1])∧jd c n H (fun x=>x=(partition strLt d a b pv).2.2) H'):=by
 refine W.bu rfl rfl rfl ?_
 have hd:=hc
 have lc:=aM hd
 simp -implicitDefEqProofs (maxSteps:=1000000) (disch:=omega) only[G4,aa,aD,aE,aF,aG,aH,aI,wA,a6,wS,a0,wM,S2,op,ef,cl,sq,reduceIte,j1,j2,j3,j4,j5,j6,j7,j8,j9,S1,hd,lc]
 obtain⟨d1,pw,zU,e1,qg⟩:=jd.swp (n:=n) (P:=fun x=>x=swp d a pv) (x:=.cells (aJ eS (d.toList.set a d[pv]!))) hd (by rw[Go.Sort.swp_size];exact hn) rfl (a9.refl (fun x=>x=c) H)
 subst e1
 generalize ((H.set c (.cells (aJ eS (d.toList.set a d[pv]!)))).set c (.cells (aJ eS (swp d a pv).toList)))=H1 at *
 have hd:=pw
 have ar:=qg
 obtain⟨si,qj⟩:∃si,si=scanUp (fun x=>strLt x (swp d a pv)[a]!) (swp d a pv) (b-1) (a+1):=⟨_,rfl⟩
 refine W.cT 0 (fun (k:Nat) R H'=>At H' (fun H'=>H'[c]?=some (.cells (aJ eS (swp d a pv).toList))∧a9 (fun x=>x=c) H H')∧R 0=.aA c 0 n 1∧R 1=.int .i64 a∧R 0=.aA c 0 n 1∧R 10=.int .i64 k∧R 11=.int .i64 ((b-1):Nat)∧(a+1)≤k∧k≤n∧scanUp (fun x=>strLt x (swp d a pv)[a]!) (swp d a pv) ((b-1)) k=si) (fun k=>(b-1)+1-k) ((a+1))
  (fun R H'=>At H' (fun H'=>H'[c]?=some (.cells (aJ eS (swp d a pv).toList))∧a9 (fun x=>x=c) H H')∧R 0=.aA c 0 n 1∧R 1=.int .i64 a∧R 0=.aA c 0 n 1∧R 10=.int .i64 si∧R 11=.int .i64 ((b-1):Nat)∧(a+1)≤si∧si≤n) ⟨.i ⟨hd,ar⟩,rfl,rfl,rfl,rfl,rfl,Nat.le_refl _,by omega,qj.symm⟩ ?_ ?_
 ·rintro k R H2⟨⟨hd,ar⟩,h0,h1,h4,aB,bn,sM,qe,hk⟩
  have lc:=aM hd
  by_cases fk:k≤(b-1)
  ·simp -implicitDefEqProofs (maxSteps:=1000000) (disch:=omega) only[aa,aD,aE,aF,aG,aH,aI,wA,a6,wS,a0,wM,S2,op,ef,cl,sq,reduceIte,j1,j2,j3,j4,j5,j6,j7,j8,j9,S1,h0,h1,h4,aB,bn,fk,hd,lc]
   refine ae _ _ _ _ _ _ _ _ (dZ (swp d a pv)[k]! (swp d a pv)[a]! _) ?_
   rintro u H3⟨hu,kr⟩
   cases hu
   have hx:Ext H2 H3:=by rw[kr];exact Ext.rfl'
   have hd:=hx.get hd
   have lc:=aM hd
   have ar:=ar.trans (ax (F:=fun _=>False) hx) (fun _ h=>h.elim)
   have cV:strLt (swp d a pv)[k]! (swp d a pv)[a]! = decide (strLt (swp d a pv)[k]! (swp d a pv)[a]! = true):=by simp
   by_cases c1:strLt (swp d a pv)[k]! (swp d a pv)[a]! = true
   ·simp -implicitDefEqProofs (maxSteps:=1000000) (disch:=omega) only[aa,aD,aE,aF,aG,aH,aI,wA,a6,wS,a0,wM,S2,op,ef,cl,sq,reduceIte,j1,j2,j3,j4,j5,j6,j7,j8,j9,S1,h0,h1,h4,aB,bn,fk,c1]
    rw[scanUp,if_pos (gg (ct fk) (cV.trans (ct c1)))]at hk
    exact⟨k+1,by omega,.i ⟨hd,ar⟩,rfl,by omega,by omega,hk⟩
   ·simp -implicitDefEqProofs (maxSteps:=1000000) (disch:=omega) only[aa,aD,aE,aF,aG,aH,aI,wA,a6,wS,a0,wM,S2,op,ef,cl,sq,reduceIte,j1,j2,j3,j4,j5,j6,j7,j8,j9,S1,h0,h1,h4,aB,bn,fk,c1]
    rw[scanUp,if_neg (eb (cV.trans (cr c1)))]at hk
    subst hk
    exact⟨.i ⟨hd,ar⟩,rfl,sM,qe⟩
  ·simp -implicitDefEqProofs only[op,ef,cl,sq,reduceIte,j1,j2,j3,j4,j5,j6,j7,j8,j9,S1,h0,h1,h4,aB,bn,fk]
   rw[scanUp,if_neg (dw (cr fk))]at hk
   subst hk
   exact⟨.i ⟨hd,ar⟩,rfl,sM,qe⟩
 ·rintro R H2⟨⟨hd,ar⟩,h0,h1,h4,aB,bn,z8,HF⟩
  simp -implicitDefEqProofs only[op,ef,cl,sq,reduceIte,j1,j2,j3,j4,j5,j6,j7,j8,j9,S1,h0,h1,h4,aB,bn]
  obtain⟨sj,ua⟩:∃sj,sj=scanDown (fun x=>!strLt x (swp d a pv)[a]!) (swp d a pv) si (b-1):=⟨_,rfl⟩
  refine W.cT 2 (fun (k:Nat) R H'=>At H' (fun H'=>H'[c]?=some (.cells (aJ eS (swp d a pv).toList))∧a9 (fun x=>x=c) H H')∧R 0=.aA c 0 n 1∧R 1=.int .i64 a∧R 0=.aA c 0 n 1∧R 10=.int .i64 si∧R 11=.int .i64 k∧k≤(b-1)∧scanDown (fun x=>!strLt x (swp d a pv)[a]!) (swp d a pv) si k=sj) (fun k=>k) ((b-1))
   (fun R H'=>At H' (fun H'=>H'[c]?=some (.cells (aJ eS (swp d a pv).toList))∧a9 (fun x=>x=c) H H')∧R 0=.aA c 0 n 1∧R 1=.int .i64 a∧R 0=.aA c 0 n 1∧R 10=.int .i64 si∧R 11=.int .i64 sj∧sj≤(b-1)) ⟨.i ⟨hd,ar⟩,h0,h1,h4,aB,bn,Nat.le_refl _,ua.symm⟩ ?_ ?_
  ·rintro k R H3⟨⟨hd,ar⟩,h0,h1,h4,aB,bn,fk,hk⟩
   have lc:=aM hd
   rw[lg (by omega)]at hk
   by_cases bO:si≤k
   ·simp -implicitDefEqProofs (maxSteps:=1000000) (disch:=omega) only[aa,aD,aE,aF,aG,aH,aI,wA,a6,wS,a0,wM,S2,op,ef,cl,sq,reduceIte,j1,j2,j3,j4,j5,j6,j7,j8,j9,S1,h0,h1,h4,aB,bn,bO,hd,lc]
    refine ae _ _ _ _ _ _ _ _ (dZ (swp d a pv)[k]! (swp d a pv)[a]! _) ?_
    rintro u H4⟨hu,kr⟩
    cases hu
    have hx:Ext H3 H4:=by rw[kr];exact Ext.rfl'
    have hd:=hx.get hd
    have lc:=aM hd
    have ar:=ar.trans (ax (F:=fun _=>False) hx) (fun _ h=>h.elim)
    have cV:strLt (swp d a pv)[k]! (swp d a pv)[a]! = decide (strLt (swp d a pv)[k]! (swp d a pv)[a]! = true):=by simp
    by_cases c1:strLt (swp d a pv)[k]! (swp d a pv)[a]! = true
    ·simp -implicitDefEqProofs (maxSteps:=1000000) (disch:=omega) only[aa,aD,aE,aF,aG,aH,aI,wA,a6,wS,a0,wM,S2,op,ef,cl,sq,reduceIte,j1,j2,j3,j4,j5,j6,j7,j8,j9,S1,h0,h1,h4,aB,bn,bO,c1]
     rw[if_neg (eb (by rw[cV,ct c1];rfl))]at hk
     subst hk
     exact⟨.i ⟨hd,ar⟩,rfl,fk⟩
    ·simp -implicitDefEqProofs (maxSteps:=1000000) (disch:=omega) only[aa,aD,aE,aF,aG,aH,aI,wA,a6,wS,a0,wM,S2,op,ef,cl,sq,reduceIte,j1,j2,j3,j4,j5,j6,j7,j8,j9,S1,h0,h1,h4,aB,bn,bO,c1]
     rw[if_pos (gg (ct bO) (fE (cV.trans (cr c1))))]at hk
     exact⟨k-1,by omega,.i ⟨hd,ar⟩,rfl,by omega,hk⟩
   ·simp -implicitDefEqProofs only[op,ef,cl,sq,reduceIte,j1,j2,j3,j4,j5,j6,j7,j8,j9,S1,h0,h1,h4,aB,bn,bO]
    rw[if_neg (dw (cr bO))]at hk
    subst hk
    exact⟨.i ⟨hd,ar⟩,rfl,fk⟩
  ·rintro R H3⟨⟨hd,ar⟩,h0,h1,h4,aB,bn,HG⟩
   have lc:=aM hd
   by_cases lI:sj<si
   ·have e:partition strLt d a b pv=(sj,true,swp (swp d a pv) sj a):=by
     simp -implicitDefEqProofs only[partition,←qj,←ua,gt_iff_lt,if_pos lI]
    rw[e]
    simp -implicitDefEqProofs (maxSteps:=1000000) (disch:=omega) only[aa,aD,aE,aF,aG,aH,aI,wA,a6,wS,a0,wM,S2,op,ef,cl,sq,reduceIte,j1,j2,j3,j4,j5,j6,j7,j8,j9,S1,h0,h1,h4,aB,bn,lI,hd,lc]
    exact .swp hd (by rw[swp_size];exact zU) rfl ar
   ·obtain⟨r,hr⟩:∃r,r=partLoop strLt a (si+1) (sj-1) (swp (swp d a pv) si sj):=⟨_,rfl⟩
    have e:partition strLt d a b pv=(r.1,false,swp r.2 r.1 a):=by
     simp -implicitDefEqProofs only[partition,←qj,←ua,gt_iff_lt,if_neg lI,←hr]
    rw[e]
    simp -implicitDefEqProofs (maxSteps:=1000000) (disch:=omega) only[aa,aD,aE,aF,aG,aH,aI,wA,a6,wS,a0,wM,S2,op,ef,cl,sq,reduceIte,j1,j2,j3,j4,j5,j6,j7,j8,j9,S1,h0,h1,h4,aB,bn,lI,hd,lc]
    obtain⟨d2,cz,jb,e2,eF⟩:=jd.swp (n:=n) (P:=fun x=>x=swp (swp d a pv) si sj) (x:=.cells (aJ eS ((swp d a pv).toList.set si (swp d a pv)[sj]!))) hd (by rw[swp_size];exact zU) rfl ar
    subst e2
    generalize ((H3.set c (.cells (aJ eS ((swp d a pv).toList.set si (swp d a pv)[sj]!)))).set c (.cells (aJ eS (swp (swp d a pv) si sj).toList)))=H5 at *
    refine W.cT 4 (fun (q:Nat×Nat) R H'=>At H' (fun H'=>jd c n H (fun di=>partLoop strLt a q.1 q.2 di=r) H')∧R 0=.aA c 0 n 1∧R 1=.int .i64 a∧R 0=.aA c 0 n 1∧R 10=.int .i64 q.1∧R 11=.int .i64 q.2∧a<q.1∧q.2<n∧q.1≤n) (fun q=>q.2+1-q.1) (si+1,sj-1)
     (fun R H'=>At H' (fun H'=>jd c n H (fun di=>di=r.2) H')∧R 0=.aA c 0 n 1∧R 1=.int .i64 a∧R 0=.aA c 0 n 1∧R 11=.int .i64 r.1∧r.1<n) ⟨.i ⟨_,cz,jb,hr.symm,eF⟩,?_,?_,?_,?_,?_,by simp only;omega,by simp only;omega,by simp only;omega⟩ ?_ ?_
    ·simp -implicitDefEqProofs only[op,ef,cl,sq,reduceIte,j1,j2,j3,j4,j5,j6,j7,j8,j9,S1,h0]
    ·simp -implicitDefEqProofs only[op,ef,cl,sq,reduceIte,j1,j2,j3,j4,j5,j6,j7,j8,j9,S1,h1]
    ·simp -implicitDefEqProofs only[op,ef,cl,sq,reduceIte,j1,j2,j3,j4,j5,j6,j7,j8,j9,S1,h4]
    ·simp -implicitDefEqProofs only[op,ef,cl,sq,reduceIte,j1,j2,j3,j4,j5,j6,j7,j8,j9,S1,aB]
    ·simp -implicitDefEqProofs only[op,ef,cl,sq,reduceIte,j1,j2,j3,j4,j5,j6,j7,j8,j9,S1,bn]
    ·rintro⟨i,j⟩ R H1 ⟨⟨di,hd,a7,hP,ar⟩,h0,h1,h4,aB,bn,Hw,zw,iP⟩
     simp only at hP aB bn Hw zw iP ⊢
     simp -implicitDefEqProofs only[op,ef,cl,sq,reduceIte,j1,j2,j3,j4,j5,j6,j7,j8,j9,S1,h0,h1,h4,aB,bn]
     clear qj ua
     obtain⟨si,qj⟩:∃si,si=scanUp (fun x=>strLt x di[a]!) di j i:=⟨_,rfl⟩
     refine W.cT 6 (fun (k:Nat) R H'=>At H' (fun H'=>H'[c]?=some (.cells (aJ eS di.toList))∧a9 (fun x=>x=c) H H')∧R 0=.aA c 0 n 1∧R 1=.int .i64 a∧R 0=.aA c 0 n 1∧R 10=.int .i64 k∧R 11=.int .i64 (j:Nat)∧i≤k∧k≤n∧scanUp (fun x=>strLt x di[a]!) di (j) k=si) (fun k=>j+1-k) (i)
      (fun R H'=>At H' (fun H'=>H'[c]?=some (.cells (aJ eS di.toList))∧a9 (fun x=>x=c) H H')∧R 0=.aA c 0 n 1∧R 1=.int .i64 a∧R 0=.aA c 0 n 1∧R 10=.int .i64 si∧R 11=.int .i64 (j:Nat)∧i≤si∧si≤n) ⟨.i ⟨hd,ar⟩,h0,h1,h4,aB,bn,Nat.le_refl _,by omega,qj.symm⟩ ?_ ?_
     ·rintro k R H2⟨⟨hd,ar⟩,h0,h1,h4,aB,bn,sM,qe,hk⟩
      have lc:=aM hd
      by_cases fk:k≤j
      ·simp -implicitDefEqProofs (maxSteps:=1000000) (disch:=omega) only[aa,aD,aE,aF,aG,aH,aI,wA,a6,wS,a0,wM,S2,op,ef,cl,sq,reduceIte,j1,j2,j3,j4,j5,j6,j7,j8,j9,S1,h0,h1,h4,aB,bn,fk,hd,lc]
       refine ae _ _ _ _ _ _ _ _ (dZ di[k]! di[a]! _) ?_
       rintro u H3⟨hu,kr⟩
       cases hu
       have hx:Ext H2 H3:=by rw[kr];exact Ext.rfl'
       have hd:=hx.get hd
       have lc:=aM hd
       have ar:=ar.trans (ax (F:=fun _=>False) hx) (fun _ h=>h.elim)
       have cV:strLt di[k]! di[a]! = decide (strLt di[k]! di[a]! = true):=by simp
       by_cases c1:strLt di[k]! di[a]! = true
       ·simp -implicitDefEqProofs (maxSteps:=1000000) (disch:=omega) only[aa,aD,aE,aF,aG,aH,aI,wA,a6,wS,a0,wM,S2,op,ef,cl,sq,reduceIte,j1,j2,j3,j4,j5,j6,j7,j8,j9,S1,h0,h1,h4,aB,bn,fk,c1]
        rw[scanUp,if_pos (gg (ct fk) (cV.trans (ct c1)))]at hk
        exact⟨k+1,by omega,.i ⟨hd,ar⟩,rfl,by omega,by omega,hk⟩
       ·simp -implicitDefEqProofs (maxSteps:=1000000) (disch:=omega) only[aa,aD,aE,aF,aG,aH,aI,wA,a6,wS,a0,wM,S2,op,ef,cl,sq,reduceIte,j1,j2,j3,j4,j5,j6,j7,j8,j9,S1,h0,h1,h4,aB,bn,fk,c1]
        rw[scanUp,if_neg (eb (cV.trans (cr c1)))]at hk
        subst hk
        exact⟨.i ⟨hd,ar⟩,rfl,sM,qe⟩
      ·simp -implicitDefEqProofs only[op,ef,cl,sq,reduceIte,j1,j2,j3,j4,j5,j6,j7,j8,j9,S1,h0,h1,h4,aB,bn,fk]
       rw[scanUp,if_neg (dw (cr fk))]at hk
       subst hk
       exact⟨.i ⟨hd,ar⟩,rfl,sM,qe⟩
     ·rintro R H2⟨⟨hd,ar⟩,h0,h1,h4,aB,bn,z8,HF⟩
      simp -implicitDefEqProofs only[op,ef,cl,sq,reduceIte,j1,j2,j3,j4,j5,j6,j7,j8,j9,S1,h0,h1,h4,aB,bn]
      obtain⟨sj,ua⟩:∃sj,sj=scanDown (fun x=>!strLt x di[a]!) di si j:=⟨_,rfl⟩
      refine W.cT 8 (fun (k:Nat) R H'=>At H' (fun H'=>H'[c]?=some (.cells (aJ eS di.toList))∧a9 (fun x=>x=c) H H')∧R 0=.aA c 0 n 1∧R 1=.int .i64 a∧R 0=.aA c 0 n 1∧R 10=.int .i64 si∧R 11=.int .i64 k∧k≤j∧scanDown (fun x=>!strLt x di[a]!) di si k=sj) (fun k=>k) (j)
       (fun R H'=>At H' (fun H'=>H'[c]?=some (.cells (aJ eS di.toList))∧a9 (fun x=>x=c) H H')∧R 0=.aA c 0 n 1∧R 1=.int .i64 a∧R 0=.aA c 0 n 1∧R 10=.int .i64 si∧R 11=.int .i64 sj∧sj≤j) ⟨.i ⟨hd,ar⟩,h0,h1,h4,aB,bn,Nat.le_refl _,ua.symm⟩ ?_ ?_
      ·rintro k R H3⟨⟨hd,ar⟩,h0,h1,h4,aB,bn,fk,hk⟩
       have lc:=aM hd
       rw[lg (by omega)]at hk
       by_cases bO:si≤k
       ·simp -implicitDefEqProofs (maxSteps:=1000000) (disch:=omega) only[aa,aD,aE,aF,aG,aH,aI,wA,a6,wS,a0,wM,S2,op,ef,cl,sq,reduceIte,j1,j2,j3,j4,j5,j6,j7,j8,j9,S1,h0,h1,h4,aB,bn,bO,hd,lc]
        refine ae _ _ _ _ _ _ _ _ (dZ di[k]! di[a]! _) ?_
        rintro u H4⟨hu,kr⟩
        cases hu
        have hx:Ext H3 H4:=by rw[kr];exact Ext.rfl'
        have hd:=hx.get hd
        have lc:=aM hd
        have ar:=ar.trans (ax (F:=fun _=>False) hx) (fun _ h=>h.elim)
        have cV:strLt di[k]! di[a]! = decide (strLt di[k]! di[a]! = true):=by simp
        by_cases c1:strLt di[k]! di[a]! = true
        ·simp -implicitDefEqProofs (maxSteps:=1000000) (disch:=omega) only[aa,aD,aE,aF,aG,aH,aI,wA,a6,wS,a0,wM,S2,op,ef,cl,sq,reduceIte,j1,j2,j3,j4,j5,j6,j7,j8,j9,S1,h0,h1,h4,aB,bn,bO,c1]
         rw[if_neg (eb (by rw[cV,ct c1];rfl))]at hk
         subst hk
         exact⟨.i ⟨hd,ar⟩,rfl,fk⟩
        ·simp -implicitDefEqProofs (maxSteps:=1000000) (disch:=omega) only[aa,aD,aE,aF,aG,aH,aI,wA,a6,wS,a0,wM,S2,op,ef,cl,sq,reduceIte,j1,j2,j3,j4,j5,j6,j7,j8,j9,S1,h0,h1,h4,aB,bn,bO,c1]
         rw[if_pos (gg (ct bO) (fE (cV.trans (cr c1))))]at hk
         exact⟨k-1,by omega,.i ⟨hd,ar⟩,rfl,by omega,hk⟩
       ·simp -implicitDefEqProofs only[op,ef,cl,sq,reduceIte,j1,j2,j3,j4,j5,j6,j7,j8,j9,S1,h0,h1,h4,aB,bn,bO]
        rw[if_neg (dw (cr bO))]at hk
        subst hk
        exact⟨.i ⟨hd,ar⟩,rfl,fk⟩
      ·rintro R H3⟨⟨hd,ar⟩,h0,h1,h4,aB,bn,HG⟩
       have lc:=aM hd
       rw[HP qj ua]at hP
       by_cases lI:sj<si
       ·rw[if_pos lI]at hP
        simp -implicitDefEqProofs only[op,ef,cl,sq,reduceIte,j1,j2,j3,j4,j5,j6,j7,j8,j9,S1,h0,h1,h4,aB,bn,lI]
        exact⟨.i ⟨di,hd,a7,by rw[←hP],ar⟩,by rw[←hP],by rw[←hP];simp only;omega⟩
       ·rw[if_neg lI,if_pos (by omega)]at hP
        simp -implicitDefEqProofs (maxSteps:=1000000) (disch:=omega) only[aa,aD,aE,aF,aG,aH,aI,wA,a6,wS,a0,wM,S2,op,ef,cl,sq,reduceIte,j1,j2,j3,j4,j5,j6,j7,j8,j9,S1,h0,h1,h4,aB,bn,lI,hd,lc]
        exact⟨(si+1,sj-1),by simp only;omega,.i (.swp hd (by rw[swp_size];exact a7) hP ar),rfl,rfl,by simp only;omega,by simp only;omega,by simp only;omega⟩
    ·rintro R H1⟨⟨di,hd,a7,rfl,ar⟩,h0,h1,h4,bn,DM⟩
     have lc:=aM hd
     simp -implicitDefEqProofs (maxSteps:=1000000) (disch:=omega) only[aa,aD,aE,aF,aG,aH,aI,wA,a6,wS,a0,wM,S2,op,ef,cl,sq,reduceIte,j1,j2,j3,j4,j5,j6,j7,j8,j9,S1,h0,h1,h4,bn,hd,lc]
     exact .swp hd (by rw[swp_size];exact a7) rfl ar
open Go.Sort in
theorem ub {d:Array ByteArray}{k:Nat}(h:1≤k):shiftDown strLt k d=if (!strLt d[k]! d[k-1]!)=true then d else shiftDown strLt (k-1) (swp d k (k-1)):=by
 cases k with
 | zero=>omega
 | succ k=>rw[shiftDown];rfl
open Go.Sort in
theorem QR (c n:Nat)(d:Array ByteArray)(a b:Nat)(H:af)(hn:d.size=n)(hc:H[c]?=some (.cells (aJ eS d.toList)))(hb:b≤n)(fG:a<b)(hs:n<2305843009213693951) :
  W env (.call 147 [.aA c 0 n 1,.int .i64 a,.int .i64 b]) H (fun o H'=>o=.val (.bool (partialInsertionSort strLt d a b).2)∧jd c n H (fun x=>x=(partialInsertionSort strLt d a b).1) H'):=by
 refine W.bu rfl rfl rfl ?_
 obtain⟨r,hr⟩:∃r,r=partialInsertionSort strLt d a b:=⟨_,rfl⟩
 rw[←hr]
 simp -implicitDefEqProofs (maxSteps:=1000000) (disch:=omega) only[G0,aa,aD,aE,aF,aG,aH,aI,wA,a6,wS,a0,wM,S2,op,ef,cl,sq,reduceIte,j1,j2,j3,j4,j5,j6,j7,j8,j9,S1]
 refine W.cT 0 (fun (j:Nat) R H'=>At H' (fun H'=>∃i,R 7=.int .i64 (i:Nat)∧a<i∧i≤b∧jd c n H (fun di=>partialIns strLt a b (5-j) i di=r) H')∧R 0=.aA c 0 n 1∧R 1=.int .i64 a∧R 2=.int .i64 b∧R 0=.aA c 0 n 1∧R 8=.int .i64 j∧j≤5) (fun j=>5-j) 0
  (fun R H'=>At H' (fun H'=>jd c n H (fun di=>(di,false)=r) H')) ⟨.i ⟨a+1,rfl,by omega,by omega,d,hc,hn,hr.symm,a9.refl _ _⟩,rfl,rfl,rfl,rfl,rfl,by omega⟩ ?_ ?_
 ·rintro j R H1⟨⟨i,h9,Hw,hib,di,hd,a7,hP,ar⟩,h0,h1,h2,h3,aC,hj⟩
  by_cases hj5:j<5
  rotate_left
  ·have:j=5:=by omega
   subst this
   simp -implicitDefEqProofs only[op,ef,cl,sq,reduceIte,j1,j2,j3,j4,j5,j6,j7,j8,j9,S1,h0,h1,h2,h3,aC]
   exact .i ⟨di,hd,a7,hP,ar⟩
  obtain⟨s,QG⟩:∃s,5-j=s+1:=⟨4-j,by omega⟩
  have wB:5-(j+1)=s:=by omega
  rw[QG,partialIns]at hP
  simp -implicitDefEqProofs only[op,ef,cl,sq,reduceIte,j1,j2,j3,j4,j5,j6,j7,j8,j9,S1,h0,h1,h2,h3,aC,hj5]
  obtain⟨si,qj⟩:∃si,si=scanSorted strLt di b i:=⟨_,rfl⟩
  rw[←qj]at hP
  refine W.cT 2 (fun (k:Nat) R H'=>At H' (fun H'=>H'[c]?=some (.cells (aJ eS di.toList))∧a9 (fun x=>x=c) H H')∧R 0=.aA c 0 n 1∧R 1=.int .i64 a∧R 2=.int .i64 b∧R 0=.aA c 0 n 1∧R 7=.int .i64 k∧R 8=.int .i64 j∧i≤k∧k≤b∧scanSorted strLt di b k=si) (fun k=>b-k) i
   (fun R H'=>At H' (fun H'=>H'[c]?=some (.cells (aJ eS di.toList))∧a9 (fun x=>x=c) H H')∧R 0=.aA c 0 n 1∧R 1=.int .i64 a∧R 2=.int .i64 b∧R 0=.aA c 0 n 1∧R 7=.int .i64 si∧R 8=.int .i64 j∧i≤si∧si≤b) ⟨.i ⟨hd,ar⟩,?_,?_,?_,?_,?_,?_,Nat.le_refl _,hib,qj.symm⟩ ?_ ?_
  ·simp -implicitDefEqProofs only[op,ef,cl,sq,reduceIte,j1,j2,j3,j4,j5,j6,j7,j8,j9,S1,h0]
  ·simp -implicitDefEqProofs only[op,ef,cl,sq,reduceIte,j1,j2,j3,j4,j5,j6,j7,j8,j9,S1,h1]
  ·simp -implicitDefEqProofs only[op,ef,cl,sq,reduceIte,j1,j2,j3,j4,j5,j6,j7,j8,j9,S1,h2]
  ·simp -implicitDefEqProofs only[op,ef,cl,sq,reduceIte,j1,j2,j3,j4,j5,j6,j7,j8,j9,S1,h3]
  ·simp -implicitDefEqProofs only[op,ef,cl,sq,reduceIte,j1,j2,j3,j4,j5,j6,j7,j8,j9,S1,h9]
  ·simp -implicitDefEqProofs only[op,ef,cl,sq,reduceIte,j1,j2,j3,j4,j5,j6,j7,j8,j9,S1,aC]
  ·rintro k R H2⟨⟨hd,ar⟩,h0,h1,h2,h3,h9,aC,sM,Ct,hk⟩
   have lc:=aM hd
   by_cases bO:k<b
   ·simp -implicitDefEqProofs (maxSteps:=1000000) (disch:=omega) only[aa,aD,aE,aF,aG,aH,aI,wA,a6,wS,a0,wM,S2,op,ef,cl,sq,reduceIte,j1,j2,j3,j4,j5,j6,j7,j8,j9,S1,h0,h1,h2,h3,h9,aC,bO,hd,lc]
    refine ae _ _ _ _ _ _ _ _ (dZ di[k]! di[k-1]! _) ?_
    rintro u H3⟨hu,kr⟩
    cases hu
    have hx:Ext H2 H3:=by rw[kr];exact Ext.rfl'
    have hd:=hx.get hd
    have lc:=aM hd
    have ar:=ar.trans (ax (F:=fun _=>False) hx) (fun _ h=>h.elim)
    have cV:strLt di[k]! di[k-1]! = decide (strLt di[k]! di[k-1]! = true):=by simp
    by_cases c1:strLt di[k]! di[k-1]! = true
    ·simp -implicitDefEqProofs (maxSteps:=1000000) (disch:=omega) only[aa,aD,aE,aF,aG,aH,aI,wA,a6,wS,a0,wM,S2,op,ef,cl,sq,reduceIte,j1,j2,j3,j4,j5,j6,j7,j8,j9,S1,h0,h1,h2,h3,h9,aC,bO,c1]
     rw[scanSorted,if_neg (eb (by rw[cV,ct c1];rfl))]at hk
     subst hk
     exact⟨.i ⟨hd,ar⟩,rfl,sM,Ct⟩
    ·simp -implicitDefEqProofs (maxSteps:=1000000) (disch:=omega) only[aa,aD,aE,aF,aG,aH,aI,wA,a6,wS,a0,wM,S2,op,ef,cl,sq,reduceIte,j1,j2,j3,j4,j5,j6,j7,j8,j9,S1,h0,h1,h2,h3,h9,aC,bO,c1]
     rw[scanSorted,if_pos (gg (ct bO) (fE (cV.trans (cr c1))))]at hk
     exact⟨k+1,by omega,.i ⟨hd,ar⟩,rfl,by omega,by omega,hk⟩
   ·simp -implicitDefEqProofs only[op,ef,cl,sq,reduceIte,j1,j2,j3,j4,j5,j6,j7,j8,j9,S1,h0,h1,h2,h3,h9,aC,bO]
    rw[scanSorted,if_neg (dw (cr bO))]at hk
    subst hk
    exact⟨.i ⟨hd,ar⟩,rfl,sM,Ct⟩
  ·rintro R H2⟨⟨hd,ar⟩,h0,h1,h2,h3,h9,aC,z8,acs⟩
   have lc:=aM hd
   by_cases lL:si=b
   ·rw[if_pos lL]at hP
    have e1:((si:Int)==(b:Int))=true:=by rw[lL];simp
    simp -implicitDefEqProofs (maxSteps:=1000000) (disch:=omega) only[aa,aD,aE,aF,aG,aH,aI,wA,a6,wS,a0,wM,S2,op,ef,cl,sq,reduceIte,j1,j2,j3,j4,j5,j6,j7,j8,j9,S1,h0,h1,h2,h3,h9,aC,e1]
    rw[←hP]
    exact⟨rfl,di,hd,a7,rfl,ar⟩
   rw[if_neg lL]at hP
   have e1:((si:Int)==(b:Int))=false:=by simp;omega
   by_cases wz:b-a<50
   ·rw[if_pos wz]at hP
    simp -implicitDefEqProofs (maxSteps:=1000000) (disch:=omega) only[aa,aD,aE,aF,aG,aH,aI,wA,a6,wS,a0,wM,S2,op,ef,cl,sq,reduceIte,j1,j2,j3,j4,j5,j6,j7,j8,j9,S1,h0,h1,h2,h3,h9,aC,e1,wz]
    rw[←hP]
    exact⟨rfl,di,hd,a7,rfl,ar⟩
   rw[if_neg wz]at hP
   simp -implicitDefEqProofs (maxSteps:=1000000) (disch:=omega) only[aa,aD,aE,aF,aG,aH,aI,wA,a6,wS,a0,wM,S2,op,ef,cl,sq,reduceIte,j1,j2,j3,j4,j5,j6,j7,j8,j9,S1,h0,h1,h2,h3,h9,aC,e1,wz,hd,lc]
   obtain⟨d3,oZ⟩:∃d3,d3=if si-a≥2 then shiftDown strLt (si-1) (swp di si (si-1))else swp di si (si-1):=⟨_,rfl⟩
   obtain⟨d4,sN⟩:∃d4,d4=if b-si≥2 then shiftUp strLt b (si+1) d3 else d3:=⟨_,rfl⟩
   have hP:partialIns strLt a b s si d4=r:=by rw[sN,oZ];exact hP
   obtain⟨d2,cz,jb,e2,eF⟩:=jd.swp (n:=n) (P:=fun x=>x=swp di si (si-1)) (x:=.cells (aJ eS (di.toList.set si di[si-1]!))) hd (by rw[swp_size];exact a7) rfl ar
   subst e2
   generalize ((H2.set c (.cells (aJ eS (di.toList.set si di[si-1]!)))).set c (.cells (aJ eS (swp di si (si-1)).toList)))=H5 at *
   by_cases hA:2≤si-a
   ·rw[if_pos hA]at oZ
    simp -implicitDefEqProofs (maxSteps:=1000000) (disch:=omega) only[aa,aD,aE,aF,aG,aH,aI,wA,a6,wS,a0,wM,S2,op,ef,cl,sq,reduceIte,j1,j2,j3,j4,j5,j6,j7,j8,j9,S1,h0,h1,h2,h3,h9,aC,hA]
    refine W.cT 4 (fun (k:Nat) R H'=>At H' (fun H'=>jd c n H (fun dx=>shiftDown strLt k dx=d3) H')∧R 0=.aA c 0 n 1∧R 1=.int .i64 a∧R 2=.int .i64 b∧R 0=.aA c 0 n 1∧R 7=.int .i64 si∧R 8=.int .i64 j∧R 9=.int .i64 k∧k<b) (fun k=>k) (si-1)
     (fun R H'=>At H' (fun H'=>jd c n H (fun dx=>dx=d3) H')∧R 0=.aA c 0 n 1∧R 1=.int .i64 a∧R 2=.int .i64 b∧R 0=.aA c 0 n 1∧R 7=.int .i64 si∧R 8=.int .i64 j) ⟨.i ⟨_,cz,jb,oZ.symm,eF⟩,?_,?_,?_,?_,?_,?_,?_,by omega⟩ ?_ ?_
    ·simp -implicitDefEqProofs only[op,ef,cl,sq,reduceIte,j1,j2,j3,j4,j5,j6,j7,j8,j9,S1,h0]
    ·simp -implicitDefEqProofs only[op,ef,cl,sq,reduceIte,j1,j2,j3,j4,j5,j6,j7,j8,j9,S1,h1]
    ·simp -implicitDefEqProofs only[op,ef,cl,sq,reduceIte,j1,j2,j3,j4,j5,j6,j7,j8,j9,S1,h2]
    ·simp -implicitDefEqProofs only[op,ef,cl,sq,reduceIte,j1,j2,j3,j4,j5,j6,j7,j8,j9,S1,h3]
    ·simp -implicitDefEqProofs only[op,ef,cl,sq,reduceIte,j1,j2,j3,j4,j5,j6,j7,j8,j9,S1,h9]
    ·simp -implicitDefEqProofs only[op,ef,cl,sq,reduceIte,j1,j2,j3,j4,j5,j6,j7,j8,j9,S1,aC]
    ·simp -implicitDefEqProofs only[op,ef,cl,sq,reduceIte,j1,j2,j3,j4,j5,j6,j7,j8,j9,S1]
    ·rintro k R H2⟨⟨dx,hd,a7,hk,ar⟩,h0,h1,h2,h3,h9,aC,bf,Ct⟩
     have lc:=aM hd
     by_cases nv:1≤k
     ·simp -implicitDefEqProofs (maxSteps:=1000000) (disch:=omega) only[aa,aD,aE,aF,aG,aH,aI,wA,a6,wS,a0,wM,S2,op,ef,cl,sq,reduceIte,j1,j2,j3,j4,j5,j6,j7,j8,j9,S1,h0,h1,h2,h3,h9,aC,bf,nv,hd,lc]
      refine ae _ _ _ _ _ _ _ _ (dZ dx[k]! dx[k-1]! _) ?_
      rintro u H3⟨hu,kr⟩
      cases hu
      have hx:Ext H2 H3:=by rw[kr];exact Ext.rfl'
      have hd:=hx.get hd
      have lc:=aM hd
      have ar:=ar.trans (ax (F:=fun _=>False) hx) (fun _ h=>h.elim)
      have cV:strLt dx[k]! dx[k-1]! = decide (strLt dx[k]! dx[k-1]! = true):=by simp
      rw[ub nv]at hk
      by_cases c1:strLt dx[k]! dx[k-1]! = true
      ·simp -implicitDefEqProofs (maxSteps:=1000000) (disch:=omega) only[aa,aD,aE,aF,aG,aH,aI,wA,a6,wS,a0,wM,S2,op,ef,cl,sq,reduceIte,j1,j2,j3,j4,j5,j6,j7,j8,j9,S1,h0,h1,h2,h3,h9,aC,bf,nv,hd,lc,c1]
       rw[if_neg (lA (cV.trans (ct c1)))]at hk
       exact⟨k-1,by omega,.i (.swp hd (by rw[swp_size];exact a7) hk ar),rfl,by omega⟩
      ·simp -implicitDefEqProofs (maxSteps:=1000000) (disch:=omega) only[aa,aD,aE,aF,aG,aH,aI,wA,a6,wS,a0,wM,S2,op,ef,cl,sq,reduceIte,j1,j2,j3,j4,j5,j6,j7,j8,j9,S1,h0,h1,h2,h3,h9,aC,bf,nv,hd,lc,c1]
       rw[if_pos (fE (cV.trans (cr c1)))]at hk
       exact .i ⟨dx,hd,a7,hk,ar⟩
     ·have Tj:k=0:=by omega
      subst Tj
      simp -implicitDefEqProofs only[op,ef,cl,sq,reduceIte,j1,j2,j3,j4,j5,j6,j7,j8,j9,S1,h0,h1,h2,h3,h9,aC,bf,nv]
      rw[shiftDown]at hk
      exact .i ⟨dx,hd,a7,hk,ar⟩
    ·rintro R H2⟨⟨dx,hd,qk,rfl,ar⟩,h0,h1,h2,h3,h9,aC⟩
     have lc:=aM hd
     by_cases hB:2≤b-si
     ·simp -implicitDefEqProofs (maxSteps:=1000000) (disch:=omega) only[aa,aD,aE,aF,aG,aH,aI,wA,a6,wS,a0,wM,S2,op,ef,cl,sq,reduceIte,j1,j2,j3,j4,j5,j6,j7,j8,j9,S1,h0,h1,h2,h3,h9,aC,hB]
      rw[if_pos hB]at sN
      refine W.cT 6 (fun (k:Nat) R H'=>At H' (fun H'=>jd c n H (fun dx=>shiftUp strLt b k dx=d4) H')∧R 0=.aA c 0 n 1∧R 1=.int .i64 a∧R 2=.int .i64 b∧R 0=.aA c 0 n 1∧R 7=.int .i64 si∧R 8=.int .i64 j∧R 10=.int .i64 k∧1≤k∧k≤b) (fun k=>b-k) (si+1)
       (fun R H'=>At H' (fun H'=>jd c n H (fun dx=>dx=d4) H')∧R 0=.aA c 0 n 1∧R 1=.int .i64 a∧R 2=.int .i64 b∧R 0=.aA c 0 n 1∧R 7=.int .i64 si∧R 8=.int .i64 j) ⟨.i ⟨dx,hd,qk,sN.symm,ar⟩,?_,?_,?_,?_,?_,?_,?_,by omega,by omega⟩ ?_ ?_
      ·simp -implicitDefEqProofs only[op,ef,cl,sq,reduceIte,j1,j2,j3,j4,j5,j6,j7,j8,j9,S1,h0]
      ·simp -implicitDefEqProofs only[op,ef,cl,sq,reduceIte,j1,j2,j3,j4,j5,j6,j7,j8,j9,S1,h1]
      ·simp -implicitDefEqProofs only[op,ef,cl,sq,reduceIte,j1,j2,j3,j4,j5,j6,j7,j8,j9,S1,h2]
      ·simp -implicitDefEqProofs only[op,ef,cl,sq,reduceIte,j1,j2,j3,j4,j5,j6,j7,j8,j9,S1,h3]
      ·simp -implicitDefEqProofs only[op,ef,cl,sq,reduceIte,j1,j2,j3,j4,j5,j6,j7,j8,j9,S1,h9]
      ·simp -implicitDefEqProofs only[op,ef,cl,sq,reduceIte,j1,j2,j3,j4,j5,j6,j7,j8,j9,S1,aC]
      ·simp -implicitDefEqProofs only[op,ef,cl,sq,reduceIte,j1,j2,j3,j4,j5,j6,j7,j8,j9,S1]
      ·rintro k R H2⟨⟨dx,hd,a7,hk,ar⟩,h0,h1,h2,h3,h9,aC,aB,nv,Ct⟩
       have lc:=aM hd
       by_cases bO:k<b
       ·simp -implicitDefEqProofs (maxSteps:=1000000) (disch:=omega) only[aa,aD,aE,aF,aG,aH,aI,wA,a6,wS,a0,wM,S2,op,ef,cl,sq,reduceIte,j1,j2,j3,j4,j5,j6,j7,j8,j9,S1,h0,h1,h2,h3,h9,aC,aB,bO,hd,lc]
        refine ae _ _ _ _ _ _ _ _ (dZ dx[k]! dx[k-1]! _) ?_
        rintro u H3⟨hu,kr⟩
        cases hu
        have hx:Ext H2 H3:=by rw[kr];exact Ext.rfl'
        have hd:=hx.get hd
        have lc:=aM hd
        have ar:=ar.trans (ax (F:=fun _=>False) hx) (fun _ h=>h.elim)
        have cV:strLt dx[k]! dx[k-1]! = decide (strLt dx[k]! dx[k-1]! = true):=by simp
        rw[shiftUp,if_pos bO]at hk
        by_cases c1:strLt dx[k]! dx[k-1]! = true
        ·simp -implicitDefEqProofs (maxSteps:=1000000) (disch:=omega) only[aa,aD,aE,aF,aG,aH,aI,wA,a6,wS,a0,wM,S2,op,ef,cl,sq,reduceIte,j1,j2,j3,j4,j5,j6,j7,j8,j9,S1,h0,h1,h2,h3,h9,aC,aB,bO,hd,lc,c1]
         rw[if_neg (lA (cV.trans (ct c1)))]at hk
         exact⟨k+1,by omega,.i (.swp hd (by rw[swp_size];exact a7) hk ar),rfl,by omega,by omega⟩
        ·simp -implicitDefEqProofs (maxSteps:=1000000) (disch:=omega) only[aa,aD,aE,aF,aG,aH,aI,wA,a6,wS,a0,wM,S2,op,ef,cl,sq,reduceIte,j1,j2,j3,j4,j5,j6,j7,j8,j9,S1,h0,h1,h2,h3,h9,aC,aB,bO,hd,lc,c1]
         rw[if_pos (fE (cV.trans (cr c1)))]at hk
         exact .i ⟨dx,hd,a7,hk,ar⟩
       ·simp -implicitDefEqProofs only[op,ef,cl,sq,reduceIte,j1,j2,j3,j4,j5,j6,j7,j8,j9,S1,h0,h1,h2,h3,h9,aC,aB,bO]
        rw[shiftUp,if_neg bO]at hk
        exact .i ⟨dx,hd,a7,hk,ar⟩
      ·rintro R H2⟨⟨dx,hd,a7,rfl,ar⟩,h0,h1,h2,h3,h9,aC⟩
       simp -implicitDefEqProofs (maxSteps:=1000000) (disch:=omega) only[aa,aD,aE,aF,aG,aH,aI,wA,a6,wS,a0,wM,S2,op,ef,cl,sq,reduceIte,j1,j2,j3,j4,j5,j6,j7,j8,j9,S1,h0,h1,h2,h3,h9,aC]
       exact⟨j+1,by omega,.i ⟨si,rfl,by omega,by omega,dx,hd,a7,by rw[wB];exact hP,ar⟩,rfl,by omega⟩
     ·rw[if_neg hB]at sN
      subst sN
      simp -implicitDefEqProofs (maxSteps:=1000000) (disch:=omega) only[aa,aD,aE,aF,aG,aH,aI,wA,a6,wS,a0,wM,S2,op,ef,cl,sq,reduceIte,j1,j2,j3,j4,j5,j6,j7,j8,j9,S1,h0,h1,h2,h3,h9,aC,hB]
      exact⟨j+1,by omega,.i ⟨si,rfl,by omega,by omega,d4,hd,qk,by rw[wB];exact hP,ar⟩,rfl,by omega⟩
   ·rw[if_neg hA]at oZ
    simp -implicitDefEqProofs (maxSteps:=1000000) (disch:=omega) only[aa,aD,aE,aF,aG,aH,aI,wA,a6,wS,a0,wM,S2,op,ef,cl,sq,reduceIte,j1,j2,j3,j4,j5,j6,j7,j8,j9,S1,h0,h1,h2,h3,h9,aC,hA]
    have hd:=cz
    have qk:=jb
    have ar:=eF
    rw[←oZ]at hd qk
    by_cases hB:2≤b-si
    ·simp -implicitDefEqProofs (maxSteps:=1000000) (disch:=omega) only[aa,aD,aE,aF,aG,aH,aI,wA,a6,wS,a0,wM,S2,op,ef,cl,sq,reduceIte,j1,j2,j3,j4,j5,j6,j7,j8,j9,S1,h0,h1,h2,h3,h9,aC,hB]
     rw[if_pos hB]at sN
     refine W.cT 6 (fun (k:Nat) R H'=>At H' (fun H'=>jd c n H (fun dx=>shiftUp strLt b k dx=d4) H')∧R 0=.aA c 0 n 1∧R 1=.int .i64 a∧R 2=.int .i64 b∧R 0=.aA c 0 n 1∧R 7=.int .i64 si∧R 8=.int .i64 j∧R 10=.int .i64 k∧1≤k∧k≤b) (fun k=>b-k) (si+1)
      (fun R H'=>At H' (fun H'=>jd c n H (fun dx=>dx=d4) H')∧R 0=.aA c 0 n 1∧R 1=.int .i64 a∧R 2=.int .i64 b∧R 0=.aA c 0 n 1∧R 7=.int .i64 si∧R 8=.int .i64 j) ⟨.i ⟨d3,hd,qk,sN.symm,ar⟩,?_,?_,?_,?_,?_,?_,?_,by omega,by omega⟩ ?_ ?_
     ·simp -implicitDefEqProofs only[op,ef,cl,sq,reduceIte,j1,j2,j3,j4,j5,j6,j7,j8,j9,S1,h0]
     ·simp -implicitDefEqProofs only[op,ef,cl,sq,reduceIte,j1,j2,j3,j4,j5,j6,j7,j8,j9,S1,h1]
     ·simp -implicitDefEqProofs only[op,ef,cl,sq,reduceIte,j1,j2,j3,j4,j5,j6,j7,j8,j9,S1,h2]
     ·simp -implicitDefEqProofs only[op,ef,cl,sq,reduceIte,j1,j2,j3,j4,j5,j6,j7,j8,j9,S1,h3]
     ·simp -implicitDefEqProofs only[op,ef,cl,sq,reduceIte,j1,j2,j3,j4,j5,j6,j7,j8,j9,S1,h9]
     ·simp -implicitDefEqProofs only[op,ef,cl,sq,reduceIte,j1,j2,j3,j4,j5,j6,j7,j8,j9,S1,aC]
     ·simp -implicitDefEqProofs only[op,ef,cl,sq,reduceIte,j1,j2,j3,j4,j5,j6,j7,j8,j9,S1]
     ·rintro k R H2⟨⟨dx,hd,a7,hk,ar⟩,h0,h1,h2,h3,h9,aC,aB,nv,Ct⟩
      have lc:=aM hd
      by_cases bO:k<b
      ·simp -implicitDefEqProofs (maxSteps:=1000000) (disch:=omega) only[aa,aD,aE,aF,aG,aH,aI,wA,a6,wS,a0,wM,S2,op,ef,cl,sq,reduceIte,j1,j2,j3,j4,j5,j6,j7,j8,j9,S1,h0,h1,h2,h3,h9,aC,aB,bO,hd,lc]
       refine ae _ _ _ _ _ _ _ _ (dZ dx[k]! dx[k-1]! _) ?_
       rintro u H3⟨hu,kr⟩
       cases hu
       have hx:Ext H2 H3:=by rw[kr];exact Ext.rfl'
       have hd:=hx.get hd
       have lc:=aM hd
       have ar:=ar.trans (ax (F:=fun _=>False) hx) (fun _ h=>h.elim)
       have cV:strLt dx[k]! dx[k-1]! = decide (strLt dx[k]! dx[k-1]! = true):=by simp
       rw[shiftUp,if_pos bO]at hk
       by_cases c1:strLt dx[k]! dx[k-1]! = true
       ·simp -implicitDefEqProofs (maxSteps:=1000000) (disch:=omega) only[aa,aD,aE,aF,aG,aH,aI,wA,a6,wS,a0,wM,S2,op,ef,cl,sq,reduceIte,j1,j2,j3,j4,j5,j6,j7,j8,j9,S1,h0,h1,h2,h3,h9,aC,aB,bO,hd,lc,c1]
        rw[if_neg (lA (cV.trans (ct c1)))]at hk
        exact⟨k+1,by omega,.i (.swp hd (by rw[swp_size];exact a7) hk ar),rfl,by omega,by omega⟩
       ·simp -implicitDefEqProofs (maxSteps:=1000000) (disch:=omega) only[aa,aD,aE,aF,aG,aH,aI,wA,a6,wS,a0,wM,S2,op,ef,cl,sq,reduceIte,j1,j2,j3,j4,j5,j6,j7,j8,j9,S1,h0,h1,h2,h3,h9,aC,aB,bO,hd,lc,c1]
        rw[if_pos (fE (cV.trans (cr c1)))]at hk
        exact .i ⟨dx,hd,a7,hk,ar⟩
      ·simp -implicitDefEqProofs only[op,ef,cl,sq,reduceIte,j1,j2,j3,j4,j5,j6,j7,j8,j9,S1,h0,h1,h2,h3,h9,aC,aB,bO]
       rw[shiftUp,if_neg bO]at hk
       exact .i ⟨dx,hd,a7,hk,ar⟩
     ·rintro R H2⟨⟨dx,hd,a7,rfl,ar⟩,h0,h1,h2,h3,h9,aC⟩
      simp -implicitDefEqProofs (maxSteps:=1000000) (disch:=omega) only[aa,aD,aE,aF,aG,aH,aI,wA,a6,wS,a0,wM,S2,op,ef,cl,sq,reduceIte,j1,j2,j3,j4,j5,j6,j7,j8,j9,S1,h0,h1,h2,h3,h9,aC]
      exact⟨j+1,by omega,.i ⟨si,rfl,by omega,by omega,dx,hd,a7,by rw[wB];exact hP,ar⟩,rfl,by omega⟩
    ·rw[if_neg hB]at sN
     subst sN
     simp -implicitDefEqProofs (maxSteps:=1000000) (disch:=omega) only[aa,aD,aE,aF,aG,aH,aI,wA,a6,wS,a0,wM,S2,op,ef,cl,sq,reduceIte,j1,j2,j3,j4,j5,j6,j7,j8,j9,S1,h0,h1,h2,h3,h9,aC,hB]
     exact⟨j+1,by omega,.i ⟨si,rfl,by omega,by omega,d4,hd,qk,by rw[wB];exact hP,ar⟩,rfl,by omega⟩
 ·rintro R H1⟨di,hd,a7,hP,ar⟩
  try simp -implicitDefEqProofs only[op,ef,cl,sq,reduceIte,j1,j2,j3,j4,j5,j6,j7,j8,j9,S1]
  rw[←hP]
  exact⟨rfl,di,hd,a7,rfl,ar⟩
structure yD (R:aw)(c n a b cg:Nat)(wb wp:Bool):Prop where
 r0:R 0=.aA c 0 n 1
 r1:R 1=.int .i64 a
 r2:R 2=.int .i64 b
 r3:R 3=.int .i64 cg
 r4:R 0=.aA c 0 n 1
 r10:R 8=.bool wb
 r11:R 9=.bool wp
 VU:R 10=.int .i64 (b-a:Nat)
open Go.Sort in
theorem V3 (A:C)(hA:(dq fc.body 1).map (fm · 3)=some A)(c n a b cg:Nat)(wb wp:Bool)(d:Array ByteArray)(R:aw)(H0 H:af)(K:Out→af→Prop)(hp:yD R c n a b cg wb wp)(hd:jd c n H0 (fun x=>x=d) H)(hb:b≤n)(fG:a+12<b)(hs:n<16777216)(hl:1≤cg∧cg<1000)
  (rest:∀R' H',yD R' c n a b (if (!wb)=true then cg-1 else cg) wb wp→jd c n H0 (fun x=>x=if (!wb)=true then breakPatterns d a b else d) H'→K (.ex .normal R') H'):fp env A R H K:=by
 simp[fc,dq,fm,sq]at hA
 subst hA
 obtain⟨h0,h1,h2,h3,h4,aC,bf,aB⟩:=hp
 obtain⟨di,hc,hn,rfl,ar⟩:=hd
 cases wb with
 | true =>
  simp -implicitDefEqProofs (maxSteps:=1000000) (disch:=omega) only[op,ef,cl,sq,reduceIte,j1,j2,j3,j4,j5,j6,j7,j8,j9,S1,h0,h1,h2,h3,h4,aC,bf,aB]
  exact rest _ _ ⟨by simp -implicitDefEqProofs only[op,ef,cl,sq,reduceIte,j1,j2,j3,j4,j5,j6,j7,j8,j9,S1,h0],by simp -implicitDefEqProofs only[op,ef,cl,sq,reduceIte,j1,j2,j3,j4,j5,j6,j7,j8,j9,S1,h1],by simp -implicitDefEqProofs only[op,ef,cl,sq,reduceIte,j1,j2,j3,j4,j5,j6,j7,j8,j9,S1,h2],by simp -implicitDefEqProofs only[op,ef,cl,sq,reduceIte,j1,j2,j3,j4,j5,j6,j7,j8,j9,S1,h3],by simp -implicitDefEqProofs only[op,ef,cl,sq,reduceIte,j1,j2,j3,j4,j5,j6,j7,j8,j9,S1,h4],by simp -implicitDefEqProofs only[op,ef,cl,sq,reduceIte,j1,j2,j3,j4,j5,j6,j7,j8,j9,S1,aC],by simp -implicitDefEqProofs only[op,ef,cl,sq,reduceIte,j1,j2,j3,j4,j5,j6,j7,j8,j9,S1,bf],by simp -implicitDefEqProofs only[op,ef,cl,sq,reduceIte,j1,j2,j3,j4,j5,j6,j7,j8,j9,S1,aB]⟩ ⟨di,hc,hn,rfl,ar⟩
 | false =>
  simp -implicitDefEqProofs (maxSteps:=1000000) (disch:=omega) only[op,ef,cl,sq,reduceIte,j1,j2,j3,j4,j5,j6,j7,j8,j9,S1,h0,h1,h2,h3,h4,aC,bf,aB]
  refine ae _ _ _ _ _ _ _ _ (LM c n di a b _ hn hc hb fG hs) ?_
  rintro u H2⟨hu,d2,cz,jb,e2,eF⟩
  cases hu
  simp -implicitDefEqProofs (maxSteps:=1000000) (disch:=omega) only[aa,aD,aE,aF,aG,aH,aI,wA,a6,wS,a0,wM,S2,op,ef,cl,sq,reduceIte,j1,j2,j3,j4,j5,j6,j7,j8,j9,S1,h0,h1,h2,h3,h4,aC,bf,aB]
  exact rest _ _ ⟨by simp -implicitDefEqProofs only[op,ef,cl,sq,reduceIte,j1,j2,j3,j4,j5,j6,j7,j8,j9,S1,h0],by simp -implicitDefEqProofs only[op,ef,cl,sq,reduceIte,j1,j2,j3,j4,j5,j6,j7,j8,j9,S1,h1],by simp -implicitDefEqProofs only[op,ef,cl,sq,reduceIte,j1,j2,j3,j4,j5,j6,j7,j8,j9,S1,h2],by simp -implicitDefEqProofs only[op,ef,cl,sq,reduceIte,j1,j2,j3,j4,j5,j6,j7,j8,j9,S1],by simp -implicitDefEqProofs only[op,ef,cl,sq,reduceIte,j1,j2,j3,j4,j5,j6,j7,j8,j9,S1,h4],by simp -implicitDefEqProofs only[op,ef,cl,sq,reduceIte,j1,j2,j3,j4,j5,j6,j7,j8,j9,S1,aC],by simp -implicitDefEqProofs only[op,ef,cl,sq,reduceIte,j1,j2,j3,j4,j5,j6,j7,j8,j9,S1,bf],by simp -implicitDefEqProofs only[op,ef,cl,sq,reduceIte,j1,j2,j3,j4,j5,j6,j7,j8,j9,S1,aB]⟩ ⟨d2,cz,jb,e2,ar.trans eF fun _ h=>.inl h⟩
open Go.Sort in
theorem V4 (A:C)(hA:(dq fc.body 1).map (fm · 5)=some A)(c n a b cg:Nat)(wb wp:Bool)(d:Array ByteArray)(pv:Nat)(hi:Hint)(R:aw)(H0 H:af)(K:Out→af→Prop)(hp:yD R c n a b cg wb wp)(bn:R 11=.int .i64 pv)(nW:R 12=.int .i64 (ig hi))(hd:jd c n H0 (fun x=>x=d) H)(hb:b≤n)(fG:a+12<b)(hs:n<16777216)(ni:a≤pv∧pv<b)
  (rest:∀R' H',yD R' c n a b cg wb wp→R' 11=.int .i64 (if hi=.decreasing then(b-1)-(pv-a)else pv:Nat)→R' 12=.int .i64 (ig (if hi=.decreasing then Hint.increasing else hi))→jd c n H0 (fun x=>x=if hi=.decreasing then reverseRange d a b else d) H'→K (.ex .normal R') H'):fp env A R H K:=by
 simp[fc,dq,fm,sq]at hA
 subst hA
 obtain⟨h0,h1,h2,h3,h4,aC,bf,aB⟩:=hp
 obtain⟨di,hc,hn,rfl,ar⟩:=hd
 have e:((ig hi)==2)=decide (hi=.decreasing):=by cases hi<;>decide
 by_cases hh:hi=.decreasing
 ·rw[decide_eq_true hh]at e
  simp -implicitDefEqProofs (maxSteps:=1000000) (disch:=omega) only[op,ef,cl,sq,reduceIte,j1,j2,j3,j4,j5,j6,j7,j8,j9,S1,h0,h1,h2,h3,h4,aC,bf,aB,bn,nW,e]
  refine ae _ _ _ _ _ _ _ _ (V1 c n di a b _ hn hc hb (by omega) (by omega)) ?_
  rintro u H2⟨hu,d2,cz,jb,e2,eF⟩
  cases hu
  simp -implicitDefEqProofs (maxSteps:=1000000) (disch:=omega) only[aa,aD,aE,aF,aG,aH,aI,wA,a6,wS,a0,wM,S2,op,ef,cl,sq,reduceIte,j1,j2,j3,j4,j5,j6,j7,j8,j9,S1,h0,h1,h2,h3,h4,aC,bf,aB,bn,nW]
  refine rest _ _ ⟨?_,?_,?_,?_,?_,?_,?_,?_⟩ ?_ ?_ ⟨d2,cz,jb,?_,ar.trans eF fun _ h=>.inl h⟩
  all_goals simp -implicitDefEqProofs only[op,ef,cl,sq,reduceIte,j1,j2,j3,j4,j5,j6,j7,j8,j9,S1,h0,h1,h2,h3,h4,aC,bf,aB,if_pos hh,ig]
  exact e2
 ·rw[decide_eq_false hh]at e
  simp -implicitDefEqProofs (maxSteps:=1000000) (disch:=omega) only[op,ef,cl,sq,reduceIte,j1,j2,j3,j4,j5,j6,j7,j8,j9,S1,h0,h1,h2,h3,h4,aC,bf,aB,bn,nW,e]
  refine rest _ _ ⟨?_,?_,?_,?_,?_,?_,?_,?_⟩ ?_ ?_ ⟨di,hc,hn,?_,ar⟩
  all_goals simp -implicitDefEqProofs only[op,ef,cl,sq,reduceIte,j1,j2,j3,j4,j5,j6,j7,j8,j9,S1,h0,h1,h2,h3,h4,aC,bf,aB,bn,nW,if_neg hh]
open Go.Sort in
theorem V5 (A:C)(hA:(dq fc.body 1).map (fm · 6)=some A)(c n a b cg:Nat)(wb wp:Bool)(d:Array ByteArray)(pv:Nat)(hi:Hint)(R:aw)(H0 H:af)(K:Out→af→Prop)(hp:yD R c n a b cg wb wp)(bn:R 11=.int .i64 pv)(nW:R 12=.int .i64 (ig hi))(hd:jd c n H0 (fun x=>x=d) H)(hb:b≤n)(fG:a+12<b)(hs:n<16777216)
  (pi:Array ByteArray×Bool) (HH:pi=if (wb&&wp&&hi=.increasing)=true then partialInsertionSort strLt d a b else(d,false))
  (jc:∀R' H',pi.2=true→jd c n H0 (fun x=>x=pi.1) H'→K (.ex .ret R') H')
  (fF:∀R' H',pi.2=false→yD R' c n a b cg wb wp→R' 11=.int .i64 pv→jd c n H0 (fun x=>x=pi.1) H'→K (.ex .normal R') H'):fp env A R H K:=by
 simp[fc,dq,fm,sq]at hA
 subst hA
 obtain⟨h0,h1,h2,h3,h4,aC,bf,aB⟩:=hp
 obtain⟨di,hc,hn,rfl,ar⟩:=hd
 have e:((ig hi)==1)=decide (hi=.increasing):=by cases hi<;>decide
 have no:(wb&&wp&&decide (hi=.increasing))=false→∀R',yD R' c n a b cg wb wp→R' 11=.int .i64 pv→K (.ex .normal R') H:=fun h R' q q'=>fF R' H (by rw[HH,h];rfl) q q' ⟨di,hc,hn,by rw[HH,h];rfl,ar⟩
 cases wb with
 | false =>
  simp -implicitDefEqProofs only[op,ef,cl,sq,reduceIte,j1,j2,j3,j4,j5,j6,j7,j8,j9,S1,h0,h1,h2,h3,h4,aC,bf,aB,bn,nW]
  refine no rfl _ ⟨?_,?_,?_,?_,?_,?_,?_,?_⟩ ?_
  all_goals simp -implicitDefEqProofs only[op,ef,cl,sq,reduceIte,j1,j2,j3,j4,j5,j6,j7,j8,j9,S1,h0,h1,h2,h3,h4,aC,bf,aB,bn]
 | true =>
  cases wp with
  | false =>
   simp -implicitDefEqProofs only[op,ef,cl,sq,reduceIte,j1,j2,j3,j4,j5,j6,j7,j8,j9,S1,h0,h1,h2,h3,h4,aC,bf,aB,bn,nW]
   refine no rfl _ ⟨?_,?_,?_,?_,?_,?_,?_,?_⟩ ?_
   all_goals simp -implicitDefEqProofs only[op,ef,cl,sq,reduceIte,j1,j2,j3,j4,j5,j6,j7,j8,j9,S1,h0,h1,h2,h3,h4,aC,bf,aB,bn]
  | true =>
   by_cases hh:hi=.increasing
   ·rw[decide_eq_true hh]at e
    rw[decide_eq_true hh]at HH
    simp -implicitDefEqProofs only[op,ef,cl,sq,reduceIte,j1,j2,j3,j4,j5,j6,j7,j8,j9,S1,h0,h1,h2,h3,h4,aC,bf,aB,bn,nW,e]
    refine ae _ _ _ _ _ _ _ _ (QR c n di a b _ hn hc hb (by omega) (by omega)) ?_
    rintro u H2⟨hu,d2,cz,jb,e2,eF⟩
    cases hu
    rw[if_pos (show(true&&true&&true)=true from rfl)]at HH
    rw[←HH]at e2 ⊢
    cases lM:pi.2 with
    | true =>
     try simp -implicitDefEqProofs only[op,ef,cl,sq,reduceIte,j1,j2,j3,j4,j5,j6,j7,j8,j9,S1]
     exact jc _ _ lM ⟨d2,cz,jb,e2,ar.trans eF fun _ h=>.inl h⟩
    | false =>
     try simp -implicitDefEqProofs only[op,ef,cl,sq,reduceIte,j1,j2,j3,j4,j5,j6,j7,j8,j9,S1]
     refine fF _ _ lM ⟨?_,?_,?_,?_,?_,?_,?_,?_⟩ ?_ ⟨d2,cz,jb,e2,ar.trans eF fun _ h=>.inl h⟩
     all_goals simp -implicitDefEqProofs only[op,ef,cl,sq,reduceIte,j1,j2,j3,j4,j5,j6,j7,j8,j9,S1,h0,h1,h2,h3,h4,aC,bf,aB,bn]
   ·rw[decide_eq_false hh]at e
    simp -implicitDefEqProofs only[op,ef,cl,sq,reduceIte,j1,j2,j3,j4,j5,j6,j7,j8,j9,S1,h0,h1,h2,h3,h4,aC,bf,aB,bn,nW,e]
    refine no (by rw[decide_eq_false hh];rfl) _ ⟨?_,?_,?_,?_,?_,?_,?_,?_⟩ ?_
    all_goals simp -implicitDefEqProofs only[op,ef,cl,sq,reduceIte,j1,j2,j3,j4,j5,j6,j7,j8,j9,S1,h0,h1,h2,h3,h4,aC,bf,aB,bn]
open Go.Sort in
theorem V6 (A:C)(hA:(dq fc.body 1).map (fm · 7)=some A)(c n a b cg:Nat)(wb wp:Bool)(d:Array ByteArray)(pv:Nat)(R:aw)(H0 H:af)(K:Out→af→Prop)(hp:yD R c n a b cg wb wp)(bn:R 11=.int .i64 pv)(hd:jd c n H0 (fun x=>x=d) H)(hb:b≤n)(fG:a+12<b)(hs:n<16777216)(ni:a≤pv∧pv<b)
  (jc:∀R' H',(a>0&&!strLt d[a-1]! d[pv]!)=true→R' 0=.aA c 0 n 1→R' 1=.int .i64 (partitionEqual strLt d a b pv).1→R' 2=.int .i64 b→R' 3=.int .i64 cg→R' 0=.aA c 0 n 1→R' 8=.bool wb→R' 9=.bool wp→jd c n H0 (fun x=>x=(partitionEqual strLt d a b pv).2) H'→K (.ex (.exit 1) R') H')
  (fF:∀R' H',(a>0&&!strLt d[a-1]! d[pv]!)=false→yD R' c n a b cg wb wp→R' 11=.int .i64 pv→jd c n H0 (fun x=>x=d) H'→K (.ex .normal R') H'):fp env A R H K:=by
 simp[fc,dq,fm,sq]at hA
 subst hA
 obtain⟨h0,h1,h2,h3,h4,aC,bf,aB⟩:=hp
 obtain⟨di,hd,hn,rfl,ar⟩:=hd
 have lc:=aM hd
 by_cases ha:0<a
 ·simp -implicitDefEqProofs (maxSteps:=1000000) (disch:=omega) only[aa,aD,aE,aF,aG,aH,aI,wA,a6,wS,a0,wM,S2,op,ef,cl,sq,reduceIte,j1,j2,j3,j4,j5,j6,j7,j8,j9,S1,h0,h1,h2,h3,h4,aC,bf,aB,bn,ha,hd,lc]
  refine ae _ _ _ _ _ _ _ _ (dZ di[a-1]! di[pv]! _) ?_
  rintro u H3⟨hu,kr⟩
  cases hu
  have hx:Ext H H3:=by rw[kr];exact Ext.rfl'
  have hd:=hx.get hd
  have lc:=aM hd
  have ar:=ar.trans (ax (F:=fun _=>False) hx) (fun _ h=>h.elim)
  have cV:strLt di[a-1]! di[pv]! = decide (strLt di[a-1]! di[pv]! = true):=by simp
  by_cases c1:strLt di[a-1]! di[pv]! = true
  ·simp -implicitDefEqProofs (maxSteps:=1000000) (disch:=omega) only[aa,aD,aE,aF,aG,aH,aI,wA,a6,wS,a0,wM,S2,op,ef,cl,sq,reduceIte,j1,j2,j3,j4,j5,j6,j7,j8,j9,S1,h0,h1,h2,h3,h4,aC,bf,aB,bn,ha,hd,lc,c1]
   refine fF _ _ (by rw[cV,ct c1];simp) ⟨?_,?_,?_,?_,?_,?_,?_,?_⟩ ?_ ⟨di,hd,hn,rfl,ar⟩
   all_goals simp -implicitDefEqProofs only[op,ef,cl,sq,reduceIte,j1,j2,j3,j4,j5,j6,j7,j8,j9,S1,h0,h1,h2,h3,h4,aC,bf,aB,bn]
  ·simp -implicitDefEqProofs (maxSteps:=1000000) (disch:=omega) only[aa,aD,aE,aF,aG,aH,aI,wA,a6,wS,a0,wM,S2,op,ef,cl,sq,reduceIte,j1,j2,j3,j4,j5,j6,j7,j8,j9,S1,h0,h1,h2,h3,h4,aC,bf,aB,bn,ha,hd,lc,c1]
   refine ae _ _ _ _ _ _ _ _ (V2 c n di a b pv _ hn hd hb (by omega) (by omega) (by omega)) ?_
   rintro u H4⟨hu,d2,cz,jb,e2,eF⟩
   cases hu
   try simp -implicitDefEqProofs only[op,ef,cl,sq,reduceIte,j1,j2,j3,j4,j5,j6,j7,j8,j9,S1]
   refine jc _ _ (by rw[cV,cr c1];simp;exact ha) ?_ ?_ ?_ ?_ ?_ ?_ ?_ ⟨d2,cz,jb,e2,ar.trans eF fun _ h=>.inl h⟩
   all_goals simp -implicitDefEqProofs only[op,ef,cl,sq,reduceIte,j1,j2,j3,j4,j5,j6,j7,j8,j9,S1,h0,h1,h2,h3,h4,aC,bf,aB,bn]
 ·simp -implicitDefEqProofs only[op,ef,cl,sq,reduceIte,j1,j2,j3,j4,j5,j6,j7,j8,j9,S1,h0,h1,h2,h3,h4,aC,bf,aB,bn,ha]
  refine fF _ _ (by rw[decide_eq_false ha];rfl) ⟨?_,?_,?_,?_,?_,?_,?_,?_⟩ ?_ ⟨di,hd,hn,rfl,ar⟩
  all_goals simp -implicitDefEqProofs only[op,ef,cl,sq,reduceIte,j1,j2,j3,j4,j5,j6,j7,j8,j9,S1,h0,h1,h2,h3,h4,aC,bf,aB,bn]
open Go.Sort in
theorem C9 {d d1 d2:Array ByteArray}{a b cg fo pv:Nat}{wb wp:Bool}{cp:Nat×Hint}{hi:Hint}{pi:Array ByteArray×Bool}(aB:¬b-a≤12)(hl:¬cg=0)
  (e1:d1=if (!wb)=true then breakPatterns d a b else d) (el:fo=if (!wb)=true then cg-1 else cg) (ec:cp=choosePivot strLt d1 a b) (e2:d2=if cp.2=.decreasing then reverseRange d1 a b else d1)
  (ep:pv=if cp.2=.decreasing then(b-1)-(cp.1-a)else cp.1) (eh:hi=if cp.2=.decreasing then .increasing else cp.2) (LD:pi=if (wb&&wp&&hi=.increasing)=true then partialInsertionSort strLt d2 a b else(d2,false)) :
  pdq strLt d a b cg wb wp=if pi.2=true then pi.1 else if (a>0&&!strLt pi.1[a-1]! pi.1[pv]!)=true then(if a<(partitionEqual strLt pi.1 a b pv).1∧(partitionEqual strLt pi.1 a b pv).1≤b then pdq strLt (partitionEqual strLt pi.1 a b pv).2 (partitionEqual strLt pi.1 a b pv).1 b fo wb wp else(partitionEqual strLt pi.1 a b pv).2)
   else(if a≤(partition strLt pi.1 a b pv).1∧(partition strLt pi.1 a b pv).1<b then if (partition strLt pi.1 a b pv).1-a<b-(partition strLt pi.1 a b pv).1 then pdq strLt (pdq strLt (partition strLt pi.1 a b pv).2.2 a (partition strLt pi.1 a b pv).1 fo true true) ((partition strLt pi.1 a b pv).1+1) b fo (decide ((partition strLt pi.1 a b pv).1-a≥(b-a)/8)) (partition strLt pi.1 a b pv).2.1
    else pdq strLt (pdq strLt (partition strLt pi.1 a b pv).2.2 ((partition strLt pi.1 a b pv).1+1) b fo true true) a (partition strLt pi.1 a b pv).1 fo (decide (b-(partition strLt pi.1 a b pv).1≥(b-a)/8)) (partition strLt pi.1 a b pv).2.1 else(partition strLt pi.1 a b pv).2.2):=by
 subst LD eh ep e2 ec el e1
 rw[pdq,if_neg aB,if_neg hl]
 rfl
open Go.Sort in
theorem Ae (d:Array ByteArray){a b pv:Nat}(h1:a≤pv)(h2:pv<b)(hb:b≤d.size):a<(partitionEqual strLt d a b pv).1∧(partitionEqual strLt d a b pv).1≤b:=by
 have:=partEqLoop_spec (lt:=strLt) a b b (a+1) (b-1) (swp d a pv) (by omega) (by omega) (by omega) (by omega) (by rw[swp_size];exact hb) (fun t h h'=>by omega) (fun t h h'=>by omega)
 exact⟨this.1,this.2.1⟩
open Go.Sort in
theorem V7 (A:C)(hA:(dq fc.body 1).map (fm · 0)=some A)(c n a b cg:Nat)(wb wp:Bool)(R:aw)(H:af)(K:Out→af→Prop)(h0:R 0=.aA c 0 n 1)(h1:R 1=.int .i64 a)(h2:R 2=.int .i64 b)(h3:R 3=.int .i64 cg)(h4:R 0=.aA c 0 n 1)(aC:R 8=.bool wb)(bf:R 9=.bool wp)(fG:a≤b)(hb:b<16777216)
  (rest:∀R',yD R' c n a b cg wb wp→K (.ex .normal R') H):fp env A R H K:=by
 simp[fc,dq,fm,sq]at hA
 subst hA
 simp -implicitDefEqProofs (maxSteps:=1000000) (disch:=omega) only[aa,aD,aE,aF,aG,aH,aI,wA,a6,wS,a0,wM,S2,op,ef,cl,sq,reduceIte,j1,j2,j3,j4,j5,j6,j7,j8,j9,S1,h0,h1,h2,h3,h4,aC,bf]
 refine rest _ ⟨?_,?_,?_,?_,?_,?_,?_,?_⟩
 all_goals simp -implicitDefEqProofs only[op,ef,cl,sq,reduceIte,j1,j2,j3,j4,j5,j6,j7,j8,j9,S1,h0,h1,h2,h3,h4,aC,bf]
open Go.Sort in
theorem V8 (A:C)(hA:(dq fc.body 1).map (fm · 1)=some A)(c n a b cg:Nat)(wb wp:Bool)(d:Array ByteArray)(R:aw)(H0 H:af)(K:Out→af→Prop)(hp:yD R c n a b cg wb wp)(hd:jd c n H0 (fun x=>x=d) H)(hb:b≤n)(fG:a≤b)(hs:n<16777216)
  (jc:∀R' H',b-a≤12→jd c n H0 (fun x=>x=insertionSort strLt d a b) H'→K (.ex .ret R') H')
  (fF:∀R',¬b-a≤12→yD R' c n a b cg wb wp→K (.ex .normal R') H):fp env A R H K:=by
 simp[fc,dq,fm,sq]at hA
 subst hA
 obtain⟨h0,h1,h2,h3,h4,aC,bf,aB⟩:=hp
 obtain⟨di,hc,hn,rfl,ar⟩:=hd
 by_cases hle:b-a≤12
 ·simp -implicitDefEqProofs only[op,ef,cl,sq,reduceIte,j1,j2,j3,j4,j5,j6,j7,j8,j9,S1,h0,h1,h2,h3,h4,aC,bf,aB,hle]
  have hi:=V0 c di a b H hc (by omega) fG (by omega)
  rw[hn]at hi
  refine ae _ _ _ _ _ _ _ _ hi ?_
  rintro u H2⟨hu,cz,eF⟩
  cases hu
  try simp -implicitDefEqProofs only[op,ef,cl,sq,reduceIte,j1,j2,j3,j4,j5,j6,j7,j8,j9,S1]
  exact jc _ _ hle ⟨_,cz,by rw[(insertionSort_holds mW di a b fG (by omega)).1.1];exact hn,rfl,ar.trans eF fun _ h=>.inl h⟩
 ·simp -implicitDefEqProofs only[op,ef,cl,sq,reduceIte,j1,j2,j3,j4,j5,j6,j7,j8,j9,S1,h0,h1,h2,h3,h4,aC,bf,aB,hle]
  refine fF _ hle ⟨?_,?_,?_,?_,?_,?_,?_,?_⟩
  all_goals simp -implicitDefEqProofs only[op,ef,cl,sq,reduceIte,j1,j2,j3,j4,j5,j6,j7,j8,j9,S1,h0,h1,h2,h3,h4,aC,bf,aB]
open Go.Sort in
theorem V9 (A:C)(hA:(dq fc.body 1).map (fm · 2)=some A)(c n a b cg:Nat)(wb wp:Bool)(d:Array ByteArray)(R:aw)(H0 H:af)(K:Out→af→Prop)(hp:yD R c n a b cg wb wp)(hd:jd c n H0 (fun x=>x=d) H)(hb:b≤n)(fG:a+12<b)(hs:n<16777216)
  (jc:∀R' H',cg=0→jd c n H0 (fun x=>x=heapSort strLt d a b) H'→K (.ex .ret R') H')
  (fF:∀R',¬cg=0→yD R' c n a b cg wb wp→K (.ex .normal R') H):fp env A R H K:=by
 simp[fc,dq,fm,sq]at hA
 subst hA
 obtain⟨h0,h1,h2,h3,h4,aC,bf,aB⟩:=hp
 obtain⟨di,hc,hn,rfl,ar⟩:=hd
 by_cases hl:cg=0
 ·subst hl
  have e:(((0:Nat):Int)==0)=true:=rfl
  simp -implicitDefEqProofs only[op,ef,cl,sq,reduceIte,j1,j2,j3,j4,j5,j6,j7,j8,j9,S1,h0,h1,h2,h3,h4,aC,bf,aB,e]
  refine ae _ _ _ _ _ _ _ _ (QP c n di a b _ hn hc hb (by omega) (by omega)) ?_
  rintro u H2⟨hu,d2,cz,jb,e2,eF⟩
  cases hu
  try simp -implicitDefEqProofs only[op,ef,cl,sq,reduceIte,j1,j2,j3,j4,j5,j6,j7,j8,j9,S1]
  exact jc _ _ rfl ⟨_,cz,jb,e2,ar.trans eF fun _ h=>.inl h⟩
 ·have e:((cg:Int)==0)=false:=by simp;omega
  simp -implicitDefEqProofs only[op,ef,cl,sq,reduceIte,j1,j2,j3,j4,j5,j6,j7,j8,j9,S1,h0,h1,h2,h3,h4,aC,bf,aB,e]
  refine fF _ hl ⟨?_,?_,?_,?_,?_,?_,?_,?_⟩
  all_goals simp -implicitDefEqProofs only[op,ef,cl,sq,reduceIte,j1,j2,j3,j4,j5,j6,j7,j8,j9,S1,h0,h1,h2,h3,h4,aC,bf,aB]
open Go.Sort in
theorem Wa (A:C)(hA:(dq fc.body 1).map (fm · 4)=some A)(c n a b cg:Nat)(wb wp:Bool)(d:Array ByteArray)(R:aw)(H0 H:af)(K:Out→af→Prop)(hp:yD R c n a b cg wb wp)(hd:jd c n H0 (fun x=>x=d) H)(hb:b≤n)(fG:a+12<b)(hs:n<16777216)
  (rest:∀R' H',yD R' c n a b cg wb wp→R' 11=.int .i64 (choosePivot strLt d a b).1→R' 12=.int .i64 (ig (choosePivot strLt d a b).2)→jd c n H0 (fun x=>x=d) H'→K (.ex .normal R') H'):fp env A R H K:=by
 simp[fc,dq,fm,sq]at hA
 subst hA
 obtain⟨h0,h1,h2,h3,h4,aC,bf,aB⟩:=hp
 obtain⟨di,hc,hn,rfl,ar⟩:=hd
 simp -implicitDefEqProofs only[op,ef,cl,sq,reduceIte,j1,j2,j3,j4,j5,j6,j7,j8,j9,S1,h0,h1,h2,h3,h4,aC,bf,aB]
 refine ae _ _ _ _ _ _ _ _ (HO c n di a b _ hn hc hb fG (by omega)) ?_
 rintro u H2⟨hu,hx⟩
 cases hu
 try simp -implicitDefEqProofs only[op,ef,cl,sq,reduceIte,j1,j2,j3,j4,j5,j6,j7,j8,j9,S1]
 refine rest _ _ ⟨?_,?_,?_,?_,?_,?_,?_,?_⟩ ?_ ?_ ⟨di,hx.get hc,hn,rfl,ar.trans (ax (F:=fun _=>False) hx) (fun _ h=>h.elim)⟩
 all_goals simp -implicitDefEqProofs only[op,ef,cl,sq,reduceIte,j1,j2,j3,j4,j5,j6,j7,j8,j9,S1,h0,h1,h2,h3,h4,aC,bf,aB]
open Go.Sort in
theorem Wb (A:C)(hA:(dq fc.body 1).map (HI · 8)=some A)(c n a b cg:Nat)(wb wp:Bool)(d:Array ByteArray)(pv:Nat)(R:aw)(H0 H:af)(K:Out→af→Prop)(hp:yD R c n a b cg wb wp)(bn:R 11=.int .i64 pv)(hd:jd c n H0 (fun x=>x=d) H)(hb:b≤n)(fG:a+12<b)(hs:n<16777216)(ni:a≤pv∧pv<b)
  (ih:∀a' b' (d':Array ByteArray) H',b'-a'<b-a→a'≤b'→b'≤n→d'.size=n→H'[c]?=some (.cells (aJ eS d'.toList))→W env (.call 122 [.aA c 0 n 1,.int .i64 a',.int .i64 b',.int .i64 cg]) H' (sP c n (pdq strLt d' a' b' cg true true) H'))
  (rest:∀R' H' a' b' (d':Array ByteArray) (LF:Bool),a≤a'→a'≤b'→b'≤b→b'-a'<b-a→R' 0=.aA c 0 n 1→R' 1=.int .i64 (a':Nat)→R' 2=.int .i64 (b':Nat)→R' 3=.int .i64 cg→R' 0=.aA c 0 n 1→R' 8=.bool LF→R' 9=.bool (partition strLt d a b pv).2.1 →
   pdq strLt d' a' b' cg LF (partition strLt d a b pv).2.1=(if (partition strLt d a b pv).1-a<b-(partition strLt d a b pv).1 then pdq strLt (pdq strLt (partition strLt d a b pv).2.2 a (partition strLt d a b pv).1 cg true true) ((partition strLt d a b pv).1+1) b cg (decide ((partition strLt d a b pv).1-a≥(b-a)/8)) (partition strLt d a b pv).2.1
    else pdq strLt (pdq strLt (partition strLt d a b pv).2.2 ((partition strLt d a b pv).1+1) b cg true true) a (partition strLt d a b pv).1 cg (decide (b-(partition strLt d a b pv).1≥(b-a)/8)) (partition strLt d a b pv).2.1) →
   jd c n H0 (fun x=>x=d') H'→K (.ex .normal R') H'):fp env A R H K:=by
 simp[fc,dq,HI,sq]at hA
 subst hA
 obtain⟨h0,h1,h2,h3,h4,aC,bf,aB⟩:=hp
 obtain⟨di,hc,hn,rfl,ar⟩:=hd
 have qy:=partition_holds strLt mW di a b pv ni.1 ni.2 (by omega)
 simp -implicitDefEqProofs only[op,ef,cl,sq,reduceIte,j1,j2,j3,j4,j5,j6,j7,j8,j9,S1,h0,h1,h2,h3,h4,aC,bf,aB,bn]
 refine ae _ _ _ _ _ _ _ _ (QQ c n di a b pv _ hn hc hb (by omega) (by omega) (by omega)) ?_
 rintro u H2⟨hu,d2,cz,jb,e2,eF⟩
 cases hu
 generalize partition strLt di a b pv=r at *
 obtain⟨mid,ap,d4⟩:=r
 simp only at qy e2 rest ⊢
 subst e2
 obtain⟨m1,m2,_⟩:=qy
 have kZ:=ar.trans eF fun _ h=>.inl h
 by_cases al:mid-a<b-mid
 ·rw[if_pos al]at rest
  simp -implicitDefEqProofs (maxSteps:=1000000) (disch:=omega) only[aa,aD,aE,aF,aG,aH,aI,wA,a6,wS,a0,wM,S2,op,ef,cl,sq,reduceIte,j1,j2,j3,j4,j5,j6,j7,j8,j9,S1,Yg,h0,h1,h2,h3,h4,aC,bf,aB,bn,al]
  refine ae _ _ _ _ _ _ _ _ (ih a mid d2 _ (by omega) m1 (by omega) jb cz) ?_
  rintro u H3⟨hu,d3,oZ,AF,e3,qi⟩
  cases hu
  simp -implicitDefEqProofs (maxSteps:=1000000) (disch:=omega) only[aa,aD,aE,aF,aG,aH,aI,wA,a6,wS,a0,wM,S2,op,ef,cl,sq,reduceIte,j1,j2,j3,j4,j5,j6,j7,j8,j9,S1,h0,h1,h2,h3,h4,aC,bf,aB,bn]
  refine rest _ _ (mid+1) b d3 (decide ((b-a)/8≤mid-a)) (by omega) (by omega) (Nat.le_refl _) (by omega) ?_ ?_ ?_ ?_ ?_ ?_ ?_ (by rw[e3]) ⟨d3,oZ,AF,rfl,kZ.trans qi fun _ h=>.inl h⟩
  all_goals simp -implicitDefEqProofs only[op,ef,cl,sq,reduceIte,j1,j2,j3,j4,j5,j6,j7,j8,j9,S1,h0,h1,h2,h3,h4,aC,bf,aB]
 ·rw[if_neg al]at rest
  simp -implicitDefEqProofs (maxSteps:=1000000) (disch:=omega) only[aa,aD,aE,aF,aG,aH,aI,wA,a6,wS,a0,wM,S2,op,ef,cl,sq,reduceIte,j1,j2,j3,j4,j5,j6,j7,j8,j9,S1,Yg,h0,h1,h2,h3,h4,aC,bf,aB,bn,al]
  refine ae _ _ _ _ _ _ _ _ (ih (mid+1) b d2 _ (by omega) m2 (by omega) jb cz) ?_
  rintro u H3⟨hu,d3,oZ,AF,e3,qi⟩
  cases hu
  simp -implicitDefEqProofs (maxSteps:=1000000) (disch:=omega) only[aa,aD,aE,aF,aG,aH,aI,wA,a6,wS,a0,wM,S2,op,ef,cl,sq,reduceIte,j1,j2,j3,j4,j5,j6,j7,j8,j9,S1,h0,h1,h2,h3,h4,aC,bf,aB,bn]
  refine rest _ _ a mid d3 (decide ((b-a)/8≤b-mid)) (by omega) (by omega) (by omega) (by omega) ?_ ?_ ?_ ?_ ?_ ?_ ?_ (by rw[e3]) ⟨d3,oZ,AF,rfl,kZ.trans qi fun _ h=>.inl h⟩
  all_goals simp -implicitDefEqProofs only[op,ef,cl,sq,reduceIte,j1,j2,j3,j4,j5,j6,j7,j8,j9,S1,h0,h1,h2,h3,h4,aC,bf,aB]
open Go.Sort in
theorem Wc (c n:Nat)(hs:n<16777216):∀m a b cg (d:Array ByteArray) H,b-a=m→a≤b→b≤n→cg<1000→d.size=n→H[c]?=some (.cells (aJ eS d.toList)) →
  W env (.call 122 [.aA c 0 n 1,.int .i64 (a:Nat),.int .i64 (b:Nat),.int .i64 (cg:Nat)]) H (sP c n (pdq strLt d a b cg true true) H):=by
 intro m
 induction m using Nat.strongRecOn with
 | _ m ih =>
 intro a b cg d H hm fG hb acG hn hc
 subst hm
 refine W.bu rfl rfl rfl ?_
 simp -implicitDefEqProofs only[fc,op,ef,cl,sq,reduceIte,j1,j2,j3,j4,j5,j6,j7,j8,j9,S1]
 refine W.cK (fun (q:Nat×Nat×Nat×Bool×Bool) R H'=>At H' (fun H'=>jd c n H (fun di=>pdq strLt di q.1 q.2.1 q.2.2.1 q.2.2.2.1 q.2.2.2.2=pdq strLt d a b cg true true) H')∧R 0=.aA c 0 n 1∧R 1=.int .i64 q.1∧R 2=.int .i64 q.2.1∧R 3=.int .i64 q.2.2.1∧R 0=.aA c 0 n 1∧R 8=.bool q.2.2.2.1∧R 9=.bool q.2.2.2.2∧a≤q.1∧q.1≤q.2.1∧q.2.1≤b∧q.2.2.1≤cg) (fun q=>q.2.1-q.1) (a,b,cg,true,true) ⟨.i ⟨d,hc,hn,rfl,a9.refl _ _⟩,rfl,rfl,rfl,rfl,rfl,rfl,rfl,Nat.le_refl _,fG,Nat.le_refl _,Nat.le_refl _⟩ ?_
 rintro⟨a1,b1,l1,wb,wp⟩ R H1 ⟨⟨di,hd,a7,hP,ar⟩,h0,h1,h2,h3,h4,aC,bf,q1,q2,q3,q4⟩
 simp only at hP h1 h2 h3 aC bf q1 q2 q3 q4 ⊢
 rw[rb,ga]
 refine V7 _ rfl c n a1 b1 l1 wb wp R H1 _ h0 h1 h2 h3 h4 aC bf q2 (by omega) ?_
 intro R1 p1
 rw[dX,cU,ga]
 refine V8 _ rfl c n a1 b1 l1 wb wp di R1 H H1 _ p1 ⟨di,hd,a7,rfl,ar⟩ (by omega) q2 hs ?_ ?_
 ·rintro R' H' hle⟨d',iu,fI,rfl,qX⟩
  rw[pdq,if_pos hle]at hP
  try simp -implicitDefEqProofs only[op,ef,cl,sq,reduceIte,j1,j2,j3,j4,j5,j6,j7,j8,j9,S1]
  exact⟨rfl,_,iu,fI,hP,qX⟩
 intro R2 aB p2
 rw[dX,cU,ga]
 refine V9 _ rfl c n a1 b1 l1 wb wp di R2 H H1 _ p2 ⟨di,hd,a7,rfl,ar⟩ (by omega) (by omega) hs ?_ ?_
 ·rintro R' H' y6⟨d',iu,fI,rfl,qX⟩
  rw[pdq,if_neg aB,if_pos y6]at hP
  try simp -implicitDefEqProofs only[op,ef,cl,sq,reduceIte,j1,j2,j3,j4,j5,j6,j7,j8,j9,S1]
  exact⟨rfl,_,iu,fI,hP,qX⟩
 intro R3 y6 p3
 rw[dX,cU,ga]
 refine V3 _ rfl c n a1 b1 l1 wb wp di R3 H H1 _ p3 ⟨di,hd,a7,rfl,ar⟩ (by omega) (by omega) hs (by omega) ?_
 rintro R4 H4 p4⟨d1,sN,DC,e1,zb⟩
 obtain⟨fo,el⟩:∃l,l=if (!wb)=true then l1-1 else l1:=⟨_,rfl⟩
 have tn:fo≤l1:=by rw[el];split<;>omega
 rw[←el]at p4
 rw[dX,cU,ga]
 refine Wa _ rfl c n a1 b1 fo wb wp d1 R4 H H4 _ p4 ⟨d1,sN,DC,rfl,zb⟩ (by omega) (by omega) hs ?_
 rintro R5 H5 p5 bn nW⟨LG,hd5,QG,Od,VW⟩
 subst Od
 have VX:=choosePivot_holds strLt LG a1 b1 (by omega)
 obtain⟨cp,ec⟩:∃x,x=choosePivot strLt LG a1 b1:=⟨_,rfl⟩
 rw[←ec]at bn nW VX
 rw[dX,cU,ga]
 refine V4 _ rfl c n a1 b1 fo wb wp LG cp.1 cp.2 R5 H H5 _ p5 bn nW ⟨LG,hd5,QG,rfl,VW⟩ (by omega) (by omega) hs VX ?_
 rintro R6 H6 p6 bn nW⟨d2,hd6,hs6,e2,hf6⟩
 obtain⟨pv,ep⟩:∃x,x=if cp.2=.decreasing then(b1-1)-(cp.1-a1)else cp.1:=⟨_,rfl⟩
 obtain⟨hi,eh⟩:∃x,x=if cp.2=.decreasing then Hint.increasing else cp.2:=⟨_,rfl⟩
 rw[←ep]at bn
 rw[←eh]at nW
 have ni:a1≤pv∧pv<b1:=by rw[ep];split<;>omega
 rw[dX,cU,ga]
 obtain⟨pi,LD⟩:∃x,x=if (wb&&wp&&hi=.increasing)=true then partialInsertionSort strLt d2 a1 b1 else(d2,false):=⟨_,rfl⟩
 rw[C9 aB y6 e1 el ec e2 ep eh LD]at hP
 refine V5 _ rfl c n a1 b1 fo wb wp d2 pv hi R6 H H6 _ p6 bn nW ⟨d2,hd6,hs6,rfl,hf6⟩ (by omega) (by omega) hs pi LD ?_ ?_
 ·rintro R' H' Hu⟨d',iu,fI,rfl,qX⟩
  rw[if_pos Hu]at hP
  try simp -implicitDefEqProofs only[op,ef,cl,sq,reduceIte,j1,j2,j3,j4,j5,j6,j7,j8,j9,S1]
  exact⟨rfl,_,iu,fI,hP,qX⟩
 rintro R7 H7 Ht p7 bn⟨d3,hd7,LH,e3,hf7⟩
 rw[if_neg (by rw[Ht];simp),←e3]at hP
 rw[dX,cU,ga]
 refine V6 _ rfl c n a1 b1 fo wb wp d3 pv R7 H H7 _ p7 bn ⟨d3,hd7,LH,rfl,hf7⟩ (by omega) (by omega) hs ni ?_ ?_
 ·rintro R' H' lI g0 g1 g2 g3 g4 HK zd⟨d',iu,fI,e',qX⟩
  have hr:=Ae d3 ni.1 ni.2 (by omega)
  rw[if_pos lI,if_pos hr,←e']at hP
  try simp -implicitDefEqProofs only[op,ef,cl,sq,reduceIte,j1,j2,j3,j4,j5,j6,j7,j8,j9,S1]
  exact⟨((partitionEqual strLt d3 a1 b1 pv).1,b1,fo,wb,wp),by simp only;omega,.i ⟨_,iu,fI,hP,qX⟩,g0,g1,g2,g3,g4,HK,zd,by simp only;omega,by simp only;omega,by simp only;omega,by simp only;omega⟩
 rintro R8 H8 lI p8 bn⟨LI,Tq,hs8,e3',Jw⟩
 subst e3'
 have hr:=partition_holds strLt mW LI a1 b1 pv ni.1 ni.2 (by omega)
 rw[if_neg (by rw[lI];simp),if_pos ⟨hr.1,hr.2.1⟩]at hP
 rw[dX,cU]
 refine Wb _ rfl c n a1 b1 fo wb wp LI pv R8 H H8 _ p8 bn ⟨LI,Tq,hs8,rfl,Jw⟩ (by omega) (by omega) hs ni (fun a' b' d' H' al QI iB fI gB=>ih _ (by omega) a' b' fo d' H' rfl QI iB (by omega) fI gB) ?_
 rintro R' H' a' b' d' LF QI HL iB al g0 g1 g2 g3 g4 HK zd e'⟨d'',iu,fI,rfl,qX⟩
 try simp -implicitDefEqProofs only[op,ef,cl,sq,reduceIte,j1,j2,j3,j4,j5,j6,j7,j8,j9,S1]
 exact⟨(a',b',fo,LF,(partition strLt LI a1 b1 pv).2.1),by simp only;omega,.i ⟨_,iu,fI,by simp only;rw[e'];exact hP,qX⟩,g0,g1,g2,g3,g4,HK,zd,by simp only;omega,HL,by simp only;omega,by simp only;omega⟩
open Go.Sort in
theorem LO (c:Nat)(d:Array ByteArray)(H:af)(hc:H[c]?=some (.cells (aJ eS d.toList)))(hs:d.size<16777216) :
  W env (.call 99 [.aA c 0 d.size 1]) H (sP c d.size (sort strLt d) H):=by
 refine W.bu rfl rfl rfl ?_
 have w1:IntKind.u64.wrap (d.size:Int)=(d.size:Int):=qz (by omega)
 simp -implicitDefEqProofs only[Li,op,ef,cl,sq,reduceIte,j1,j2,j3,j4,j5,j6,j7,j8,j9,S1,w1]
 refine ae _ _ _ _ _ _ _ _ (HD d.size hs _) ?_
 rintro u H1⟨hu,rfl⟩
 cases hu
 have hb:=rm (n:=d.size) (k:=24) hs
 try simp -implicitDefEqProofs only[op,ef,cl,sq,reduceIte,j1,j2,j3,j4,j5,j6,j7,j8,j9,S1]
 refine ae _ _ _ _ _ _ _ _ (Wc c d.size hs _ 0 d.size (bitsLen d.size) d _ rfl (Nat.zero_le _) (Nat.le_refl _) (by omega) rfl hc) ?_
 rintro u H2⟨hu,h2⟩
 cases hu
 try simp -implicitDefEqProofs only[op,ef,cl,sq,reduceIte,j1,j2,j3,j4,j5,j6,j7,j8,j9,S1]
 exact⟨rfl,h2⟩
theorem uc {d:Array ByteArray}(hn:d.toList.Nodup):(Go.Sort.sort strLt d).toList.Perm d.toList∧(Go.Sort.sort strLt d).toList.Pairwise (fun a b=>strLt a b=true):=by
 obtain⟨⟨hs,_,hp⟩,HM⟩:=Go.Sort.sort_sorts strLt mW d
 have e1:(Go.Sort.sort strLt d).extract 0 d.size=Go.Sort.sort strLt d:=by
  conv=>lhs;arg 3;rw[←hs]
  simp
 have fR:(Go.Sort.sort strLt d).toList.Perm d.toList:=by
  rw[e1]at hp
  simpa using hp
 refine⟨fR,?_⟩
 have DI:(Go.Sort.sort strLt d).toList.Nodup:=fR.nodup_iff.2 hn
 rw[List.pairwise_iff_getElem]
 intro i j hi hj sH
 have h1:=HM i j (Nat.zero_le _) sH (by rw[←hs];simpa using hj)
 have gi:=jA (d:=Go.Sort.sort strLt d) (i:=i) (by simpa using hi)
 have gj:=jA (d:=Go.Sort.sort strLt d) (i:=j) (by simpa using hj)
 rw[List.getElem?_eq_getElem hi]at gi
 rw[List.getElem?_eq_getElem hj]at gj
 rw[Option.some.inj gi,Option.some.inj gj]
 cases h:strLt (Go.Sort.sort strLt d)[i]! (Go.Sort.sort strLt d)[j]! with
 | true=>rfl
 | false =>
  have e:=pZ h h1
  rw[←Option.some.inj gi,←Option.some.inj gj]at e
  have:=(List.getElem_inj DI).1 e
  omega
theorem Da (es:List (ByteArray×T))(c mb:Nat)(H:af)(fh:(es.map (·.1)).Nodup)(jg:es.length≤8000000)(hc:H[c]?=some (.cells [.map mb]))(hm:H[mb]?=some (.map (bh T.str es))) :
  W env (.call 64 [.fn 100 [.ptr c 0]]) H (QN es H):=by
 refine W.bu rfl rfl rfl ?_
 simp -implicitDefEqProofs only[PT,op,ef,cl,sq,reduceIte,j1,j2,j3,j4,j5,j6,j7,j8,j9,S1]
 refine ae _ _ _ _ _ _ _ _ (Qw es c mb H fh (by omega) hc hm) ?_
 rintro u H1⟨hx,t,cd,hu,BB,mS⟩
 cases hu
 have fR:cd.Perm (es.map (·.1)):=(List.perm_ext_iff_of_nodup mS.Hr fh).2 fun k=>mS.CX k
 have og:cd.length=es.length:=by have:=mS.len;simpa using this
 rcases BB with⟨rfl,rfl⟩|⟨d,rfl,hd,Jn⟩
 ·simp -implicitDefEqProofs only[op,ef,cl,sq,reduceIte,j1,j2,j3,j4,j5,j6,j7,j8,j9,S1]
  refine ae _ _ _ _ _ _ _ _ (LL _) ?_
  rintro u H2⟨hu,rfl⟩
  cases hu
  simp -implicitDefEqProofs only[op,ef,cl,sq,reduceIte,j1,j2,j3,j4,j5,j6,j7,j8,j9,S1]
  exact⟨hx,_,[],rfl,jy _ _ _ _,fR,List.Pairwise.nil⟩
 ·simp -implicitDefEqProofs only[op,ef,cl,sq,reduceIte,j1,j2,j3,j4,j5,j6,j7,j8,j9,S1]
  have:=LO d cd.toArray H1 (by simpa using hd) (by simpa using (by omega:cd.length<16777216))
  simp -implicitDefEqProofs only[List.size_toArray]at this
  refine ae _ _ _ _ _ _ _ _ this ?_
  rintro u H2⟨hu,d2,h2,a7,rfl,ar⟩
  cases hu
  simp -implicitDefEqProofs only[op,ef,cl,sq,reduceIte,j1,j2,j3,j4,j5,j6,j7,j8,j9,S1]
  have hs:=uc (d:=cd.toArray) (by simpa using mS.Hr)
  refine⟨nV fun a x VY=>ar.get (hx.get VY) (by have:=aM VY;omega),_,_,rfl,.inr ⟨d,?_,h2,Jn⟩,hs.1.trans fR,hs.2⟩
  rw[hs.1.length_eq]
theorem HQ (b:Bk)(s:dA)(F:Nat→Prop)(H:af)(hs:SH H b s F)(hi:gQ s)(hn:s.ls.length≤8000000):W env (.call 20 [.ptr b.s 0]) H (QO s H):=by
 obtain⟨im,pm,sa⟩:=hs
 refine W.bu rfl rfl rfl ?_
 simp -implicitDefEqProofs only[Pk,op,ef,cl,sq,reduceIte,j1,j2,j3,j4,j5,j6,j7,j8,j9,S1,sa.hs]
 refine ae _ _ _ _ _ _ _ (fun o H'=>o=.val (.fn 100 [.ptr H.length 0])∧H'=H++[.cells [.map b.l]]) ?_ ?_
 ·refine W.bu rfl rfl rfl ?_
  simp -implicitDefEqProofs only[PU,op,ef,cl,sq,reduceIte,j1,j2,j3,j4,j5,j6,j7,j8,j9,S1]
  exact rfl
 rintro u H1⟨hu,rfl⟩
 cases hu
 have ll:=aM sa.hl
 have yB:(lF s.ls).map (·.1)=s.ls.map (·.1):=by simp[lF]
 simp -implicitDefEqProofs only[op,ef,cl,sq,reduceIte,j1,j2,j3,j4,j5,j6,j7,j8,j9,S1]
 refine ae _ _ _ _ _ _ _ _ (Da (lF s.ls) H.length b.l _ (by rw[yB];exact hi.zN) (by simpa[lF]using hn) (aK rfl) (by rw[aP ll];exact sa.hl)) ?_
 rintro t H2⟨mN,_,l,hu,BB,fR,LK⟩
 cases hu
 rw[yB]at fR
 have tn:l.length≤8000000:=by rw[fR.length_eq];simpa using hn
 have hlen:=BB.len
 have kr:Ext H H2:=(Ext.rfl'.app _).trans mN
 simp -implicitDefEqProofs only[op,ef,cl,sq,reduceIte,j1,j2,j3,j4,j5,j6,j7,j8,j9,S1,hlen]
 refine W.cK (fun (i:Nat) R H'=>At H' (fun H'=>∃kw,R 3=.sl kw ((qD s (l.take i)).map eL)∧Ext H H'∧Ext H2 H'∧ji H2.length H' kw∧gy kw (l.take i))∧R 0=.ptr b.s 0∧R 11=t∧R 12=.int .i64 l.length∧R 13=.int .i64 i∧i≤l.length) (fun i=>l.length-i) 0 ⟨.i ⟨.nil,rfl,kr,Ext.rfl',iw _ _,fun _=>rfl⟩,rfl,rfl,rfl,rfl,Nat.zero_le _⟩ ?_
 rintro i R H3⟨⟨kw,h3,mo,z9,mQ,jO⟩,h0,bf,aB,bn,l3⟩
 by_cases al:i<l.length
 ·obtain⟨m,hm⟩:=bK al
  have ws:=av (show i<9223372036854775807 by omega)
  obtain⟨c,g1,g2,g3⟩:=mA (enc:=eS) (n:=1) (fun _=>rfl) (by decide) (BB.ext z9) hm
  have BD:=sa.jL (ax (F:=fun _=>False) mo) (fun _ _ _ h=>h)
  have ke:=oX s m
  have bB:=all_map (enc:=eL) (n:=2) (fun _=>rfl) (qD s (l.take i))
  have TA:((qD s (l.take i)).map eL).length≤8000000:=by simp -implicitDefEqProofs only[qD,List.length_map,List.length_take];omega
  obtain⟨k',H5,ha,HN,cO⟩:=jJ (bytes:=24) ((qD s (l.take i)).map eL) [[T.str m,.int .u64 (bT s m)]] mQ z9.len (by simp) (ft (by simp -implicitDefEqProofs only[List.length_cons,List.length_nil];omega))
  have tF:=qb ha (by simp)
  simp -implicitDefEqProofs only[op,ef,cl,sq,reduceIte,j1,j2,j3,j4,j5,j6,j7,j8,j9,S1]at ha
  simp -implicitDefEqProofs only[op,ef,cl,sq,reduceIte,j1,j2,j3,j4,j5,j6,j7,j8,j9,S1,h0,h3,bf,aB,bn,al,aa,g1,g2,g3,eS,BD.hs,BD.hl,fQ,ke,bB,ha,ws]
  refine⟨i+1,by omega,.i ⟨k',?_,cO.ext H (by have:=kr.len;omega) mo,cO.ext H2 (Nat.le_refl _) z9,HN,fun h=>absurd h tF⟩,rfl,by omega⟩
  rw[bN hm]
  simp -implicitDefEqProofs only[qD,List.map_append,List.map_cons,List.map_nil,eL]
 ·have nU:i=l.length:=by omega
  subst nU
  rw[List.take_length]at h3 jO
  simp -implicitDefEqProofs only[op,ef,cl,sq,reduceIte,j1,j2,j3,j4,j5,j6,j7,j8,j9,S1,h3,aB,bn,al]
  exact⟨mo,kw,l,jO,rfl,fR,LK⟩
structure Vd where
 value:ByteArray
 keys:List ByteArray
 aZ:Int
def Hd.vd (h:Hd):Vd:=⟨h.value,h.keys,h.aZ⟩
structure Ab where
 v:Nm→Option Vd
 l:ByteArray→Option Nat
def Ab.last (a:Ab)(k:ByteArray):Nat:=(a.l k).getD 0
def Ab.has (a:Ab)(m:Nm):Bool:=(a.v m).isSome
def eV (s:dA):Ab:=⟨fun m=>(aj s.vs m).map Hd.vd,fun k=>aj s.ls k⟩
def Ab.emp:Ab:=⟨fun _=>none,fun _=>none⟩
def Ab.put (a:Ab)(n:Nat)(l:List (ByteArray×ByteArray))(ks:List ByteArray)(now:Int):Ab :=
 ⟨fun m=>match a.v m with
  | some h=>some h
  | none=>if m.2=n then(aj l m.1).map fun v=>⟨v,ks,if n<a.last m.1 then now else -1⟩else none,a.l⟩
def Ab.fresh (a:Ab)(n:Nat)(l:List (ByteArray×ByteArray)):Bool:=l.any fun p=>!a.has (p.1,n)
def Ab.mB (a : Ab)(n : Nat)(now : Int) : Ab :=
  ⟨fun m => (a.v m).map fun h => if h.aZ = -1 ∧ a.has (m.1, n) = true ∧ a.last m.1<n ∧ m.2<n then { h with aZ := now } else h,
   fun k => if a.has (k, n) = true ∧ a.last k<n then some n else a.l k⟩
def Ab.cut (a:Ab)(m0:Nm):Ab:=⟨fun m=>if m=m0 then none else a.v m,a.l⟩
theorem eg {a b:Ab}(h1:∀m,a.v m=b.v m)(h2:∀k,a.l k=b.l k):a=b:=by
 cases a;cases b;simp -implicitDefEqProofs only[Ab.mk.injEq];exact⟨funext h1,funext h2⟩
theorem dz {α β:Type}[DecidableEq α]{es:List (α×β)}(hn:(es.map (·.1)).Nodup){p:α×β}(hp:p∈es):aj es p.1=some p.2:=by
 induction es with
 | nil=>cases hp
 | cons e es ih =>
  rw[List.map_cons,List.nodup_cons]at hn
  rw[bj]
  rcases List.mem_cons.1 hp with rfl|hp
  ·simp
  ·rw[if_neg,ih hn.2 hp]
   intro h
   exact hn.1 (h▸List.mem_map.2 ⟨p,hp,rfl⟩)
theorem lH.abs {s s':dA}{n:Nat}{l:List (ByteArray×ByteArray)}{ks:List ByteArray}{now:Int}{fr:Bool}(h:lH s s' n l ks now fr)(hn:(l.map (·.1)).Nodup):eV s'=(eV s).put n l ks now:=by
 refine eg (fun m=>?_) fun k=>by simp -implicitDefEqProofs only[eV,Ab.put,h.ls]
 simp -implicitDefEqProofs only[eV,Ab.put]
 by_cases hm:m.2=n∧m.1∈l.map (·.1)
 ·obtain⟨rfl,hm⟩:=hm
  obtain⟨p,hp,tJ⟩:=List.mem_map.1 hm
  have e:m=(p.1,m.2):=by rw[tJ]
  cases hl:aj s.vs m with
  | some x =>
   have:=h.kz p hp x (by rw[←e];exact hl)
   rw[←e]at this
   simp[this]
  | none =>
   obtain⟨kk,_,h2⟩:=h.new p hp (by rw[←e];exact hl)
   rw[←e]at h2
   have h3:=dz hn hp
   rw[tJ]at h3 h2
   simp -implicitDefEqProofs only[h2,h3,Hd.vd,Option.map_some,Option.map_none,if_true];rfl
 ·have h1:=h.other m (by
   by_cases e:m.2=n
   ·exact .inr fun h=>hm ⟨e,h⟩
   ·exact .inl e)
  rw[h1]
  cases hl:aj s.vs m with
  | some x=>simp
  | none =>
   simp -implicitDefEqProofs only[Option.map_none]
   split
   ·rename_i e
    rw[bS.2 fun h=>hm ⟨e,h⟩];rfl
   ·rfl
theorem lH.fr {s s':dA}{n:Nat}{l:List (ByteArray×ByteArray)}{ks:List ByteArray}{now:Int}{fr:Bool}(h:lH s s' n l ks now fr):fr=(eV s).fresh n l:=by
 rw[Bool.eq_iff_iff,h.fresh]
 simp -implicitDefEqProofs only[Ab.fresh,List.any_eq_true,Ab.has,eV,Option.isSome_map,Bool.not_eq_true',Option.isSome_eq_false_iff,Option.isNone_iff_eq_none]
theorem tV.abs {s s':dA}{n:Nat}{now:Int}(hi:gQ s)(h:tV s s' n now (s.dc n)):eV s'=(eV s).mB n now:=by
 have hp:∀k,k∈s.dc n↔(eV s).has (k,n)=true:=fun k=>by rw[hi.Lk];simp[Ab.has,eV]
 have eQ:∀k,bT s k=(eV s).last k:=fun _=>rfl
 have hv:∀m,(eV s).v m=(aj s.vs m).map Hd.vd:=fun _=>rfl
 have zH:∀k,(eV s).l k=aj s.ls k:=fun _=>rfl
 obtain⟨a,ha⟩:∃a,a=eV s:=⟨_,rfl⟩
 rw[←ha]at hp eQ hv zH ⊢
 refine eg (fun m=>?_) fun k=>?_
 ·obtain⟨h1,h2⟩:=h.vs.2 m
  show(aj s'.vs m).map Hd.vd=(a.v m).map _
  rw[hv]
  cases hl:aj s.vs m with
  | none=>rw[h1 hl];rfl
  | some x =>
   obtain⟨h3,h4⟩:=h2 x hl
   by_cases hc:(m.1∈s.dc n∧bT s m.1<n∧m.2<n)∧x.aZ=-1
   ·rw[h3 hc]
    simp -implicitDefEqProofs only[Option.map_some,Option.some.injEq]
    rw[if_pos ⟨hc.2,(hp _).1 hc.1.1,eQ _▸hc.1.2.1,hc.1.2.2⟩];rfl
   ·rw[h4 hc]
    simp -implicitDefEqProofs only[Option.map_some,Option.some.injEq]
    rw[if_neg]
    rintro⟨a,b,c,d⟩
    exact hc ⟨⟨(hp _).2 b,by rw[eQ];exact c,d⟩,a⟩
 ·show aj s'.ls k=if _ then _ else a.l k
  rw[zH]
  by_cases hc:k∈s.dc n∧bT s k<n
  ·rw[h.on k hc.1 hc.2,if_pos ⟨(hp _).1 hc.1,by rw[←eQ];exact hc.2⟩]
  ·rw[h.off k hc,if_neg fun hh=>hc ⟨(hp _).2 hh.1,by rw[eQ];exact hh.2⟩]
theorem HR {s:dA}(hi:gQ s)(k:ByteArray)(n:Nat):eV (s.drop k n)=(eV s).cut (k,n):=by
 refine eg (fun m=>?_) fun k=>rfl
 simp -implicitDefEqProofs only[eV,Ab.cut,dA.drop,kf hi.nd]
 split<;>rfl
theorem yE {α:Type}:∀{l l':List α},l.Nodup→(∀x∈l,x∈l')→l.length≤l'.length
 | [],_,_,_=>Nat.zero_le _
 | x :: l,l',hn,hs=>by
  obtain⟨a,b,rfl⟩:=List.append_of_mem (hs x List.mem_cons_self)
  rw[List.nodup_cons]at hn
  have:=yE (l:=l) (l':=a++b) hn.2 fun y hy=>by
   have h:=hs y (List.mem_cons_of_mem _ hy)
   rcases List.mem_append.1 h with h|h
   ·exact List.mem_append_left _ h
   ·rcases List.mem_cons.1 h with rfl|h
    ·exact absurd hy hn.1
    ·exact List.mem_append_right _ h
  simp -implicitDefEqProofs only[List.length_append,List.length_cons]at this ⊢
  omega
theorem lH.QS {s s':dA}{n:Nat}{l:List (ByteArray×ByteArray)}{ks:List ByteArray}{now:Int}{fr:Bool}(h:lH s s' n l ks now fr)(hi:gQ s'):s'.vs.length≤s.vs.length+l.length:=by
 have:=yE (l:=s'.vs.map (·.1)) (l':=s.vs.map (·.1)++l.map fun p=>(p.1,n)) hi.nd fun m hm=>by
  rw[List.mem_append]
  by_cases hc:m.2=n∧m.1∈l.map (·.1)
  ·obtain⟨p,hp,e⟩:=List.mem_map.1 hc.2
   exact .inr (List.mem_map.2 ⟨p,hp,by rw[e,←hc.1]⟩)
  ·refine .inl ?_
   rw[mem_keys]at hm ⊢
   rwa[h.other m (by
    by_cases e:m.2=n
    ·exact .inr fun h=>hc ⟨e,h⟩
    ·exact .inl e)]at hm
 simpa using this
theorem VS.QS {v v':List (Nm×Hd)}{now:Int}{S:Nm→Prop}(h:VS v v' now S)(hn:(v.map (·.1)).Nodup):v'.length=v.length:=by
 have:=QK h.1 hn fun m=>by rw[mem_keys,mem_keys,h.some]
 simpa using this
def lO (H:af)(b:Bk)(a:Ab)(F:Nat→Prop)(n:Nat):Prop:=∃s,SH H b s F∧gQ s∧eV s=a∧s.n≤n∧s.vs.length≤n
theorem lO.ext {H H':af}{b:Bk}{a:Ab}{F:Nat→Prop}{n:Nat}(h:lO H b a F n)(hx:Ext H H'):lO H' b a F n:=by
 obtain⟨s,h1,h2⟩:=h
 exact⟨s,h1.ext hx,h2⟩
theorem lO.le {H:af}{b:Bk}{a:Ab}{F:Nat→Prop}{n m:Nat}(h:lO H b a F n)(hm:n≤m):lO H b a F m:=by
 obtain⟨s,h1,h2,h3,h4,h5⟩:=h
 exact⟨s,h1,h2,h3,by omega,by omega⟩
def ql (F F':Nat→Prop)(H H':af):Prop:=∀c,F' c→F c∨(H.length≤c∧c<H'.length)
theorem Wd (H:af):W env (.call 28 []) H (fun o H'=>Ext H H'∧∃b F,o=.val (.ptr b.s 0)∧lO H' b Ab.emp F 0∧∀c,F c→H.length≤c∧c<H'.length) :=
 W.use (abV H) fun o H' ⟨hx,b,F,hu,sh,hF⟩=>⟨hx,b,F,hu,⟨_,sh,gQ.emp,rfl,Nat.le_refl _,Nat.le_refl _⟩,hF⟩
theorem Af {n:Nat}{l:List (ByteArray×ByteArray)}{ks:List ByteArray}(h:ja n l ks):(l.map (·.1)).Nodup:=by
 refine List.pairwise_map.2 (List.pairwise_iff_getElem.2 fun i j hi hj sH e=>?_)
 have:=sI h i j _ _ sH (List.getElem?_eq_getElem hi) (List.getElem?_eq_getElem hj)
 rw[e,dY]at this;cases this
def We (b:Bk)(a:Ab)(F:Nat→Prop)(m n:Nat)(l:List (ByteArray×ByteArray))(ks:List ByteArray)(now:Int)(H:af):Out→af→Prop:=fun o H' =>
 ∃F',o=.val (.bJ [.bool (a.fresh n l),.int .i64 0])∧lO H' b (a.put n l ks now) F' (m+l.length)∧a9 F H H'∧ql F F' H H'
theorem acQ {b:Bk}{a:Ab}{F:Nat→Prop}{m:Nat}(n:Nat)(k k':SK)(l:List (ByteArray×ByteArray))(ks:List ByteArray)(now:Int){H:af}(h:lO H b a F m)(hn:m+l.length≤8000000)(jO:gy k' ks)(hm:ja n l ks)(ht:ba now) :
  W env (.call 23 [.ptr b.s 0,.int .u64 n,.sl k (l.map eP),.sl k' (ks.map eS),.int .i64 now]) H (We b a F m n l ks now H):=by
 obtain⟨s,sh,hi,rfl,h4,h5⟩:=h
 refine W.use (Vq b s F n k k' l ks now H sh hi (by omega) jO hm ht) fun o H' ⟨s',F',fr,hu,QT,kD,hp,y0,ar,hg⟩=>⟨F',?_,⟨s',QT,kD,hp.abs (Af hm),by omega,?_⟩,ar,hg⟩
 ·rw[hu,hp.fr]
 ·have:=hp.QS kD;omega
def Wf (b:Bk)(a:Ab)(F:Nat→Prop)(m n:Nat)(now:Int)(H:af):Out→af→Prop:=fun o H' =>
 ∃D:List ByteArray,D.Nodup∧(∀k,k∈D↔a.has (k,n)=true)∧o=.val (.bJ [.int .i64 D.length,.int .i64 0])∧lO H' b (a.mB n now) F m∧a9 F H H'
theorem acR {b:Bk}{a:Ab}{F:Nat→Prop}{m:Nat}(n:Nat)(now:Int){H:af}(h:lO H b a F m)(hn:m≤8000000)(Qn:65536≤n)(ht:ba now):W env (.call 24 [.ptr b.s 0,.int .u64 n,.int .i64 now]) H (Wf b a F m n now H):=by
 obtain⟨s,sh,hi,rfl,h4,h5⟩:=h
 refine W.use (Ho b s F n now H sh hi (by omega) Qn ht) fun o H' ⟨s',hu,QT,kD,hc,y0,_,_,ar⟩=>⟨s.dc n,hi.Qm n,fun k=>?_,hu,⟨s',QT,kD,hc.abs hi,by omega,?_⟩,ar⟩
 ·rw[hi.Lk];simp[Ab.has,eV]
 ·have:=hc.vs.QS hi.nd;omega
def QU (b:Bk)(a:Ab)(F:Nat→Prop)(m:Nat)(k:ByteArray)(n:Nat)(H:af):Out→af→Prop:=fun o H' =>
 (a.v (k,n)=none∧o=.val (.int .i64 110)∧Ext H H')∨(∃h,a.v (k,n)=some h∧h.aZ=-1∧o=.val (.int .i64 1)∧Ext H H') ∨
 ∃h,a.v (k,n)=some h∧h.aZ≠-1∧o=.val (.int .i64 0)∧lO H' b (a.cut (k,n)) F m∧a9 F H H'
theorem HS {α β:Type}[DecidableEq α](es:List (α×β))(k:α):(ng es k).length≤es.length:=by
 unfold ng;split
 ·exact List.length_eraseIdx_le es _
 ·exact Nat.le_refl _
theorem Wg {b:Bk}{a:Ab}{F:Nat→Prop}{m:Nat}(k:ByteArray)(n:Nat){H:af}(h:lO H b a F m)(hn:m≤8000000):W env (.call 25 [.ptr b.s 0,.str k,.int .u64 n]) H (QU b a F m k n H):=by
 obtain⟨s,sh,hi,rfl,h4,h5⟩:=h
 refine W.use (Qr b s F k n H sh hi (by omega)) fun o H' hq=>?_
 rcases hq with⟨h1,hu,hx⟩|⟨h,h1,h2,hu,hx⟩|⟨h,h1,h2,hu,QT,ar⟩
 ·exact .inl ⟨by simp[eV,h1],hu,hx⟩
 ·exact .inr (.inl ⟨h.vd,by simp[eV,h1],h2,hu,hx⟩)
 ·exact .inr (.inr ⟨h.vd,by simp[eV,h1],h2,hu,⟨_,QT,hi.drop k n,HR hi k n,by simpa[dA.drop]using h4,Nat.le_trans (HS _ _) h5⟩,ar⟩)
def je (o:Option Vd):Vd:=o.getD ⟨⟨#[]⟩,[],0⟩
theorem Wh (o:Option Hd):(qK o).vd=je (o.map Hd.vd):=by cases o<;>rfl
def Names (a:Ab)(l:List Nm):Prop:=l.Pairwise (fun x y=>aY x y=true)∧∀m,m∈l↔a.has m=true
theorem Names.uniq {a:Ab}{l l':List Nm}(h:Names a l)(h':Names a l'):l=l':=u6 l l' h.1 h'.1 fun m=>by rw[h.2,h'.2]
def Yh (a:Ab)(m:Nm):List T:=[.str m.1,.int .u64 m.2,.str (je (a.v m)).value,.sl .arg ((je (a.v m)).keys.map eS),.int .i64 (je (a.v m)).aZ]
theorem Names.nd {a:Ab}{l:List Nm}(h:Names a l):l.Nodup:=h.1.imp fun {x y} HT=>by rintro rfl;rw[lf]at HT;cases HT
theorem NJ {b:Bk}{a:Ab}{F:Nat→Prop}{m:Nat}{H:af}(h:lO H b a F m)(hn:m≤8000000):W env (.call 18 [.ptr b.s 0]) H (fun o H'=>Ext H H'∧∃k l,gy k l∧Names a l∧l.length≤m∧o=.val (.sl k (l.map (Yh a)))):=by
 obtain⟨s,sh,hi,rfl,h4,h5⟩:=h
 refine W.use (QJ b s F H sh hi (by omega)) fun o H' ⟨hx,k,l,jO,hu,hp,LK⟩=>⟨hx,k,l,jO,⟨LK,fun m=>?_⟩,?_,?_⟩
 ·rw[hp.mem_iff,mem_keys];simp[Ab.has,eV]
 ·rw[hp.length_eq];simpa using h5
 ·rw[hu]
  congr 2
  rw[qC,List.map_map]
  refine List.map_congr_left fun m _=>?_
  have e:=Wh (aj s.vs m)
  simp -implicitDefEqProofs only[Function.comp,eK,Yh,eV,←e,Hd.vd]
def eW (x:Nm):List T:=[.str x.1,.int .u64 x.2]
def dp (a:Ab)(l:List ByteArray):Prop:=l.Pairwise (fun x y=>strLt x y=true)∧∀k,k∈l↔(a.l k).isSome=true
def ik (a:Ab)(k:ByteArray):Nm:=(k,a.last k)
theorem sQ:∀(l l':List ByteArray),l.Pairwise (fun a b=>strLt a b=true)→l'.Pairwise (fun a b=>strLt a b=true)→(∀x,x∈l↔x∈l')→l=l'
 | [],[],_,_,_=>rfl
 | [],b :: l',_,_,h=>by have:=(h b).2 (by simp);cases this
 | a :: l,[],_,_,h=>by have:=(h a).1 (by simp);cases this
 | a :: l,b :: l',h1,h2,h=>by
  rw[List.pairwise_cons]at h1 h2
  have fG:a=b:=by
   rcases List.mem_cons.1 ((h a).1 (by simp))with e|ha
   ·exact e
   ·rcases List.mem_cons.1 ((h b).2 (by simp))with e|hb
    ·exact e.symm
    ·have x1:=h1.1 b hb
     have x2:=h2.1 a ha
     rw[lt_asymm x1]at x2;cases x2
  subst fG
  congr 1
  refine sQ l l' h1.2 h2.2 fun x=>⟨fun hx=>?_,fun hx=>?_⟩
  ·rcases List.mem_cons.1 ((h x).1 (by simp[hx]))with e|jU
   ·subst e;have:=h1.1 x hx;rw[dY]at this;cases this
   ·exact jU
  ·rcases List.mem_cons.1 ((h x).2 (by simp[hx]))with e|jU
   ·subst e;have:=h2.1 x hx;rw[dY]at this;cases this
   ·exact jU
theorem dp.uniq {a:Ab}{l l':List ByteArray}(h:dp a l)(h':dp a l'):l=l':=sQ l l' h.1 h'.1 fun m=>by rw[h.2,h'.2]
theorem rp {a:Ab}{n:Nat}{l:List (ByteArray×ByteArray)}{ks:List ByteArray}{now:Int}{m:Nm}:(a.put n l ks now).has m=(a.has m||(decide (m.2=n)&&(aj l m.1).isSome)):=by
 simp -implicitDefEqProofs only[Ab.has,Ab.put]
 cases h:a.v m with
 | some x=>simp
 | none =>
  by_cases e:m.2=n
  ·simp[e]
  ·simp[e]
theorem BG {a:Ab}{n:Nat}{now:Int}{m:Nm}:(a.mB n now).has m=a.has m:=by
 simp -implicitDefEqProofs only[Ab.has,Ab.mB,Option.isSome_map]
theorem Db {α β:Type}[DecidableEq α]{es:List (α×β)}{k:α}(h:(aj es k).isSome=true):k∈es.map (·.1):=by rw[mem_keys];exact h
theorem ql.trans {F F' F2:Nat→Prop}{H H' H2:af}(h:ql F F' H H')(h':ql F' F2 H' H2)(l1:H.length≤H'.length)(l2:H'.length≤H2.length):ql F F2 H H2:=fun c hc=>by
 rcases h' c hc with hc|hc
 ·rcases h c hc with hc|hc
  ·exact .inl hc
  ·exact .inr ⟨hc.1,by omega⟩
 ·exact .inr ⟨by omega,hc.2⟩
structure nC (H0 H:af)(b:Bk)(a:Ab)(F:Nat→Prop)(m:Nat):Prop where
 at_:lO H b a F m
 jL:a9 (fun _=>False) H0 H
 new:∀c,F c→H0.length≤c∧c<H.length
theorem nC.ext {H0 H H':af}{b:Bk}{a:Ab}{F:Nat→Prop}{m:Nat}(h:nC H0 H b a F m)(hx:Ext H H'):nC H0 H' b a F m:=⟨h.at_.ext hx,h.jL.ext hx,fun c hc=>by have:=h.new c hc;have:=hx.len;omega⟩
theorem nC.go {H0 H H':af}{b:Bk}{a a':Ab}{F F':Nat→Prop}{m m':Nat}(h:nC H0 H b a F m)(ha:lO H' b a' F' m')(hf:a9 F H H')(hg:ql F F' H H'):nC H0 H' b a' F' m':=⟨ha,h.jL.more hf fun c hc=>(h.new c hc).1,fun c hc=>by
 have l1:=h.jL.1
 have l2:=hf.1
 rcases hg c hc with h'|h'
 ·have:=h.new c h';omega
 ·omega⟩
theorem nC.go' {H0 H H':af}{b:Bk}{a a':Ab}{F:Nat→Prop}{m m':Nat}(h:nC H0 H b a F m)(ha:lO H' b a' F m')(hf:a9 F H H'):nC H0 H' b a' F m':=h.go ha hf fun _ h=>.inl h
theorem lO.keys {H:af}{b:Bk}{a:Ab}{F:Nat→Prop}{n:Nat}(h:lO H b a F n):∀m,(je (a.v m)).keys.length≤1024:=fun m=>by
 obtain⟨s,_,hi,rfl,_⟩:=h
 simp -implicitDefEqProofs only[eV]
 cases e:aj s.vs m with
 | none=>simp[je]
 | some x=>exact(hi.Vl m x e).2
theorem lO.names {H:af}{b:Bk}{a:Ab}{F:Nat→Prop}{n:Nat}(h:lO H b a F n):∃l,Names a l∧l.length≤n:=by
 obtain⟨s,_,hi,rfl,_,hv⟩:=h
 obtain⟨hp,LK⟩:=o3 (d:=(s.vs.map (·.1)).toArray) (by simpa using hi.nd)
 refine⟨_,⟨LK,fun m=>?_⟩,?_⟩
 ·rw[hp.mem_iff]
  show m∈(s.vs.map (·.1)).toArray.toList↔_
  rw[List.toList_toArray,mem_keys];simp[Ab.has,eV]
 ·rw[hp.length_eq];simpa using hv
theorem Wi {b:Bk}{a:Ab}{F:Nat→Prop}{m:Nat}(n:Nat)(k k':SK)(l:List (ByteArray×ByteArray))(ks:List ByteArray)(now:Int){H:af}(h:lO H b a F m)(hl:l.length≤8000000)(En:ks.length≤8000000)(hm:¬(ja n l ks∧ba now)) :
  W env (.call 23 [.ptr b.s 0,.int .u64 n,.sl k (l.map eP),.sl k' (ks.map eS),.int .i64 now]) H (fun o H'=>o=.val (.bJ [.bool false,.int .i64 1])∧Ext H H'):=by
 refine W.bu rfl rfl rfl ?_
 simp -implicitDefEqProofs only[K7,op,ef,cl,sq,reduceIte,j1,j2,j3,j4,j5,j6,j7,j8,j9,S1]
 refine ae _ _ _ _ _ _ _ _ (Ny n k k' l ks _ (by omega) (by omega)) ?_
 rintro u H1⟨dr,bb,hu,hb⟩
 cases hu
 cases bb
 ·simp -implicitDefEqProofs only[op,ef,cl,sq,reduceIte,j1,j2,j3,j4,j5,j6,j7,j8,j9,S1];exact dr
 ·simp -implicitDefEqProofs only[op,ef,cl,sq,reduceIte,j1,j2,j3,j4,j5,j6,j7,j8,j9,S1]
  refine ae _ _ _ _ _ _ _ _ (sG now _) ?_
  rintro u H2⟨hu,rfl⟩
  cases hu
  have hf:(decide (0≤now)&&decide (now≤1099511627776))=false:=by
   rw[Bool.and_eq_false_iff,decide_eq_false_iff_not,decide_eq_false_iff_not]
   have:¬ba now:=fun h=>hm ⟨hb.1 rfl,h⟩
   unfold ba at this;omega
  simp -implicitDefEqProofs only[op,ef,cl,sq,reduceIte,j1,j2,j3,j4,j5,j6,j7,j8,j9,S1,hf]
  exact dr
def ki (D:List Nm)(m:Nm):Bool:=D.any fun x=>decide (x=m)
theorem gT {D:List Nm}{m:Nm}:ki D m=true↔m∈D:=by simp[ki]
theorem LP {D:List Nm}{m:Nm}(h:m∉D):ki D m=false:=by
 cases e:ki D m with
 | false=>rfl
 | true=>exact absurd (gT.1 e) h
def HU (a:Ab):Prop:=∀m h,a.v m=some h→(h.aZ=-1↔¬m.2<a.last m.1)
theorem HU.emp:HU Ab.emp:=fun m h e=>by cases e
theorem HU.put {a:Ab}(h:HU a){n:Nat}{l:List (ByteArray×ByteArray)}{ks:List ByteArray}{now:Int}(ht:0≤now):HU (a.put n l ks now):=fun m x e=>by
 have hl:(a.put n l ks now).last m.1=a.last m.1:=rfl
 rw[hl]
 simp -implicitDefEqProofs only[Ab.put]at e
 cases h1:a.v m with
 | some y=>rw[h1]at e;cases e;exact h m _ h1
 | none =>
  rw[h1]at e
  simp only at e
  split at e
  ·rename_i en
   cases h2:aj l m.1 with
   | none=>rw[h2]at e;cases e
   | some v =>
    rw[h2]at e;cases e
    simp only
    split
    ·rename_i al;rw[en];constructor
     ·intro;omega
     ·intro hh;exact absurd al hh
    ·rename_i al;rw[en];simp[al]
  ·cases e
theorem HU.mB {a:Ab}(h:HU a){n:Nat}{now:Int}(ht:0≤now):HU (a.mB n now):=fun m x e=>by
 have hl:(a.mB n now).last m.1=if a.has (m.1,n)=true∧a.last m.1<n then n else a.last m.1:=by
  show(if _ then some n else a.l m.1).getD 0=_
  by_cases hc:a.has (m.1,n)=true∧a.last m.1<n
  ·rw[if_pos hc,if_pos hc];rfl
  ·rw[if_neg hc,if_neg hc];rfl
 rw[hl]
 simp -implicitDefEqProofs only[Ab.mB]at e
 cases h1:a.v m with
 | none=>rw[h1]at e;cases e
 | some y =>
  have hy:=h m y h1
  rw[h1]at e;simp -implicitDefEqProofs only[Option.map_some,Option.some.injEq]at e;subst e
  by_cases hc:a.has (m.1,n)=true∧a.last m.1<n
  ·rw[if_pos hc]
   by_cases hs:y.aZ=-1
   ·by_cases hm:m.2<n
    ·rw[if_pos ⟨hs,hc.1,hc.2,hm⟩];simp only;constructor
     ·intro;omega
     ·intro hh;exact absurd hm hh
    ·rw[if_neg fun hh=>hm hh.2.2.2];exact⟨fun _=>hm,fun _=>hs⟩
   ·rw[if_neg fun hh=>hs hh.1]
    have:m.2<a.last m.1:=Decidable.of_not_not fun hh=>hs (hy.2 hh)
    constructor
    ·intro hh;exact absurd hh hs
    ·intro hh;omega
  ·rw[if_neg hc,if_neg fun hh=>hc ⟨hh.2.1,hh.2.2.1⟩];exact hy
theorem Wj (a:Ab)(n:Nat)(ks:List ByteArray)(now:Int):a.put n [] ks now=a:=eg (fun m=>by
 simp -implicitDefEqProofs only[Ab.put,cN,Option.map_none]
 cases a.v m<;>simp) fun _=>rfl
theorem Dc {α β:Type}[DecidableEq α](es:List (α×β))(k k':α)(v:β):aj (es++[(k,v)]) k'=(aj es k').or (if k'=k then some v else none):=by
 induction es with
 | nil=>simp[bj,cN]
 | cons e es ih =>
  rw[List.cons_append,bj,bj,ih]
  split<;>simp
theorem BH (a:Ab)(n:Nat)(l:List (ByteArray×ByteArray))(ks:List ByteArray)(now:Int)(m:Nm):(a.put n l ks now).v m=(a.v m).or (if m.2=n then(aj l m.1).map fun v=>⟨v,ks,if n<a.last m.1 then now else -1⟩else none):=by
 simp -implicitDefEqProofs only[Ab.put]
 cases a.v m<;>rfl
theorem HV (a:Ab)(n:Nat)(now:Int)(k:ByteArray):(a.mB n now).last k=if a.has (k,n)=true∧a.last k<n then n else a.last k:=by
 show(if _ then some n else a.l k).getD 0=_
 by_cases hc:a.has (k,n)=true∧a.last k<n
 ·rw[if_pos hc,if_pos hc];rfl
 ·rw[if_neg hc,if_neg hc];rfl
structure Kd where
 key:ByteArray
 id:Nat
 value:ByteArray
 kk:SK
 keys:List ByteArray
 aZ:Int
def Kd.nm (x:Kd):Nm:=(x.key,x.id)
def Kd.vd (x:Kd):Vd:=⟨x.value,x.keys,x.aZ⟩
def dP (x:Kd):List T:=[.str x.key,.int .u64 x.id,.str x.value,.sl x.kk (x.keys.map eS),.int .i64 x.aZ]
def Wk (x:Kd):Prop:=gy x.kk x.keys∧x.keys.length≤8000000
def qN (a:Ab)(x:Kd):Prop:=65536≤x.id∧gP x.keys∧x.key∈x.keys∧x.value.size≤65535∧if x.id<a.last x.key then ba x.aZ else x.aZ=-1
set_option maxHeartbeats 8000000 in
theorem BI {b:Bk}{a:Ab}{F:Nat→Prop}{m:Nat}(x:Kd)(hx:Wk x){H:af}(h:lO H b a F m):W env (.call 91 [.ptr b.s 0,.agg (dP x)]) H (fun o H'=>Ext H H'∧∃t,o=.val (.bool t)∧(t=true↔qN a x)):=by
 obtain⟨s,⟨im,pm,sa⟩,hi,rfl,h4,h5⟩:=h
 have l0:=aM sa.hs
 have ll:=aM sa.hl
 have NC:b.s<H.length+1:=by omega
 have X4:b.s<H.length+2:=by omega
 have X5:b.l<H.length+1:=by omega
 have X6:b.l<H.length+2:=by omega
 have tn:=oX s x.key
 have eQ:(eV s).last x.key=bT s x.key:=rfl
 have Bx:Ext H (H++[B.cells (dP x)]++[B.cells [.str x.key,.int .u64 x.id,.str x.value,.sl x.kk (x.keys.map eS)]]):=(Ext.rfl'.app _).app _
 have no:¬qN (eV s) x→((false:Bool)=true↔qN (eV s) x):=fun h=>⟨fun e=>(by cases e),fun e=>absurd e h⟩
 have c0:(H++[B.cells (dP x)]++[B.cells [.str x.key,.int .u64 x.id,.str x.value,.sl x.kk (x.keys.map eS)]])[H.length]?=some (.cells (dP x)):=by rw[aP (by simp),aK rfl]
 simp -implicitDefEqProofs only[dP]at Bx c0
 refine W.bu rfl rfl rfl ?_
 by_cases Qn:x.id<65536
 ·simp -implicitDefEqProofs only[Lg,dP,op,ef,cl,sq,reduceIte,j1,j2,j3,j4,j5,j6,j7,j8,j9,S1,S2,Qn]
  exact⟨Bx,false,rfl,no fun h=>by have:=h.1;omega⟩
 simp -implicitDefEqProofs only[Lg,dP,op,ef,cl,sq,reduceIte,j1,j2,j3,j4,j5,j6,j7,j8,j9,S1,S2,Qn]
 refine ae _ _ _ _ _ _ _ _ (yo x.kk x.keys _ (by have:=hx.2;omega)) ?_
 rintro u H1⟨hu,rfl⟩
 cases hu
 cases hg:hZ x.keys
 ·simp -implicitDefEqProofs only[op,ef,cl,sq,reduceIte,j1,j2,j3,j4,j5,j6,j7,j8,j9,S1,S2]
  exact⟨Bx,false,rfl,no fun h=>by have:=db.2 h.2.1;rw[hg]at this;cases this⟩
 have Bw:=db.1 hg
 simp -implicitDefEqProofs only[op,ef,cl,sq,reduceIte,j1,j2,j3,j4,j5,j6,j7,j8,j9,S1,S2]
 refine ae _ _ _ _ _ _ _ _ (Hl x.kk x.keys x.key _ (by have:=hx.2;omega) Bw.fC) ?_
 rintro u H1⟨hu,rfl⟩
 cases hu
 cases hm:lE x.keys x.key
 ·simp -implicitDefEqProofs only[op,ef,cl,sq,reduceIte,j1,j2,j3,j4,j5,j6,j7,j8,j9,S1,S2]
  exact⟨Bx,false,rfl,no fun h=>mP.1 hm h.2.2.1⟩
 by_cases a7:65535<x.value.size
 ·simp -implicitDefEqProofs only[op,ef,cl,sq,reduceIte,j1,j2,j3,j4,j5,j6,j7,j8,j9,S1,S2,a7]
  exact⟨Bx,false,rfl,no fun h=>by have:=h.2.2.2.1;omega⟩
 have ok:∀t:Bool,(t=true↔if x.id<bT s x.key then ba x.aZ else x.aZ=-1)→(t=true↔qN (eV s) x):=fun t ht=>by
  rw[ht]
  exact⟨fun h=>⟨by omega,Bw,kd.1 hm,by omega,h⟩,fun h=>h.2.2.2.2⟩
 by_cases al:x.id<bT s x.key
 ·simp -implicitDefEqProofs only[op,ef,cl,sq,reduceIte,j1,j2,j3,j4,j5,j6,j7,j8,j9,S1,S2,a7,sa.hs,sa.hl,l0,NC,X4,ll,X5,X6,fQ,tn,al,c0]
  refine ae _ _ _ _ _ _ _ _ (sG x.aZ _) ?_
  rintro u H1⟨hu,rfl⟩
  cases hu
  simp -implicitDefEqProofs only[op,ef,cl,sq,reduceIte,j1,j2,j3,j4,j5,j6,j7,j8,j9,S1]
  exact⟨Bx,_,rfl,ok _ (by rw[if_pos al];simp[ba])⟩
 ·simp -implicitDefEqProofs only[op,ef,cl,sq,reduceIte,j1,j2,j3,j4,j5,j6,j7,j8,j9,S1,S2,a7,sa.hs,sa.hl,l0,NC,X4,ll,X5,X6,fQ,tn,al,c0]
  exact⟨Bx,_,rfl,ok _ (by rw[if_neg al];simp)⟩
theorem u9 {α:Type}{R:α→α→Prop}(tr:∀a b c,R a b→R b c→R a c){l:List α}{i:Nat}{x:α}(hx:l[i]?=some x):(l.take (i+1)).Pairwise R↔(l.take i).Pairwise R∧(0<i→∀y,l[i-1]?=some y→R y x):=by
 rw[bN hx,List.pairwise_append]
 constructor
 ·rintro⟨h1,_,h3⟩
  exact⟨h1,fun h0 y hy=>h3 y (List.mem_of_getElem? (i:=i-1) (by rw[List.getElem?_take,if_pos (by omega)];exact hy)) x (by simp)⟩
 ·rintro⟨h1,h2⟩
  refine⟨h1,by simp,fun a ha c hc=>?_⟩
  simp -implicitDefEqProofs only[List.mem_singleton]at hc;subst hc
  have hi:=(List.getElem?_eq_some_iff.1 hx).1
  by_cases h0:0<i
  ·obtain⟨y,hy⟩:=bK (l:=l) (i:=i-1) (by omega)
   have e:l.take i=l.take (i-1)++[y]:=by rw[←bN hy,Nat.sub_add_cancel h0]
   rw[e]at h1 ha
   rw[List.pairwise_append]at h1
   rcases List.mem_append.1 ha with ha|ha
   ·exact tr _ _ _ (h1.2.2 a ha y (by simp)) (h2 h0 y hy)
   ·simp -implicitDefEqProofs only[List.mem_singleton]at ha;subst ha;exact h2 h0 a hy
  ·have:i=0:=by omega
   subst this;simp at ha
def dk (ls:List Nm):Prop:=ls.Pairwise (fun a b=>strLt a.1 b.1=true)
def b8 (l:List Kd):Prop:=l.Pairwise (fun x y=>aY x.nm y.nm=true)
def nX (l:List Kd):List (Nm×Vd):=l.map fun x=>(x.nm,x.vd)
def bm (kept:List Kd)(bD:List Nm):Ab:=⟨fun m=>aj (nX kept) m,fun k=>aj bD k⟩
def nY (kept:List Kd)(bD:List Nm):Prop:=dk bD∧b8 kept∧(∀x∈kept,qN (bm [] bD) x)∧∀e∈bD,∃x∈kept,x.nm=e
theorem dk.nd {ls:List Nm}(h:dk ls):(ls.map (·.1)).Nodup:=List.pairwise_map.2 (h.imp fun {a b} fG e=>by rw[e,dY]at fG;cases fG)
theorem gD (l:List Kd):(nX l).map (·.1)=l.map Kd.nm:=by simp[nX,Function.comp_def]
theorem b8.nd {l:List Kd}(h:b8 l):(l.map Kd.nm).Nodup:=List.pairwise_map.2 (h.imp fun {a b} fG e=>by rw[e,lf]at fG;cases fG)
theorem o6 {α β:Type}[DecidableEq α]{es:List (α×β)}{k:α}{v:β}(h:aj es k=some v):(k,v)∈es:=by
 induction es with
 | nil=>cases h
 | cons e es ih =>
  rw[bj]at h
  split at h
  ·rename_i e2;cases h;rw[e2];exact List.mem_cons_self
  ·exact List.mem_cons_of_mem _ (ih h)
theorem HW {a a':Ab}(h:a.l=a'.l)(x:Kd):qN a x↔qN a' x:=by
 have:a.last=a'.last:=by funext k;simp[Ab.last,h]
 unfold qN;rw[this]
theorem sR {α β:Type}[DecidableEq α](es:List (α×β))(e:α×β)(k':α):aj (es++[e]) k'=(aj es k').or (if k'=e.1 then some e.2 else none):=Dc es e.1 k' e.2
theorem lO.Wl {H:af}{b:Bk}{a:Ab}{F:Nat→Prop}{m:Nat}(h:lO H b a F m)(k:ByteArray)(n:Nat):∃im,H[b.s]?=some (.cells [.map b.v,.map b.i,.map b.p,.map b.l])∧H[b.l]?=some (.map (bh T.str im))∧F b.l ∧
  lO (H.set b.l (.map (bh T.str (cy im k (.int .u64 n))))) b ⟨a.v,fun k'=>if k'=k then some n else a.l k'⟩ F m:=by
 obtain⟨s,⟨im,pm,sa⟩,hi,rfl,h4,h5⟩:=h
 refine⟨lF s.ls,sa.hs,sa.hl,sa.F0.2.2.2.2,{ s with ls:=cy s.ls k n },⟨im,pm,?_⟩,?_,?_,h4,h5⟩
 ·have e:cy (lF s.ls) k (T.int .u64 n)=lF (cy s.ls k n):=oV (fun n:Nat=>T.int .u64 n) s.ls k n
  rw[e];exact sa.Vr _
 ·exact VS.inv (v':=s.vs) (now:=0) hi (VS.nil hi.nd) _ (dn hi.zN _ _)
 ·refine eg (fun m=>rfl) fun k'=>?_
  simp -implicitDefEqProofs only[eV,br]
theorem Wm {b:Bk}{a:Ab}{F:Nat→Prop}{m:Nat}(x:Kd)(kk:SK){H:af}(h:lO H b a F m)(hn:m+1≤8000000)(hk:gy kk x.keys)(hl:x.keys.length≤1024)(ey:a.v x.nm=none) :
  W env (.call 68 [.ptr b.s 0,.agg [.str x.key,.int .u64 x.id],.agg [.str x.value,.sl kk (x.keys.map eS),.int .i64 x.aZ]]) H (fun o H'=>o=.val (.bJ [])∧∃F',lO H' b ⟨fun m'=>if m'=x.nm then some x.vd else a.v m',a.l⟩ F' (m+1)∧a9 F H H'∧ql F F' H H'):=by
 obtain⟨s,sh,hi,rfl,h4,h5⟩:=h
 have acS:aj s.vs (x.key,x.id)=none:=by simpa[eV,Kd.nm]using ey
 refine W.use (NA b s F x.key x.id ⟨x.value,kk,x.keys,x.aZ⟩ H sh hi acS (by omega) ⟨hk,hl⟩) fun o H' ⟨hu,s',F',QT,kD,jk,Jt,y0,ar,hg⟩=>⟨hu,F',⟨s',QT,kD,?_,by omega,?_⟩,ar,hg⟩
 ·refine eg (fun m'=>?_) fun k=>by simp -implicitDefEqProofs only[eV,Jt]
  have e0:(x.key,x.id)=x.nm:=rfl
  simp -implicitDefEqProofs only[eV,jk,br,e0]
  by_cases e:m'=x.nm
  ·rw[if_pos e,if_pos e];rfl
  ·rw[if_neg e,if_neg e]
 ·rw[jk]
  have:∀(es:List (Nm×Hd)) k v,(cy es k v).length≤es.length+1:=fun es k v=>by unfold cy;split<;>simp
  have:=this s.vs (x.key,x.id) ⟨x.value,kk,x.keys,x.aZ⟩
  omega
def Wn (kept:List Kd)(bD:List Nm)(H:af):Out→af→Prop:=fun o H' =>
 (nY kept bD∧∃b F,o=.val (.bJ [.ptr b.s 0,.int .i64 0])∧nC H H' b (bm kept bD) F kept.length)∨(¬nY kept bD∧o=.val (.bJ [.bZ,.int .i64 1])∧Ext H H')
set_option maxHeartbeats 2000000 in
theorem QV (k1 k2:SK)(kept:List Kd)(bD:List Nm)(TA:kept.length≤8000000)(tn:bD.length≤8000000)(jO:∀x∈kept,Wk x)(H:af):W env (.call 58 [.sl k1 (kept.map dP),.sl k2 (bD.map eW)]) H (Wn kept bD H):=by
 refine W.bu rfl rfl rfl ?_
 simp -implicitDefEqProofs only[PM,op,ef,cl,sq,reduceIte,j1,j2,j3,j4,j5,j6,j7,j8,j9,S1]
 refine ae _ _ _ _ _ _ _ _ (Wd _) ?_
 rintro u H1⟨dr,b,F,hu,v1,nF⟩
 cases hu
 have p1:nC H H1 b Ab.emp F 0:=⟨v1,ax dr,nF⟩
 simp -implicitDefEqProofs only[op,ef,cl,sq,reduceIte,j1,j2,j3,j4,j5,j6,j7,j8,j9,S1,List.length_map]
 refine W.eA 0 [(0,_),(1,_),(6,_),(17,_),(18,_)] (fun (i:Nat) R H'=>At H' (fun H'=>nC H H' b (bm [] (bD.take i)) F 0∧dk (bD.take i))∧R 19=.int .i64 i∧i≤bD.length) (fun i=>bD.length-i) 0
  (fun R H'=>At H' (fun H'=>nC H H' b (bm [] bD) F 0∧dk bD)) ⟨.i ⟨by rw[List.take_zero];exact p1,by rw[List.take_zero];exact List.Pairwise.nil⟩,rfl,Nat.zero_le _⟩ ?_ ?_
 ·rintro i R H2⟨⟨p2,BC⟩,Yi,hi⟩
  by_cases al:i<bD.length
  ·obtain⟨e,he⟩:=bK al
   have ie:=fj (e:=eW) (n:=2) (fun _=>rfl) (by decide) (k:=k2) he
   have fU:=av (show i<9223372036854775807 by omega)
   have cO:=u9 (R:=fun a b:Nm=>strLt a.1 b.1=true) (fun a b c h1 h2=>dS h1 h2) he
   have Wo:Ext H2 (H2++[.cells [.str e.1,.int .u64 e.2]]):=⟨_,rfl⟩
   have qm:¬dk (bD.take (i+1))→¬nY kept bD:=fun h hl=>h (hl.1.sublist (List.take_sublist _ _))
   have go:(0<i→∀y,bD[i-1]?=some y→strLt y.1 e.1=true)→dk (bD.take (i+1)):=fun h=>cO.2 ⟨BC,h⟩
   obtain⟨im,hs,hl,hF,MN⟩:=(p2.at_.ext Wo).Wl e.1 e.2
   have hk:(0<i→∀y,bD[i-1]?=some y→strLt y.1 e.1=true)→lO ((H2++[B.cells [.str e.1,.int .u64 e.2]]).set b.l (.map (bh T.str (cy im e.1 (.int .u64 e.2))))) b (bm [] (bD.take (i+1))) F 0:=fun h=>by
    have e1:bm [] (bD.take (i+1))=⟨(bm [] (bD.take i)).v,fun k'=>if k'=e.1 then some e.2 else(bm [] (bD.take i)).l k'⟩:=by
     refine eg (fun m=>rfl) fun k'=>?_
     have fh:=(go h).nd
     rw[bN he,List.map_append,List.nodup_append]at fh
     have ey:aj (bD.take i) e.1=none:=bS.2 fun hh=>fh.2.2 _ hh e.1 (by simp) rfl
     simp -implicitDefEqProofs only[bm,bN he,sR]
     by_cases e2:k'=e.1
     ·subst e2;simp[ey]
     ·simp -implicitDefEqProofs only[e2,if_false];cases aj (bD.take i) k'<;>rfl
    rw[e1];exact MN
   have jl:∀h,nC H ((H2++[B.cells [.str e.1,.int .u64 e.2]]).set b.l (.map (bh T.str (cy im e.1 (.int .u64 e.2))))) b (bm [] (bD.take (i+1))) F 0:=fun h=>(p2.ext Wo).go' (hk h) ((a9.refl F _).set (.inl hF) _)
   have lb:=aM hs
   have lbl:=aM hl
   simp -implicitDefEqProofs only[List.length_append,List.length_cons,List.length_nil]at lb lbl
   by_cases mw:0<i
   ·obtain⟨y,hy⟩:=bK (l:=bD) (i:=i-1) (by omega)
    have wp:=iH (show i<9223372036854775807 by omega) mw
    have iy:=fj (e:=eW) (n:=2) (fun _=>rfl) (by decide) (k:=k2) hy
    cases hc:strLt y.1 e.1
    ·simp -implicitDefEqProofs only[ai,ah,op,ef,cl,sq,reduceIte,j1,j2,j3,j4,j5,j6,j7,j8,j9,S1,S2,Yi,al,aa,ie,iy,eW,mw,wp,hc]
     exact .inr ⟨qm fun h=>(by have:=(cO.1 h).2 mw y hy;rw[hc]at this;cases this),rfl,fS (p2.ext Wo).jL⟩
    ·have bB:0<i→∀y,bD[i-1]?=some y→strLt y.1 e.1=true:=fun _ y' CW=>by rw[hy]at CW;cases CW;exact hc
     simp -implicitDefEqProofs only[ai,ah,op,ef,cl,sq,reduceIte,j1,j2,j3,j4,j5,j6,j7,j8,j9,S1,S2,Yi,al,aa,ie,iy,eW,mw,wp,hc,hs,hl,lb,lbl,nT,fU]
     exact⟨i+1,by omega,.i ⟨jl bB,go bB⟩,rfl,by omega⟩
   ·have bB:0<i→∀y,bD[i-1]?=some y→strLt y.1 e.1=true:=fun h=>absurd h mw
    simp -implicitDefEqProofs only[ai,ah,op,ef,cl,sq,reduceIte,j1,j2,j3,j4,j5,j6,j7,j8,j9,S1,S2,Yi,al,aa,ie,eW,mw,hs,hl,lb,lbl,nT,fU]
    exact⟨i+1,by omega,.i ⟨jl bB,go bB⟩,rfl,by omega⟩
  ·have gJ:i=bD.length:=by omega
   subst gJ
   rw[List.take_length]at p2 BC
   simp -implicitDefEqProofs only[ai,ah,op,ef,cl,sq,reduceIte,j1,j2,j3,j4,j5,j6,j7,j8,j9,S1,Yi,al]
   exact .i ⟨p2,BC⟩
 rintro R H2⟨p2,Wp⟩
 simp -implicitDefEqProofs only[ai,ah,op,ef,cl,sq,reduceIte,j1,j2,j3,j4,j5,j6,j7,j8,j9,S1,List.length_map]
 refine W.eA 2 [(0,_),(6,_),(46,_),(47,_)] (fun (j:Nat) R H'=>At H' (fun H'=>∃F',nC H H' b (bm (kept.take j) bD) F' j∧b8 (kept.take j)∧∀x∈kept.take j,qN (bm [] bD) x)∧R 48=.int .i64 j∧j≤kept.length) (fun j=>kept.length-j) 0
  (fun R H'=>At H' (fun H'=>∃F',nC H H' b (bm kept bD) F' kept.length∧b8 kept∧∀x∈kept,qN (bm [] bD) x)) ⟨.i ⟨F,p2,by rw[List.take_zero];exact List.Pairwise.nil,by simp⟩,rfl,Nat.zero_le _⟩ ?_ ?_
 ·rintro j R H3⟨⟨F',p3,BC,LQ⟩,LR,hj⟩
  by_cases al:j<kept.length
  ·obtain⟨x,hx⟩:=bK al
   have ix:=fj (e:=dP) (n:=5) (fun _=>rfl) (by decide) (k:=k1) hx
   have NK:=av (show j<9223372036854775807 by omega)
   have cO:=u9 (R:=fun x y:Kd=>aY x.nm y.nm=true) (fun a b c h1 h2=>iJ h1 h2) hx
   have LS:=jO x (List.mem_of_getElem? hx)
   have qm:¬(b8 (kept.take (j+1))∧qN (bm [] bD) x)→¬nY kept bD:=fun h hl=>h ⟨hl.2.1.sublist (List.take_sublist _ _),hl.2.2.1 x (List.mem_of_getElem? hx)⟩
   have Wo:Ext H3 (H3++[.cells [.str x.key,.int .u64 x.id,.str x.value,.sl x.kk (x.keys.map eS),.int .i64 x.aZ]]++[.cells [.str x.key,.int .u64 x.id]]):=(Ext.rfl'.app _).app _
   have c0:(H3++[B.cells [.str x.key,.int .u64 x.id,.str x.value,.sl x.kk (x.keys.map eS),.int .i64 x.aZ]]++[B.cells [.str x.key,.int .u64 x.id]])[H3.length]?=some (.cells [.str x.key,.int .u64 x.id,.str x.value,.sl x.kk (x.keys.map eS),.int .i64 x.aZ]):=by rw[aP (by simp),aK rfl]
   have c1:(H3++[B.cells [.str x.key,.int .u64 x.id,.str x.value,.sl x.kk (x.keys.map eS),.int .i64 x.aZ]]++[B.cells [.str x.key,.int .u64 x.id]])[H3.length+1]?=some (.cells [.str x.key,.int .u64 x.id]):=aK (by simp)
   have p4:=p3.ext Wo
   have aeH:(H3++[B.cells [.str x.key,.int .u64 x.id,.str x.value,.sl x.kk (x.keys.map eS),.int .i64 x.aZ]]++[B.cells [.str x.key,.int .u64 x.id]]).length=H3.length+2:=by simp
   simp -implicitDefEqProofs only[ai,ah,op,ef,cl,sq,reduceIte,j1,j2,j3,j4,j5,j6,j7,j8,j9,S1,S2,S3,LR,al,aa,ix,dP]
   generalize H3++[B.cells [.str x.key,.int .u64 x.id,.str x.value,.sl x.kk (x.keys.map eS),.int .i64 x.aZ]]++[B.cells [.str x.key,.int .u64 x.id]]=H4 at *
   have fin:∀H5,Ext H4 H5→b8 (kept.take (j+1))→(bm (kept.take j) bD).v x.nm=none∧bm (kept.take (j+1)) bD=⟨fun m'=>if m'=x.nm then some x.vd else(bm (kept.take j) bD).v m',(bm (kept.take j) bD).l⟩:=fun H5 _ hu=>by
    have fh:=hu.nd
    rw[bN hx,List.map_append,List.nodup_append]at fh
    have ey:aj (nX (kept.take j)) x.nm=none:=bS.2 fun hh=>by
     rw[gD]at hh
     exact fh.2.2 _ hh x.nm (by simp) rfl
    refine⟨ey,eg (fun m=>?_) fun _=>rfl⟩
    have:nX (kept.take (j+1))=nX (kept.take j)++[(x.nm,x.vd)]:=by rw[bN hx];simp[nX]
    simp -implicitDefEqProofs only[bm,this,sR]
    by_cases e2:m=x.nm
    ·subst e2;simp[ey]
    ·simp -implicitDefEqProofs only[e2,if_false];cases aj (nX (kept.take j)) m<;>rfl
   have lld:(bm (kept.take j) bD).l=(bm [] bD).l:=rfl
   by_cases Wq:0<j
   ·obtain⟨y,hy⟩:=bK (l:=kept) (i:=j-1) (by omega)
    have wp:=iH (show j<9223372036854775807 by omega) Wq
    have iy:=fj (e:=dP) (n:=5) (fun _=>rfl) (by decide) (k:=k1) hy
    simp -implicitDefEqProofs only[ai,ah,op,ef,cl,sq,reduceIte,j1,j2,j3,j4,j5,j6,j7,j8,j9,S1,LR,aa,Wq,wp,iy,dP,c0,c1]
    refine ae _ _ _ _ _ _ _ _ (cq y.nm x.nm _) ?_
    rintro u H5⟨hu,lh⟩
    cases hu
    have lh:Ext H4 H5:=lh
    have p5:=p4.ext lh
    have Wr:=lh.get c0
    have U6:=lh.get c1
    have Se:decide (0≤dN y.nm x.nm)=!aY y.nm x.nm:=by
     unfold aY
     rw[Bool.eq_iff_iff];simp
    cases hc:aY y.nm x.nm
    ·rw[hc]at Se
     simp -implicitDefEqProofs only[ai,ah,op,ef,cl,sq,reduceIte,j1,j2,j3,j4,j5,j6,j7,j8,j9,S1,Se]
     exact .inr ⟨qm fun h=>(by have:=(cO.1 h.1).2 Wq y hy;rw[hc]at this;cases this),rfl,fS p5.jL⟩
    ·rw[hc]at Se
     have HX:b8 (kept.take (j+1)):=cO.2 ⟨BC,fun _ y' CW=>by rw[hy]at CW;cases CW;exact hc⟩
     simp -implicitDefEqProofs only[ai,ah,op,ef,cl,sq,reduceIte,j1,j2,j3,j4,j5,j6,j7,j8,j9,S1,Se,LR,Wr]
     refine ae _ _ _ _ _ _ _ _ (BI x LS p5.at_) ?_
     rintro u H6⟨ve,t,hu,ht⟩
     cases hu
     have zQ:=ht.trans (HW lld x)
     obtain⟨ey,Ed⟩:=fin _ lh HX
     cases t
     ·simp -implicitDefEqProofs only[ai,ah,op,ef,cl,sq,reduceIte,j1,j2,j3,j4,j5,j6,j7,j8,j9,S1]
      exact .inr ⟨qm fun h=>(by have:=zQ.2 h.2;cases this),rfl,fS (p5.ext ve).jL⟩
     ·have Ws:=ve.get Wr
      have Wt:=ve.get U6
      have Bw:=(zQ.1 rfl).2.1.2.2
      simp -implicitDefEqProofs only[ai,ah,op,ef,cl,sq,reduceIte,j1,j2,j3,j4,j5,j6,j7,j8,j9,S1,LR,Ws,Wt]
      refine ae _ _ _ _ _ _ _ _ (rh x.kk x.keys _ LS.1 (by omega)) ?_
      rintro u H7⟨qE,kk,bO,hu⟩
      cases hu
      have p7:=(p5.ext ve).ext qE
      have c07:=qE.get Ws
      have U7:=qE.get Wt
      simp -implicitDefEqProofs only[ai,ah,op,ef,cl,sq,reduceIte,j1,j2,j3,j4,j5,j6,j7,j8,j9,S1,c07,U7]
      refine ae _ _ _ _ _ _ _ _ (Wm x kk p7.at_ (by omega) bO Bw ey) ?_
      rintro u H8⟨hu,F8,a8,f8,g8⟩
      cases hu
      rw[←Ed]at a8
      simp -implicitDefEqProofs only[ai,ah,op,ef,cl,sq,reduceIte,j1,j2,j3,j4,j5,j6,j7,j8,j9,S1,LR,NK]
      refine⟨j+1,by omega,.i ⟨F8,p7.go a8 f8 g8,HX,fun z hz=>?_⟩,rfl,by omega⟩
      rw[bN hx]at hz
      rcases List.mem_append.1 hz with hz|hz
      ·exact LQ z hz
      ·simp -implicitDefEqProofs only[List.mem_singleton]at hz;subst hz;exact zQ.1 rfl
   ·have HX:b8 (kept.take (j+1)):=cO.2 ⟨BC,fun h=>absurd h Wq⟩
    have p5:=p4
    have Wr:=c0
    have U6:=c1
    have lh:Ext H4 H4:=Ext.rfl'
    simp -implicitDefEqProofs only[ai,ah,op,ef,cl,sq,reduceIte,j1,j2,j3,j4,j5,j6,j7,j8,j9,S1,Wq,LR,Wr]
    refine ae _ _ _ _ _ _ _ _ (BI x LS p5.at_) ?_
    rintro u H6⟨ve,t,hu,ht⟩
    cases hu
    have zQ:=ht.trans (HW lld x)
    obtain⟨ey,Ed⟩:=fin _ lh HX
    cases t
    ·simp -implicitDefEqProofs only[ai,ah,op,ef,cl,sq,reduceIte,j1,j2,j3,j4,j5,j6,j7,j8,j9,S1]
     exact .inr ⟨qm fun h=>(by have:=zQ.2 h.2;cases this),rfl,fS (p5.ext ve).jL⟩
    ·have Ws:=ve.get Wr
     have Wt:=ve.get U6
     have Bw:=(zQ.1 rfl).2.1.2.2
     simp -implicitDefEqProofs only[ai,ah,op,ef,cl,sq,reduceIte,j1,j2,j3,j4,j5,j6,j7,j8,j9,S1,LR,Ws,Wt]
     refine ae _ _ _ _ _ _ _ _ (rh x.kk x.keys _ LS.1 (by omega)) ?_
     rintro u H7⟨qE,kk,bO,hu⟩
     cases hu
     have p7:=(p5.ext ve).ext qE
     have c07:=qE.get Ws
     have U7:=qE.get Wt
     simp -implicitDefEqProofs only[ai,ah,op,ef,cl,sq,reduceIte,j1,j2,j3,j4,j5,j6,j7,j8,j9,S1,c07,U7]
     refine ae _ _ _ _ _ _ _ _ (Wm x kk p7.at_ (by omega) bO Bw ey) ?_
     rintro u H8⟨hu,F8,a8,f8,g8⟩
     cases hu
     rw[←Ed]at a8
     simp -implicitDefEqProofs only[ai,ah,op,ef,cl,sq,reduceIte,j1,j2,j3,j4,j5,j6,j7,j8,j9,S1,LR,NK]
     refine⟨j+1,by omega,.i ⟨F8,p7.go a8 f8 g8,HX,fun z hz=>?_⟩,rfl,by omega⟩
     rw[bN hx]at hz
     rcases List.mem_append.1 hz with hz|hz
     ·exact LQ z hz
     ·simp -implicitDefEqProofs only[List.mem_singleton]at hz;subst hz;exact zQ.1 rfl
  ·have Lp:j=kept.length:=by omega
   subst Lp
   rw[List.take_length]at p3 BC LQ
   simp -implicitDefEqProofs only[ai,ah,op,ef,cl,sq,reduceIte,j1,j2,j3,j4,j5,j6,j7,j8,j9,S1,LR,al]
   exact .i ⟨F',p3,BC,LQ⟩
 rintro R H3⟨F',p3,acV,LQ⟩
 obtain⟨s,⟨im,pm,sa⟩,hi,QW,hn3,hv3⟩:=p3.at_
 have Jt:∀k,aj s.ls k=aj bD k:=fun k=>by have:=congrFun (congrArg Ab.l QW) k;exact this
 have jk:∀m,(aj s.vs m).isSome=(aj (nX kept) m).isSome:=fun m=>by
  have:=congrFun (congrArg Ab.v QW) m
  have h2:(aj s.vs m).map Hd.vd=aj (nX kept) m:=this
  rw[←h2];simp
 obtain⟨es,jg⟩:∃es,es=lF s.ls:=⟨_,rfl⟩
 have EA:(bh T.str es).length=es.length:=by simp[bh]
 have fh:(es.map (·.1)).Nodup:=by rw[jg];simpa[lF,Function.comp_def]using hi.zN
 have l0:=aM sa.hs
 have ll:=aM sa.hl
 have lv:=aM sa.hv
 have hml:=sa.hl
 rw[←jg]at hml
 have acX:b.s≠b.l:=by rintro e;have:=sa.hs;rw[e,sa.hl]at this;cases this
 have XJ:b.l≠H3.length:=by omega
 simp -implicitDefEqProofs only[ai,ah,op,ef,cl,sq,reduceIte,j1,j2,j3,j4,j5,j6,j7,j8,j9,S1,sa.hs,hml]
 refine W.mr [(6,_),(106,_)] (fun (cd:List ByteArray) R H'=>At H' (fun H'=>∃ix cur,RI es ix cd∧H'[b.l]?=some (.cY (bh T.str es) ix H3.length cur)∧H'[H3.length]?=some (.vD b.l)∧a9 (fun c=>c=b.l) H3 H'∧∀e∈s.ls,e.1∈cd→(aj s.vs e).isSome=true)) (fun cd=>es.length-cd.length) [] ?_ ?_
 ·refine .i ⟨List.range (bh T.str es).length,none,by rw[EA];exact RI.start es,?_,?_,?_,by simp⟩
  ·rw[aP (by simpa using ll),bR ll]
  ·rw[aK (by simp)]
  ·exact((a9.refl (fun c=>c=b.l) H3).set (.inl rfl) _).app _
 rintro cd R H5⟨ix,cur,mS,hm,hit,ar,DU⟩
 have lm:=aM hm
 have li:=aM hit
 simp -implicitDefEqProofs only[ai,ah,op,ef,cl,sq,reduceIte,j1,j2,j3,j4,j5,j6,j7,j8,j9,S1]
 refine zI _ _ _ _ _ _ _ (by simp -implicitDefEqProofs only[ai,ah,op,ef,cl,sq,reduceIte,j1,j2,j3,j4,j5,j6,j7,j8,j9,S1]) hm ?_
 rintro t H6 (⟨rfl,rfl,rfl⟩|⟨i,e,kD,he,rfl,rfl⟩)
 ·simp -implicitDefEqProofs only[ai,ah,op,ef,cl,sq,reduceIte,j1,j2,j3,j4,j5,j6,j7,j8,j9,S1]
  have bB:∀e∈s.ls,(aj s.vs e).isSome=true:=fun e he=>DU e he ((mS.CX e.1).2 (by rw[jg];exact List.mem_map.2 ⟨(e.1,T.int .u64 e.2),List.mem_map.2 ⟨e,he,rfl⟩,rfl⟩))
  have hF:a9 (fun _=>False) H3 (H5.set b.l (.map (bh T.str es))):=by
   refine⟨by rw[List.length_set];exact ar.1,fun c hc _=>?_⟩
   by_cases e:c=b.l
   ·subst e;rw[bR lm,hml]
   ·rw[bl (Ne.symm e),ar.2 c hc e]
  refine .inl ⟨⟨Wp,acV,LQ,fun e he=>?_⟩,b,F',rfl,p3.go' ⟨s,⟨im,pm,sa.jL hF fun _ _ _ h=>h⟩,hi,QW,hn3,hv3⟩ (hF.mono fun _ h=>h.elim)⟩
  have h1:aj bD e.1=some e.2:=dz Wp.nd he
  rw[←Jt]at h1
  have h2:=bB _ (o6 h1)
  rw[jk]at h2
  have h3:e∈(nX kept).map (·.1):=Db h2
  rw[gD]at h3
  obtain⟨x,hx,hxe⟩:=List.mem_map.1 h3
  exact⟨x,hx,hxe⟩
 obtain⟨⟨k,n⟩,qe⟩:=bK (l:=s.ls) (i:=i) (by have:=mS.lt i kD;rw[jg]at this;simpa[lF]using this)
 have NF:es[i]?=some (k,T.int .u64 n):=by rw[jg,lF,List.getElem?_map,qe];rfl
 have DG:e=(T.str k,T.int .u64 n):=by
  rw[bh,List.getElem?_map,NF]at he;exact(Option.some.inj he).symm
 subst DG
 obtain⟨H6,Dd⟩:∃H6,H6=H5.set b.l (.cY (bh T.str es) (ix.erase i) H3.length (some i)):=⟨_,rfl⟩
 have m6:H6[b.l]?=some (.cY (bh T.str es) (ix.erase i) H3.length (some i)):=by rw[Dd];exact bR lm
 have i6:H6[H3.length]?=some (.vD b.l):=by rw[Dd,bl XJ];exact hit
 have f6:a9 (fun c=>c=b.l) H3 H6:=by rw[Dd];exact ar.set (.inl rfl) _
 have s6:=f6.get sa.hs acX
 have v6:=f6.get sa.hv sa.vl
 have l60:=aM s6
 have l6v:=aM v6
 have l6l:=aM m6
 have l6i:=aM i6
 rw[←Dd]
 have qd:∀z,jI (aj (eE s.vs) (k,n)) z true=.bJ [jI (aj (eE s.vs) (k,n)) z false,.bool (aj s.vs (k,n)).isSome]:=fun z=>by
  unfold eE;rw[gv]
  cases aj s.vs (k,n)<;>rfl
 have hz:∃cs,cs.length=3∧jI (aj (eE s.vs) (k,n)) (.agg [.str ⟨#[]⟩,.sl .nil [],.int .i64 0]) false=.agg cs:=by
  unfold eE;rw[gv]
  cases aj s.vs (k,n)with
  | none=>exact⟨_,rfl,rfl⟩
  | some x=>exact⟨_,rfl,rfl⟩
 obtain⟨cs,tG,hlz⟩:=hz
 have ke:=fun Hx z ok=>mh wh z ok Hx (eE s.vs) (k,n)
 simp -implicitDefEqProofs only[kN,eN]at ke
 have kH:∀(X:B),(H6++[X]).set H6.length (.cells cs)=H6++[.cells cs]:=fun X=>vW rfl
 have cO:∀X:List T,X.length=3→qI (H6++[.cells X]) H6.length cs 0 (some (.cells X))=some (H6++[.cells cs]):=fun X hX=>by
  rw[iZ,if_pos (by omega)]
  have e1:X.take 0++cs++X.drop (0+cs.length)=cs:=by rw[List.drop_eq_nil_of_le (by omega)];simp
  rw[e1,kH]
 have C1:=cO [.str ⟨#[]⟩,.sl .nil [],.int .i64 0] rfl
 cases QX:(aj s.vs (k,n)).isSome
 ·rw[QX]at qd
  simp -implicitDefEqProofs only[ai,ah,op,ef,cl,sq,reduceIte,j1,j2,j3,j4,j5,j6,j7,j8,j9,S1,S2,i6,m6,he,s6,v6,ke,qd,hlz,tG,C1,List.length_set]
  refine .inr ⟨fun hl=>?_,rfl,?_⟩
  ·have h1:aj s.ls k=some n:=dz hi.zN (List.mem_of_getElem? qe)
   rw[Jt]at h1
   obtain⟨x,hx,hxe⟩:=hl.2.2.2 (k,n) (o6 h1)
   have:(aj (nX kept) (k,n)).isSome=true:=by rw[←mem_keys,gD];exact List.mem_map.2 ⟨x,hx,hxe⟩
   rw[←jk,QX]at this;cases this
  ·exact fS (((p3.jL.more f6 fun c hc=>by rw[hc];exact(p3.new _ sa.F0.2.2.2.2).1)).app _)
 ·rw[QX]at qd
  simp -implicitDefEqProofs only[ai,ah,op,ef,cl,sq,reduceIte,j1,j2,j3,j4,j5,j6,j7,j8,j9,S1,S2,i6,m6,he,s6,v6,ke,qd,hlz,tG,C1,List.length_set]
  refine⟨cd++[k],?_,.i ⟨_,_,mS.step fh kD NF,by rw[aP l6l];exact m6,by rw[aP l6i];exact i6,f6.app _,fun e MW KK=>?_⟩⟩
  ·have:=mS.len;have:=List.length_pos_of_mem kD;rw[List.length_append,List.length_singleton];omega
  ·rcases List.mem_append.1 KK with KK|KK
   ·exact DU e MW KK
   ·simp -implicitDefEqProofs only[List.mem_singleton]at KK
    have h1:=dz hi.zN MW
    have h2:aj s.ls k=some n:=dz hi.zN (List.mem_of_getElem? qe)
    rw[KK,h2]at h1
    have:e=(k,n):=Prod.ext KK (Option.some.inj h1).symm
    rw[this,QX]
def AbT (a:Ab):Prop:=∀m h,a.v m=some h→h.aZ=-1∨ba h.aZ
def AbG (a:Ab):Prop:=∀m h,a.v m=some h→65536≤m.2∧gP h.keys∧m.1∈h.keys∧h.value.size≤65535
structure tt (a:Ab):Prop where
 S:HU a
 T:AbT a
 G:AbG a
 L:∀k n,a.l k=some n→a.has (k,n)=true
theorem tt.emp:tt Ab.emp:=⟨HU.emp,fun m h e=>(by cases e),fun m h e=>(by cases e),fun k n e=>(by cases e)⟩
theorem yF {a:Ab}{n:Nat}{l:List (ByteArray×ByteArray)}{ks:List ByteArray}{now:Int}{m:Nm}{x:Vd}(h:(a.put n l ks now).v m=some x):a.v m=some x∨(m.2=n∧∃v,(m.1,v)∈l∧x=⟨v,ks,if n<a.last m.1 then now else -1⟩):=by
 rw[BH]at h
 cases h1:a.v m with
 | some y=>rw[h1]at h;exact .inl h
 | none =>
  rw[h1]at h
  simp -implicitDefEqProofs only[Option.none_or]at h
  split at h
  ·rename_i e
   cases h2:aj l m.1 with
   | none=>rw[h2]at h;cases h
   | some v=>rw[h2]at h;cases h;exact .inr ⟨e,v,o6 h2,rfl⟩
  ·cases h
theorem sS {a:Ab}{n:Nat}{now:Int}{m:Nm}{x:Vd}(h:(a.mB n now).v m=some x):∃y,a.v m=some y∧x.value=y.value∧x.keys=y.keys∧(x.aZ=y.aZ∨x.aZ=now):=by
 simp -implicitDefEqProofs only[Ab.mB]at h
 cases h1:a.v m with
 | none=>rw[h1]at h;cases h
 | some y =>
  rw[h1]at h;simp -implicitDefEqProofs only[Option.map_some,Option.some.injEq]at h;subst h
  refine⟨y,rfl,?_⟩
  split
  ·exact⟨rfl,rfl,.inr rfl⟩
  ·exact⟨rfl,rfl,.inl rfl⟩
theorem BJ {n:Nat}{l:List (ByteArray×ByteArray)}{ks:List ByteArray}(h:ja n l ks){p:ByteArray×ByteArray}(hp:p∈l):p.1∈ks∧p.2.size≤65535:=by
 obtain⟨i,hi,e⟩:=List.getElem_of_mem hp
 exact(h.2.2.2 i hi p (by rw[List.getElem?_eq_getElem hi,e])).2
theorem tt.put {a:Ab}(h:tt a){n:Nat}{l:List (ByteArray×ByteArray)}{ks:List ByteArray}{now:Int}(hm:ja n l ks)(ht:ba now):tt (a.put n l ks now):=by
 refine⟨h.S.put ht.1,fun m x e=>?_,fun m x e=>?_,fun k n' e=>?_⟩
 ·rcases yF e with e|⟨_,v,_,rfl⟩
  ·exact h.T m x e
  ·simp only;split
   ·exact .inr ht
   ·exact .inl rfl
 ·rcases yF e with e|⟨rfl,v,hv,rfl⟩
  ·exact h.G m x e
  ·have:=BJ hm hv
   exact⟨hm.1,hm.2.1,this.1,this.2⟩
 ·rw[rp,h.L k n' e];rfl
theorem tt.mB {a:Ab}(h:tt a){n:Nat}{now:Int}(ht:ba now):tt (a.mB n now):=by
 refine⟨h.S.mB ht.1,fun m x e=>?_,fun m x e=>?_,fun k n' e=>?_⟩
 ·obtain⟨y,hy,_,_,hs⟩:=sS e
  rcases hs with hs|hs
  ·rw[hs];exact h.T m y hy
  ·rw[hs];exact .inr ht
 ·obtain⟨y,hy,h1,h2,_⟩:=sS e
  rw[h1,h2];exact h.G m y hy
 ·rw[BG]
  simp -implicitDefEqProofs only[Ab.mB]at e
  split at e
  ·rename_i hc;cases e;exact hc.1
  ·exact h.L k n' e
def Ab.rq (a:Ab)(m:Nm):Ab:=match a.v m with
 | some h=>if h.aZ=-1 then a else a.cut m
 | none=>a
theorem tt.rq {a:Ab}(h:tt a)(m:Nm):tt (a.rq m):=by
 unfold Ab.rq
 split
 ·rename_i x hx
  split
  ·exact h
  ·rename_i hs
   have cs:∀m' y,(a.cut m).v m'=some y→a.v m'=some y:=fun m' y e=>by
    simp -implicitDefEqProofs only[Ab.cut]at e;split at e
    ·cases e
    ·exact e
   refine⟨fun m' y e=>h.S m' y (cs m' y e),fun m' y e=>h.T m' y (cs m' y e),fun m' y e=>h.G m' y (cs m' y e),fun k n e=>?_⟩
   have e:a.l k=some n:=e
   have h1:=h.L k n e
   simp -implicitDefEqProofs only[Ab.has,Ab.cut]
   rw[if_neg]
   ·exact h1
   ·intro e2
    have h3:=h.S m x hx
    refine hs (h3.2 ?_)
    rw[←e2];simp[Ab.last,e]
 ·exact h
def cH (a:Ab)(m:Nm):Kd:=⟨m.1,m.2,(je (a.v m)).value,.arg,(je (a.v m)).keys,(je (a.v m)).aZ⟩
theorem HY {a:Ab}{l:List Nm}(h:Names a l)(m:Nm):aj (nX (l.map (cH a))) m=a.v m:=by
 have hk:nX (l.map (cH a))=l.map fun m=>(m,je (a.v m)):=by
  rw[nX,List.map_map];rfl
 rw[hk]
 have hn:((l.map fun m=>(m,je (a.v m))).map (·.1)).Nodup:=by simpa[Function.comp_def]using h.nd
 cases hv:a.v m with
 | none =>
  refine bS.2 fun hh=>?_
  simp -implicitDefEqProofs only[List.map_map,List.mem_map,Function.comp]at hh
  obtain⟨x,hx,rfl⟩:=hh
  have:=(h.2 x).1 hx
  simp[Ab.has,hv]at this
 | some x =>
  have hm:m∈l:=(h.2 m).2 (by simp[Ab.has,hv])
  have:=dz hn (p:=(m,je (a.v m))) (List.mem_map.2 ⟨m,hm,rfl⟩)
  rw[this,hv];rfl
theorem vg {a:Ab}{l:List ByteArray}(h:dp a l)(k:ByteArray):aj (l.map (ik a)) k=a.l k:=by
 have fh:l.Nodup:=h.1.imp fun {x y} HT e=>by rw[e,dY]at HT;cases HT
 have hn:((l.map (ik a)).map (·.1)).Nodup:=by
  have:(l.map (ik a)).map (·.1)=l:=by simp[ik,Function.comp_def]
  rw[this];exact fh
 cases hv:a.l k with
 | none =>
  refine bS.2 fun hh=>?_
  simp -implicitDefEqProofs only[List.map_map,List.mem_map,Function.comp,ik]at hh
  obtain⟨x,hx,rfl⟩:=hh
  have:=(h.2 x).1 hx
  rw[hv]at this;cases this
 | some n =>
  have hm:k∈l:=(h.2 k).2 (by rw[hv];rfl)
  have:=dz hn (p:=ik a k) (List.mem_map.2 ⟨k,hm,rfl⟩)
  have h2:aj (l.map (ik a)) k=some (a.last k):=this
  rw[h2];simp[Ab.last,hv]
theorem De {a:Ab}{l:List Nm}{ls:List ByteArray}(h:Names a l)(hl:dp a ls):bm (l.map (cH a)) (ls.map (ik a))=a:=eg (fun m=>HY h m) fun k=>vg hl k
theorem tt.load {a:Ab}(h:tt a){l:List Nm}{ls:List ByteArray}(hN:Names a l)(hL:dp a ls):nY (l.map (cH a)) (ls.map (ik a)):=by
 refine⟨List.pairwise_map.2 hL.1,List.pairwise_map.2 hN.1,fun x hx=>?_,fun e he=>?_⟩
 ·obtain⟨m,hm,rfl⟩:=List.mem_map.1 hx
  obtain⟨y,hy⟩:=Option.isSome_iff_exists.1 ((hN.2 m).1 hm)
  have eQ:(bm [] (ls.map (ik a))).last m.1=a.last m.1:=by simp -implicitDefEqProofs only[Ab.last,bm,vg hL]
  have Wu:je (a.v m)=y:=by rw[hy];rfl
  obtain⟨g1,g2,g3,g4⟩:=h.G m y hy
  have hS:=h.S m y hy
  have hT:=h.T m y hy
  have e1:(cH a m).id=m.2:=rfl
  have e2:(cH a m).key=m.1:=rfl
  have e3:(cH a m).keys=y.keys:=by simp -implicitDefEqProofs only[cH,Wu]
  have e4:(cH a m).value=y.value:=by simp -implicitDefEqProofs only[cH,Wu]
  have e5:(cH a m).aZ=y.aZ:=by simp -implicitDefEqProofs only[cH,Wu]
  unfold qN
  rw[e1,e2,e3,e4,e5,eQ]
  refine⟨g1,g2,g3,g4,?_⟩
  split
  ·rename_i al
   rcases hT with hT|hT
   ·exact absurd al (hS.1 hT)
   ·exact hT
  ·rename_i al;exact hS.2 al
 ·obtain⟨k,hk,rfl⟩:=List.mem_map.1 he
  obtain⟨n,hn⟩:=Option.isSome_iff_exists.1 ((hL.2 k).1 hk)
  have hla:a.last k=n:=by simp[Ab.last,hn]
  have:=h.L k n hn
  refine⟨cH a (k,n),List.mem_map.2 ⟨(k,n),(hN.2 _).2 this,rfl⟩,?_⟩
  show(k,n)=(k,a.last k)
  rw[hla]
theorem Wv {b:Bk}{a:Ab}{F:Nat→Prop}{m:Nat}(k:ByteArray)(n:Nat){H:af}(h:lO H b a F m)(hn:m≤7000000):W env (.call 25 [.ptr b.s 0,.str k,.int .u64 n]) H (fun o H'=>∃e,o=.val (.int .i64 e)∧lO H' b (a.rq (k,n)) F m∧a9 F H H'):=by
 refine W.use (Wg k n h (by omega)) fun o H' hq=>?_
 rcases hq with⟨h1,hu,hx⟩|⟨x,h1,h2,hu,hx⟩|⟨x,h1,h2,hu,h',ar⟩
 ·exact⟨_,hu,by simp -implicitDefEqProofs only[Ab.rq,h1];exact h.ext hx,ax hx⟩
 ·exact⟨_,hu,by simp -implicitDefEqProofs only[Ab.rq,h1,if_pos h2];exact h.ext hx,ax hx⟩
 ·exact⟨_,hu,by simp -implicitDefEqProofs only[Ab.rq,h1,if_neg h2];exact h',ar⟩
end Go.Proofs.YtdcpehdijdllpaaGreat.St
end

section
namespace Go.Proofs.YtdcpehdijdllpaaGreat.St
open Go.Rmp Go.Proofs.YtdcpehdijdllpaaGreat.Ir
set_option maxRecDepth 10000
theorem HZ (n:Nat)(H:af):W env (.call 81 [.int .u64 n]) H (kX (.bool (decide (65536≤n))) H):=by
 refine W.bu rfl rfl rfl ?_
 simp -implicitDefEqProofs only[P8,op,ef,cl,sq,reduceIte,j1,j2,j3,j4,j5,j6,j7,j8,j9,S1]
theorem ru (now:Int)(H:af):W env (.call 78 [.int .i64 now]) H (kX (.bool (decide (0≤now)&&decide (now≤1099511627776))) H):=by
 refine W.bu rfl rfl rfl ?_
 cases h:decide (0≤now)<;>simp -implicitDefEqProofs only[P5,op,ef,cl,sq,reduceIte,j1,j2,j3,j4,j5,j6,j7,j8,j9,S1,h,Bool.false_and]
theorem QY (k:SK)(l:List ByteArray)(x:ByteArray)(H:af)(hl:l.length≤16777216):W env (.call 111 [.sl k (l.map eS),.str x]) H (kX (.bool (lE l x)) H):=by
 refine W.bu rfl rfl rfl ?_
 simp -implicitDefEqProofs only[GD,op,ef,cl,sq,reduceIte,j1,j2,j3,j4,j5,j6,j7,j8,j9,S1]
 refine W.mr [(0,_),(1,_)] (fun (i:Nat) R H'=>H'=H∧R 5=.int .i64 i∧i≤l.length∧x∉l.take i) (fun i=>l.length-i) 0 ⟨rfl,rfl,Nat.zero_le _,by simp⟩ ?_
 rintro i R H1⟨rfl,g5,hi,ey⟩
 by_cases al:i<l.length
 ·obtain⟨y,hy⟩:=bK al
  have iy:=fj (e:=eS) (n:=1) (fun _=>rfl) (by decide) (k:=k) hy
  have fU:=av (show i<9223372036854775807 by omega)
  by_cases h:y=x
  ·have hm:lE l x=true:=kd.2 (h▸List.mem_of_getElem? hy)
   simp -implicitDefEqProofs only[ai,ah,op,ef,cl,sq,reduceIte,j1,j2,j3,j4,j5,j6,j7,j8,j9,S1,List.length_map,g5,al,aa,iy,eS,h,hm]
  ·simp -implicitDefEqProofs only[ai,ah,op,ef,cl,sq,reduceIte,j1,j2,j3,j4,j5,j6,j7,j8,j9,S1,List.length_map,g5,al,aa,iy,eS,h,fU]
   refine⟨i+1,by omega,rfl,al,?_⟩
   rw[bN hy];simp[ey,Ne.symm h]
 ·have gJ:i=l.length:=by omega
  subst gJ
  rw[List.take_length]at ey
  have hm:lE l x=false:=mP.2 ey
  simp -implicitDefEqProofs only[ai,ah,op,ef,cl,sq,reduceIte,j1,j2,j3,j4,j5,j6,j7,j8,j9,S1,List.length_map,g5,al,hm]
def qF (l:List ByteArray):Bool:=l.all (fun x=>decide (x.size≤65535))&&(decide (1≤l.length)&&decide (l.length≤1024))
theorem QZ (k:SK)(l:List ByteArray)(H:af)(hl:l.length≤16777216):W env (.call 130 [.sl k (l.map eS)]) H (kX (.bool (qF l)) H):=by
 refine W.bu rfl rfl rfl ?_
 simp -implicitDefEqProofs only[GO,op,ef,cl,sq,reduceIte,j1,j2,j3,j4,j5,j6,j7,j8,j9,S1]
 refine W.mr [(0,_)] (fun (i:Nat) R H'=>H'=H∧R 3=.int .i64 i∧i≤l.length∧(l.take i).all (fun x=>decide (x.size≤65535))=true) (fun i=>l.length-i) 0 ⟨rfl,rfl,Nat.zero_le _,by simp⟩ ?_
 rintro i R H1⟨rfl,g3,hi,bB⟩
 by_cases al:i<l.length
 ·obtain⟨y,hy⟩:=bK al
  have iy:=fj (e:=eS) (n:=1) (fun _=>rfl) (by decide) (k:=k) hy
  have fU:=av (show i<9223372036854775807 by omega)
  by_cases h:65535<y.size
  ·have hf:qF l=false:=by
    unfold qF
    have:l.all (fun x=>decide (x.size≤65535))=false:=List.all_eq_false.2 ⟨y,List.mem_of_getElem? hy,by simp;omega⟩
    rw[this];rfl
   simp -implicitDefEqProofs only[ai,ah,op,ef,cl,sq,reduceIte,j1,j2,j3,j4,j5,j6,j7,j8,j9,S1,List.length_map,g3,al,aa,iy,eS,h,hf]
  ·simp -implicitDefEqProofs only[ai,ah,op,ef,cl,sq,reduceIte,j1,j2,j3,j4,j5,j6,j7,j8,j9,S1,List.length_map,g3,al,aa,iy,eS,h,fU]
   refine⟨i+1,by omega,rfl,al,?_⟩
   rw[bN hy,List.all_append,bB];simp;omega
 ·have gJ:i=l.length:=by omega
  subst gJ
  rw[List.take_length]at bB
  have hf:qF l=(decide (1≤l.length)&&decide (l.length≤1024)):=by unfold qF;rw[bB];rfl
  by_cases h1:1≤l.length
  ·simp -implicitDefEqProofs only[ai,ah,op,ef,cl,sq,reduceIte,j1,j2,j3,j4,j5,j6,j7,j8,j9,S1,List.length_map,g3,al,hf,h1]
  ·simp -implicitDefEqProofs only[ai,ah,op,ef,cl,sq,reduceIte,j1,j2,j3,j4,j5,j6,j7,j8,j9,S1,List.length_map,g3,al,hf,h1,Bool.false_and]
theorem Q0 (k:SK)(l:List ByteArray)(H:af)(hl:l.length≤16777216):W env (.call 131 [.sl k (l.map eS)]) H (kX (.bool (fC l)) H):=by
 refine W.bu rfl rfl rfl ?_
 simp -implicitDefEqProofs only[GP,op,ef,cl,sq,reduceIte,j1,j2,j3,j4,j5,j6,j7,j8,j9,S1]
 refine W.mr [(0,_)] (fun (i:Nat) R H'=>H'=H∧R 3=.int .i64 ((i:Nat)+1:Nat)∧∀j,j<i→∀a b,l[j]?=some a→l[j+1]?=some b→strLt a b=true) (fun i=>l.length-i) 0 ⟨rfl,rfl,fun j h=>by omega⟩ ?_
 rintro i R H1⟨rfl,g3,bB⟩
 by_cases al:i+1<l.length
 ·obtain⟨y,hy⟩:=bK al
  obtain⟨z,hz⟩:=bK (l:=l) (i:=i) (by omega)
  have iy:=fj (e:=eS) (n:=1) (fun _=>rfl) (by decide) (k:=k) hy
  have iz:=fj (e:=eS) (n:=1) (fun _=>rfl) (by decide) (k:=k) hz
  have fU:=av (show i+1<9223372036854775807 by omega)
  have wp:=iH (show i+1<9223372036854775807 by omega) (by omega)
  simp -implicitDefEqProofs only[Nat.add_sub_cancel]at wp
  cases h:strLt z y
  ·have hf:fC l=false:=by
    cases e:fC l with
    | false=>rfl
    | true=>have:=(iI l).1 e i z y hz hy;rw[h]at this;cases this
   simp -implicitDefEqProofs only[ai,ah,op,ef,cl,sq,reduceIte,j1,j2,j3,j4,j5,j6,j7,j8,j9,S1,List.length_map,g3,al,aa,wp,iy,iz,eS,h,hf]
  ·simp -implicitDefEqProofs only[ai,ah,op,ef,cl,sq,reduceIte,j1,j2,j3,j4,j5,j6,j7,j8,j9,S1,List.length_map,g3,al,aa,wp,iy,iz,eS,h,fU]
   refine⟨i+1,by omega,rfl,fun j hj a b ha hb=>?_⟩
   by_cases e:j=i
   ·subst e;rw[hz]at ha;rw[hy]at hb;cases ha;cases hb;exact h
   ·exact bB j (by omega) a b ha hb
 ·have hr:fC l=true:=(iI l).2 fun j a b ha hb=>bB j (by have:=(List.getElem?_eq_some_iff.1 hb).1;omega) a b ha hb
  simp -implicitDefEqProofs only[ai,ah,op,ef,cl,sq,reduceIte,j1,j2,j3,j4,j5,j6,j7,j8,j9,S1,List.length_map,g3,al,hr]
theorem Ia (k:SK)(l:List ByteArray)(H:af)(hl:l.length≤16777216):W env (.call 110 [.sl k (l.map eS)]) H (kX (.bool (hZ l)) H):=by
 have hg:hZ l=(qF l&&fC l):=by
  unfold hZ qF
  cases fC l<;>cases l.all (fun x=>decide (x.size≤65535))<;>cases decide (1≤l.length)<;>cases decide (l.length≤1024)<;>rfl
 refine W.bu rfl rfl rfl ?_
 simp -implicitDefEqProofs only[GC,op,ef,cl,sq,reduceIte,j1,j2,j3,j4,j5,j6,j7,j8,j9,S1]
 refine ae _ _ _ _ _ _ _ _ (QZ k l _ hl) ?_
 rintro u H1⟨hu,rfl⟩
 cases hu
 cases h:qF l
 ·rw[h,Bool.false_and]at hg
  simp -implicitDefEqProofs only[op,ef,cl,sq,reduceIte,j1,j2,j3,j4,j5,j6,j7,j8,j9,S1,hg]
 ·rw[h,Bool.true_and]at hg
  simp -implicitDefEqProofs only[op,ef,cl,sq,reduceIte,j1,j2,j3,j4,j5,j6,j7,j8,j9,S1]
  refine ae _ _ _ _ _ _ _ _ (Q0 k l _ hl) ?_
  rintro u H2⟨hu,rfl⟩
  cases hu
  simp -implicitDefEqProofs only[op,ef,cl,sq,reduceIte,j1,j2,j3,j4,j5,j6,j7,j8,j9,S1,hg]
theorem Q1 (a b:Nm):aY a b=(strLt a.1 b.1||(decide (a.1=b.1)&&decide (a.2<b.2))):=by
 rw[Bool.eq_iff_iff,mU];simp
theorem LU (a b:Nm)(va vb ka kb:T)(ha:va.one=true∧vb.one=true∧ka.one=true∧kb.one=true)(H:af):W env (.call 112 [.agg [.str a.1,.int .u64 a.2,va,ka],.agg [.str b.1,.int .u64 b.2,vb,kb]]) H (xY (.bool (aY a b)) H):=by
 have hl:=Q1 a b
 have c0:∀x y:B,(H++[x]++[y])[H.length]?=some x:=fun x y=>by rw[aP (by simp),aK rfl]
 have ce:∀l:List T,(T.agg l).cells?=some l:=fun _=>rfl
 refine W.bu rfl rfl rfl ?_
 cases h1:strLt a.1 b.1
 ·by_cases h2:a.1=b.1
  ·rw[h1]at hl
   simp -implicitDefEqProofs only[h2,decide_true,Bool.true_and,Bool.false_or]at hl
   rw[h2]at h1
   simp -implicitDefEqProofs only[yk,op,ef,cl,sq,reduceIte,j1,j2,j3,j4,j5,j6,j7,j8,j9,S1,S2,S3,c0,h1,h2,hl,sA ((Ext.rfl'.app _).app _)]
  ·rw[h1]at hl
   simp -implicitDefEqProofs only[h2,decide_false,Bool.false_and,Bool.false_or]at hl
   simp -implicitDefEqProofs only[yk,op,ef,cl,sq,reduceIte,j1,j2,j3,j4,j5,j6,j7,j8,j9,S1,S2,S3,c0,h1,h2,hl,sA ((Ext.rfl'.app _).app _)]
 ·rw[h1,Bool.true_or]at hl
  simp -implicitDefEqProofs only[yk,op,ef,cl,sq,reduceIte,j1,j2,j3,j4,j5,j6,j7,j8,j9,S1,S2,S3,c0,h1,hl,sA ((Ext.rfl'.app _).app _)]
theorem gE {α:Type}{enc:α→List T}{n n0:Nat}{H H':af}{G:Nat→Prop}{t:T}{l:List α}(h:iA enc n n0 H t l)(hf:a9 G H H')(hg:∀c,tb t=some c→¬G c):iA enc n n0 H' t l:=by
 rcases h with h|⟨c,rfl,hc,h0⟩
 ·exact .inl h
 ·exact .inr ⟨c,rfl,hf.get hc (hg c rfl),h0⟩
theorem fT {α:Type}{enc:α→List T}{n n0:Nat}{H:af}{t:T}{l:List α}(h:iA enc n n0 H t l){c:Nat}(hc:tb t=some c):H[c]?=some (.cells (aJ enc l)):=by
 rcases h with⟨_,rfl⟩|⟨c',rfl,gB,_⟩
 ·cases hc
 ·cases hc;exact gB
theorem Df {n0:Nat}{H H':af}{t:T}(h:Nu n0 H t H'):a9 (fun c=>tb t=some c) H H':=⟨h.len,fun c hc hg=>by
 have hx:H[c]?=some H[c]:=List.getElem?_eq_getElem hc
 rw[hx]
 exact h.get c _ hx fun off len n e=>hg (by rw[e];rfl)⟩
theorem lj {α:Type}{enc:α→List T}{n n0:Nat}{H:af}{t:T}{l:List α}(h:iA enc n n0 H t l):xd t=t:=by
 rcases h with⟨_,rfl⟩|⟨c,rfl,_⟩<;>rfl
theorem o7 {α:Type}{enc:α→List T}{n n0:Nat}{H:af}{t:T}{l:List α}(h:iA enc n n0 H t l):∀Hx,jE Hx .sl t=some l.length:=fun Hx=>by
 rcases h with⟨e,rfl⟩|⟨c,rfl,_,_⟩
 ·rw[e];rfl
 ·rfl
def fe {α:Type}(f:α→α)(l:List α)(i:Nat):List α:=(l.take i).map f++l.drop i
section
variable {α:Type} {f:α→α} {l:List α} {i:Nat} {x:α}
theorem LV:fe f l 0=l:=by simp[fe]
theorem vj:(fe f l i).length=l.length:=by simp[fe];omega
theorem Dg:fe f l l.length=l.map f:=by simp[fe]
theorem gF (h:l[i]?=some x):l.drop i=x :: l.drop (i+1):=by
 obtain⟨hi,e⟩:=List.getElem?_eq_some_iff.1 h
 rw[←e];exact List.drop_eq_getElem_cons hi
theorem vn (h:l[i]?=some x):(fe f l i)[i]?=some x:=by
 have hi:=(List.getElem?_eq_some_iff.1 h).1
 unfold fe
 rw[List.getElem?_append_right (by simp;omega),gF h]
 have:i-((l.take i).map f).length=0:=by simp;omega
 rw[this];rfl
theorem qn (h:l[i]?=some x):(fe f l i).set i (f x)=fe f l (i+1):=by
 have hi:=(List.getElem?_eq_some_iff.1 h).1
 unfold fe
 rw[bN h,gF h,List.set_append_right _ _ (by simp;omega)]
 have:i-((l.take i).map f).length=0:=by simp;omega
 rw[this];simp
theorem Ag (h:l[i]?=some x)(e:f x=x):fe f l (i+1)=fe f l i:=by
 rw[←qn h,e]
 refine List.ext_getElem? fun j=>?_
 rw[List.getElem?_set]
 split
 ·rename_i hj;subst hj
  rw[vn h]
  have hi:=(List.getElem?_eq_some_iff.1 h).1
  rw[vj,if_pos hi]
 ·rfl
end
theorem NL {α:Type}{enc:α→List T}{n n0:Nat}{H:af}{t:T}{l:List α}{i c q:Nat}{x:α}(h:iA enc n n0 H t l)(hx:l[i]?=some x)(hi:fw n i t=some (.ptr c q))(h0:n≠0):tb t=some c:=by
 rcases h with⟨e,_⟩|⟨c',e1,_,_⟩
 ·rw[e]at hx;cases hx
 ·rw[e1,jZ]at hi
  split at hi
  ·simp -implicitDefEqProofs only[Option.some.injEq,T.ptr.injEq]at hi
   rw[e1,←hi.1];rfl
  ·cases hi
theorem yG {α:Type}{enc:α→List T}{n:Nat}(hn:∀x,(enc x).length=n){H:af}{t:T}{l:List α}{bytes:Nat}(new:List α)(h:iA enc n 0 H t l)(hr:cC (l.length+new.length) bytes=true) :
  ∃t' H',lC H n bytes t (new.map enc)=some (t',H')∧iA enc n 0 H' t' (l++new)∧a9 (fun c=>tb t=some c) H H'∧∀c,tb t'=some c→(tb t=some c∧new=[])∨H.length≤c:=by
 by_cases he:new=[]
 ·subst he
  refine⟨t,H,?_,by simpa using h,a9.refl _ _,fun c hc=>.inl ⟨hc,rfl⟩⟩
  have:AD t=true:=by rcases h with⟨_,rfl⟩|⟨c,rfl,_⟩<;>rfl
  simp[lC,this]
 ·obtain⟨t',H',ha,hm,cO⟩:=oP (enc:=enc) (n:=n) (n0:=0) hn (bytes:=bytes) new h (Nat.zero_le _) he hr
  refine⟨t',H',ha,hm,Df cO,fun c hc=>.inr ?_⟩
  rcases hm with⟨e,_⟩|⟨c',rfl,_,_⟩
  ·simp at e;exact absurd e.2 he
  ·cases hc;exact re ha (by simpa using he)
theorem mX {α:Type}{enc:α→List T}{n:Nat}(hn:∀x,(enc x).length=n){H:af}{b:Nat}{xs:List α}(hb:H[b]?=some (.cells (aJ enc xs)))(j k:Nat)(T2:j+k≤xs.length):bq H n (.aA b (j*n) k n)=some (((xs.drop j).take k).map enc):=(gu hn hb j k k 0 T2).1
structure RC (H:af)(p:Nat)(tK tL:T)(K:List Kd)(L:List Nm)(G:Nat→Prop):Prop where
 hp:H[p]?=some (.cells [tK,tL])
 mK:iA dP 5 0 H tK K
 mL:iA eW 2 0 H tL L
 gp:G p
 gK:∀c,tb tK=some c→G c∧c≠p
 gL:∀c,tb tL=some c→G c∧c≠p
 ne:∀c,tb tK=some c→tb tL=some c→False
 ko:∀x∈K,x.kk=.arg∧x.keys.length≤1024
theorem RC.jL {H H':af}{p:Nat}{tK tL:T}{K:List Kd}{L:List Nm}{G D:Nat→Prop}(h:RC H p tK tL K L G)(hf:a9 D H H')(hd:∀c,G c→c<H.length→¬D c):RC H' p tK tL K L G :=
 ⟨hf.get h.hp (hd p h.gp (aM h.hp)),gE h.mK hf fun c hc=>hd c (h.gK c hc).1 (aM (fT h.mK hc)),gE h.mL hf fun c hc=>hd c (h.gL c hc).1 (aM (fT h.mL hc)),h.gp,h.gK,h.gL,h.ne,h.ko⟩
theorem RC.ext {H H':af}{p:Nat}{tK tL:T}{K:List Kd}{L:List Nm}{G:Nat→Prop}(h:RC H p tK tL K L G)(hx:Ext H H'):RC H' p tK tL K L G:=h.jL (ax (F:=fun _=>False) hx) fun _ _ _ h=>h
def vo (K:List Kd)(m:Nm):Nat:=(K.takeWhile fun x=>aY x.nm m).length
theorem wF {α:Type}{p:α→Bool}:∀{l:List α} {i:Nat},(∀j x,j<i→l[j]?=some x→p x=true)→i≤l.length→(∀x,l[i]?=some x→p x=false)→(l.takeWhile p).length=i
 | [],i,_,hi,_=>by simp at hi;subst hi;rfl
 | x :: l,0,_,_,h=>by have:=h x rfl;simp[List.takeWhile_cons,this]
 | x :: l,i+1,h1,hi,h2=>by
  have hx:=h1 0 x (by omega) rfl
  simp -implicitDefEqProofs only[List.takeWhile_cons,hx,if_true,List.length_cons]
  rw[wF (i:=i) (fun j y hj hy=>h1 (j+1) y (Nat.succ_lt_succ hj) (by simpa using hy)) (by simpa using hi) (fun y hy=>h2 y (by simpa using hy))]
theorem NM {α:Type}{p:α→Bool}:∀{l:List α} {j:Nat} {x:α},j<(l.takeWhile p).length→l[j]?=some x→p x=true
 | [],j,x,h,_=>by simp at h
 | y :: l,j,x,h,hx=>by
  simp -implicitDefEqProofs only[List.takeWhile_cons]at h
  cases hy:p y
  ·rw[hy]at h;simp at h
  ·rw[hy]at h
   cases j with
   | zero=>cases hx;exact hy
   | succ j=>exact NM (j:=j) (by simpa using h) (by simpa using hx)
theorem NN {α:Type}{p:α→Bool}:∀{l:List α} {x:α},l[(l.takeWhile p).length]?=some x→p x=false
 | [],x,h=>by simp at h
 | y :: l,x,h=>by
  simp -implicitDefEqProofs only[List.takeWhile_cons]at h
  cases hy:p y
  ·rw[hy]at h;simp at h;subst h;exact hy
  ·rw[hy]at h;simp at h;exact NN h
theorem Ib {α:Type}(p:α→Bool):∀l:List α,(l.takeWhile p).length≤l.length
 | []=>by simp
 | y :: l=>by
  simp -implicitDefEqProofs only[List.takeWhile_cons]
  split
  ·have:=Ib p l;simp;omega
  ·simp
theorem BK {K:List Kd}(hs:b8 K)(m:Nm):ki (K.map Kd.nm) m=true↔∃x,K[vo K m]?=some x∧x.nm=m:=by
 rw[gT,List.mem_map]
 constructor
 ·rintro⟨x,hx,rfl⟩
  obtain⟨j,hj,e⟩:=List.getElem_of_mem hx
  refine⟨x,?_,rfl⟩
  have:vo K x.nm=j:=wF (fun i y hi hy=>by
   have:=List.pairwise_iff_getElem.1 hs i j (List.getElem?_eq_some_iff.1 hy).1 hj hi
   rw[(List.getElem?_eq_some_iff.1 hy).2,e]at this;exact this) (Nat.le_of_lt hj) (fun y hy=>by
   rw[List.getElem?_eq_getElem hj,e]at hy;cases hy;exact lf _)
  rw[this,List.getElem?_eq_getElem hj,e]
 ·rintro⟨x,hx,e⟩;exact⟨x,List.mem_of_getElem? hx,e⟩
theorem rv {H:af}{p:Nat}{tK tL:T}{K:List Kd}{L:List Nm}{G:Nat→Prop}(h:RC H p tK tL K L G)(hl:L.length≤8000000)(k:ByteArray):W env (.call 80 [.ptr p 0,.str k]) H (kX (.int .u64 ((bm K L).last k:Nat)) H):=by
 have hlen:=o7 h.mL
 have eQ:∀ls:List Nm,(bm K ls).last k=(aj ls k).getD 0:=fun _=>rfl
 refine W.bu rfl rfl rfl ?_
 simp -implicitDefEqProofs only[P7,op,ef,cl,sq,reduceIte,j1,j2,j3,j4,j5,j6,j7,j8,j9,S1]
 refine W.mr [(0,_),(1,_)] (fun (i:Nat) R H'=>H'=H∧R 5=.int .i64 i∧i≤L.length∧aj L k=aj (L.drop i) k) (fun i=>L.length-i) 0 ⟨rfl,rfl,Nat.zero_le _,by simp⟩ ?_
 rintro i R H1⟨rfl,g5,hi,ey⟩
 by_cases al:i<L.length
 ·obtain⟨x,hx⟩:=bK al
  obtain⟨c,hc,ia,_⟩:=mA (enc:=eW) (n:=2) (fun _=>rfl) (by decide) h.mL hx
  have fU:=av (show i<9223372036854775807 by omega)
  have r0:jn 1 (i*2+0) (some (.cells (aJ eW L)))=some [.str x.1]:=cG (enc:=eW) (n:=2) (fun _=>rfl) hx 0 1 (by decide)
  have r1:jn 1 (i*2+1) (some (.cells (aJ eW L)))=some [.int .u64 x.2]:=cG (enc:=eW) (n:=2) (fun _=>rfl) hx 1 1 (by decide)
  have he:aj (L.drop i) k=if k=x.1 then some x.2 else aj (L.drop (i+1)) k:=by
   rw[gF hx,bj]
  by_cases h1:x.1=k
  ·rw[if_pos h1.symm]at he
   have:(bm K L).last k=x.2:=by rw[eQ,ey,he];rfl
   simp -implicitDefEqProofs only[ai,ah,op,ef,cl,sq,reduceIte,j1,j2,j3,j4,j5,j6,j7,j8,j9,S1,h.hp,hlen,g5,al,aa,ia,hc,r0,r1,h1,this]
  ·rw[if_neg fun h=>h1 h.symm]at he
   simp -implicitDefEqProofs only[ai,ah,op,ef,cl,sq,reduceIte,j1,j2,j3,j4,j5,j6,j7,j8,j9,S1,h.hp,hlen,g5,al,aa,ia,hc,r0,r1,h1,fU]
   exact⟨i+1,by omega,rfl,al,by rw[ey,he]⟩
 ·have gJ:i=L.length:=by omega
  subst gJ
  have:(bm K L).last k=0:=by rw[eQ,ey,List.drop_length];rfl
  simp -implicitDefEqProofs only[ai,ah,op,ef,cl,sq,reduceIte,j1,j2,j3,j4,j5,j6,j7,j8,j9,S1,h.hp,hlen,g5,al,this]
  rfl
set_option maxHeartbeats 1000000 in
theorem BL {H:af}{p:Nat}{tK tL:T}{K:List Kd}{L:List Nm}{G:Nat→Prop}(h:RC H p tK tL K L G)(hs:b8 K)(hl:K.length≤8000000)(m:Nm):W env (.call 79 [.ptr p 0,.str m.1,.int .u64 m.2]) H (fun o H'=>Ext H H'∧o=.val (.bJ [.int .i64 (vo K m),.bool (ki (K.map Kd.nm) m)])):=by
 have hlen:=o7 h.mK
 refine W.bu rfl rfl rfl ?_
 simp -implicitDefEqProofs only[P6,op,ef,cl,sq,reduceIte,j1,j2,j3,j4,j5,j6,j7,j8,j9,S1]
 refine W.eA 0 [(0,_),(1,_),(2,_)] (fun (i:Nat) R H'=>At H' (fun H'=>Ext H H')∧R 8=.int .i64 i∧i≤K.length∧∀j x,j<i→K[j]?=some x→aY x.nm m=true) (fun i=>K.length-i) 0
  (fun R H'=>At H' (fun H'=>Ext H H')∧R 8=.int .i64 (vo K m)) ⟨.i Ext.rfl',rfl,Nat.zero_le _,fun j x hj=>by omega⟩ ?_ ?_
 ·rintro i R H1⟨dr,g8,hi,bB⟩
  have dr:Ext H H1:=dr
  have h1:=h.ext dr
  by_cases al:i<K.length
  ·obtain⟨x,hx⟩:=bK al
   obtain⟨c,hc,ia,_⟩:=mA (enc:=dP) (n:=5) (fun _=>rfl) (by decide) h1.mK hx
   have fU:=av (show i<9223372036854775807 by omega)
   have r0:jn 4 (i*5+0) (some (.cells (aJ dP K)))=some [.str x.nm.1,.int .u64 x.nm.2,.str x.value,.sl x.kk (x.keys.map eS)]:=cG (enc:=dP) (n:=5) (fun _=>rfl) hx 0 4 (by decide)
   simp -implicitDefEqProofs only[ai,ah,op,ef,cl,sq,reduceIte,j1,j2,j3,j4,j5,j6,j7,j8,j9,S1,h1.hp,hlen,g8,al,aa,ia,hc,r0]
   refine ae _ _ _ _ _ _ _ _ (LU x.nm m _ _ _ _ ⟨rfl,rfl,rfl,rfl⟩ _) ?_
   rintro u H2⟨hu,mN⟩
   cases hu
   have mN:Ext H1 H2:=mN
   cases XH:aY x.nm m
   ·simp -implicitDefEqProofs only[ai,ah,op,ef,cl,sq,reduceIte,j1,j2,j3,j4,j5,j6,j7,j8,j9,S1,g8]
    refine⟨.i (dr.trans mN),?_⟩
    rw[vo,wF bB hi fun y hy=>by rw[hx]at hy;cases hy;exact XH]
   ·simp -implicitDefEqProofs only[ai,ah,op,ef,cl,sq,reduceIte,j1,j2,j3,j4,j5,j6,j7,j8,j9,S1,g8,fU]
    refine⟨i+1,by omega,.i (dr.trans mN),rfl,al,fun j y hj hy=>?_⟩
    by_cases e:j=i
    ·subst e;rw[hx]at hy;cases hy;exact XH
    ·exact bB j y (by omega) hy
  ·have gJ:i=K.length:=by omega
   subst gJ
   simp -implicitDefEqProofs only[ai,ah,op,ef,cl,sq,reduceIte,j1,j2,j3,j4,j5,j6,j7,j8,j9,S1,h1.hp,hlen,g8,al]
   refine⟨.i dr,?_⟩
   rw[vo,wF bB hi fun y hy=>by have:=(List.getElem?_eq_some_iff.1 hy).1;omega]
 ·rintro R H1⟨dr,g8⟩
  have dr:Ext H H1:=dr
  have h1:=h.ext dr
  have pJ:=BK hs m
  have no:(∀x,K[vo K m]?=some x→x.nm≠m)→ki (K.map Kd.nm) m=false:=fun hh=>by
   cases e:ki (K.map Kd.nm) m with
   | false=>rfl
   | true=>obtain⟨x,hx,e2⟩:=pJ.1 e;exact absurd e2 (hh x hx)
  by_cases al:vo K m<K.length
  ·obtain⟨x,hx⟩:=bK al
   obtain⟨c,hc,ia,_⟩:=mA (enc:=dP) (n:=5) (fun _=>rfl) (by decide) h1.mK hx
   have r0:jn 1 (vo K m*5+0+0) (some (.cells (aJ dP K)))=some [.str x.key]:=cG (enc:=dP) (n:=5) (fun _=>rfl) hx 0 1 (by decide)
   have r1:jn 1 (vo K m*5+0+1) (some (.cells (aJ dP K)))=some [.int .u64 x.id]:=cG (enc:=dP) (n:=5) (fun _=>rfl) hx 1 1 (by decide)
   by_cases e1:x.key=m.1
   ·by_cases e2:x.id=m.2
    ·have ht:ki (K.map Kd.nm) m=true:=pJ.2 ⟨x,hx,Prod.ext e1 e2⟩
     simp -implicitDefEqProofs only[ai,ah,op,ef,cl,sq,reduceIte,j1,j2,j3,j4,j5,j6,j7,j8,j9,S1,h1.hp,hlen,g8,al,aa,ia,hc,r0,r1,e1,e2,ht]
     exact dr
    ·have hf:=no fun y hy e=>by rw[hx]at hy;cases hy;exact e2 (congrArg Prod.snd e)
     simp -implicitDefEqProofs only[ai,ah,op,ef,cl,sq,reduceIte,j1,j2,j3,j4,j5,j6,j7,j8,j9,S1,h1.hp,hlen,g8,al,aa,ia,hc,r0,r1,e1,e2,hf]
     exact dr
   ·have hf:=no fun y hy e=>by rw[hx]at hy;cases hy;exact e1 (congrArg Prod.fst e)
    simp -implicitDefEqProofs only[ai,ah,op,ef,cl,sq,reduceIte,j1,j2,j3,j4,j5,j6,j7,j8,j9,S1,h1.hp,hlen,g8,al,aa,ia,hc,r0,r1,e1,hf]
    exact dr
  ·have hf:=no fun y hy e=>by have:=(List.getElem?_eq_some_iff.1 hy).1;omega
   simp -implicitDefEqProofs only[ai,ah,op,ef,cl,sq,reduceIte,j1,j2,j3,j4,j5,j6,j7,j8,j9,S1,h1.hp,hlen,g8,al,hf]
   exact dr
theorem wG {α:Type}{enc:α→List T}{n bytes:Nat}(he:∀x,(enc x).map T.erase=enc x)(l:List α)(hr:cC l.length bytes=true)(H:af):∃k' H',gZ H bytes .nil [] (l.map enc)=some (.sl k' (l.map enc),H')∧Ext H H'∧gy k' l:=by
 cases l with
 | nil=>exact⟨.nil,H,rfl,Ext.rfl',fun _=>rfl⟩
 | cons a l =>
  obtain⟨k',H',ha,mQ,cO⟩:=jJ (n0:=H.length) (H:=H) (bytes:=bytes) (k:=.nil) [] ((a :: l).map enc) (.inl rfl) (Nat.le_refl _) (by simp) (by simpa using hr)
  have e:((a :: l).map enc).map (·.map T.erase)=(a :: l).map enc:=by
   rw[List.map_map];exact List.map_congr_left fun x _=>he x
  rw[List.nil_append,e]at ha
  refine⟨k',H',ha,cO.ext H (Nat.le_refl _) Ext.rfl',fun h=>absurd h (qb ha (by simp))⟩
theorem Q2 (k:ByteArray)(n:Nat)(v:ByteArray)(kk:SK)(ks:List ByteArray)(hl:ks.length≤8000000)(H:af):W env (.call 75 [.agg [.str k,.int .u64 n,.str v,.sl kk (ks.map eS)]]) H (fun o H'=>Ext H H'∧∃kk',gy kk' ks∧o=.val (.agg [.str k,.int .u64 n,.str v,.sl kk' (ks.map eS)])):=by
 have h1:=all_map (enc:=eS) (n:=1) (fun _=>rfl) ks
 obtain⟨k',H3,ha,hx,jO⟩:=wG (enc:=eS) (n:=1) (bytes:=16) (fun _=>rfl) ks (qA (by omega) (by omega)) (H++[B.cells [.str k,.int .u64 n,.str v,.sl kk (ks.map eS)]]++[B.cells [.str ⟨#[]⟩,.int .u64 0,.str ⟨#[]⟩,.sl .nil []]])
 have c0:H3[H.length]?=some (.cells [.str k,.int .u64 n,.str v,.sl kk (ks.map eS)]):=hx.get (by rw[aP (by simp),aK rfl])
 have c1:H3[H.length+1]?=some (.cells [.str ⟨#[]⟩,.int .u64 0,.str ⟨#[]⟩,.sl .nil []]):=hx.get (aK (by simp))
 have l0:=aM c0
 have l1:=aM c1
 have c2:∀x,(H3.set H.length x)[H.length+1]?=some (.cells [.str ⟨#[]⟩,.int .u64 0,.str ⟨#[]⟩,.sl .nil []]):=fun x=>by rw[bl (by omega)];exact c1
 have Bx:Ext H H3:=((Ext.rfl'.app _).app _).trans hx
 refine W.bu rfl rfl rfl ?_
 simp -implicitDefEqProofs only[P2,op,ef,cl,sq,reduceIte,j1,j2,j3,j4,j5,j6,j7,j8,j9,S1,S2,S3,h1,ha,c0,c1,c2,l0,l1,List.length_set]
 exact⟨(Bx.set (by simp) _).set (by simp) _,k',jO,rfl⟩
theorem Dh {α:Type}{enc:α→List T}{n n0:Nat}(hn:∀x,(enc x).length=n){H:af}{t:T}{l:List α}(h:iA enc n n0 H t l):bq H n t=some (l.map enc):=by
 rcases h with⟨rfl,rfl⟩|⟨b,rfl,hb,_⟩
 ·rfl
 ·have:=mX hn hb 0 l.length (by omega)
  simpa using this
theorem LW {H:af}{p:Nat}{tK tL:T}{K:List Kd}{L:List Nm}{G:Nat→Prop}(h:RC H p tK tL K L G)(hl:K.length≤8000000):W env (.call 40 [.ptr p 0]) H (fun o H'=>Ext H H'∧∃kw,gy kw K∧o=.val (.sl kw (K.map dP))):=by
 have hlen:=o7 h.mK
 refine W.bu rfl rfl rfl ?_
 simp -implicitDefEqProofs only[Pz,op,ef,cl,sq,reduceIte,j1,j2,j3,j4,j5,j6,j7,j8,j9,S1]
 refine W.mr [(0,_)] (fun (i:Nat) R H'=>At H' (fun H'=>∃kw,R 3=.sl kw ((K.take i).map dP)∧Ext H H'∧ji H.length H' kw∧gy kw (K.take i))∧R 4=.int .i64 i∧i≤K.length) (fun i=>K.length-i) 0 ⟨.i ⟨.nil,rfl,Ext.rfl',iw _ _,fun _=>rfl⟩,rfl,Nat.zero_le _⟩ ?_
 rintro i R H1⟨⟨kw,g3,dr,mQ,jO⟩,g4,hi⟩
 have dr:Ext H H1:=dr
 have h1:=h.ext dr
 by_cases al:i<K.length
 ·obtain⟨x,hx⟩:=bK al
  have hxk:=h.ko x (List.mem_of_getElem? hx)
  obtain⟨c,hc,ia,_⟩:=mA (enc:=dP) (n:=5) (fun _=>rfl) (by decide) h1.mK hx
  have fU:=av (show i<9223372036854775807 by omega)
  have r0:jn 4 (i*5+0) (some (.cells (aJ dP K)))=some [.str x.nm.1,.int .u64 x.nm.2,.str x.value,.sl x.kk (x.keys.map eS)]:=cG (enc:=dP) (n:=5) (fun _=>rfl) hx 0 4 (by decide)
  have r4:jn 1 (i*5+4) (some (.cells (aJ dP K)))=some [.int .i64 x.aZ]:=cG (enc:=dP) (n:=5) (fun _=>rfl) hx 4 1 (by decide)
  simp -implicitDefEqProofs only[ai,ah,op,ef,cl,sq,reduceIte,j1,j2,j3,j4,j5,j6,j7,j8,j9,S1,h1.hp,hlen,g4,al,aa,ia,hc,r0,r4]
  refine ae _ _ _ _ _ _ _ _ (Q2 _ _ _ _ x.keys (by omega) _) ?_
  rintro u H2⟨mN,kk',bO,hu⟩
  cases hu
  have mN:Ext H1 H2:=mN
  have bB:=all_map (enc:=dP) (n:=5) (fun _=>rfl) (K.take i)
  obtain⟨k',H5,ha,HN,cO⟩:=jJ (bytes:=72) ((K.take i).map dP) [[T.str x.nm.1,.int .u64 x.nm.2,.str x.value,.sl .arg (x.keys.map eS),.int .i64 x.aZ]] (mQ.ext mN) (by have:=(dr.trans mN).len;omega) (by simp) (ft (by simp -implicitDefEqProofs only[List.length_cons,List.length_nil,List.length_map,List.length_take];omega))
  have tF:=qb ha (by simp)
  simp -implicitDefEqProofs only[op,ef,cl,sq,reduceIte,j1,j2,j3,j4,j5,j6,j7,j8,j9,S1]at ha
  have pG:=mN.get hc
  simp -implicitDefEqProofs only[ai,ah,op,ef,cl,sq,reduceIte,j1,j2,j3,j4,j5,j6,j7,j8,j9,S1,g3,g4,bB,ha,fU,(h1.ext mN).hp,pG,r4]
  refine⟨i+1,by omega,.i ⟨k',?_,cO.ext H (Nat.le_refl _) (dr.trans mN),HN,fun h=>absurd h tF⟩,rfl,al⟩
  rw[bN hx,List.map_append]
  simp -implicitDefEqProofs only[List.map_cons,List.map_nil,dP,hxk.1];rfl
 ·have gJ:i=K.length:=by omega
  subst gJ
  rw[List.take_length]at g3 jO
  simp -implicitDefEqProofs only[ai,ah,op,ef,cl,sq,reduceIte,j1,j2,j3,j4,j5,j6,j7,j8,j9,S1,h1.hp,hlen,g3,g4,al]
  exact⟨dr,kw,jO,rfl⟩
theorem Ic {H:af}{p:Nat}{tK tL:T}{K:List Kd}{L:List Nm}{G:Nat→Prop}(h:RC H p tK tL K L G)(hl:L.length≤8000000):W env (.call 38 [.ptr p 0]) H (fun o H'=>Ext H H'∧∃kw,gy kw L∧o=.val (.sl kw (L.map eW))):=by
 obtain⟨k',H',ha,hx,jO⟩:=wG (enc:=eW) (n:=2) (bytes:=24) (fun _=>rfl) L (ft (by omega)) H
 have he:=Dh (enc:=eW) (n:=2) (fun _=>rfl) h.mL
 refine W.bu rfl rfl rfl ?_
 simp -implicitDefEqProofs only[Px,op,ef,cl,sq,reduceIte,j1,j2,j3,j4,j5,j6,j7,j8,j9,S1,h.hp,he,ha]
 exact⟨hx,k',jO,rfl⟩
theorem BM {b:Bk}{a:Ab}{F:Nat→Prop}{m:Nat}{H:af}(h:lO H b a F m)(hn:m≤8000000)(Tn:∀k n,a.l k=some n→a.has (k,n)=true):W env (.call 20 [.ptr b.s 0]) H (fun o H'=>Ext H H'∧∃k l,gy k l∧dp a l∧l.length≤m∧o=.val (.sl k ((l.map (ik a)).map eW))):=by
 obtain⟨s,sh,hi,rfl,h4,h5⟩:=h
 have hl:s.ls.length≤s.vs.length:=by
  have fh:s.ls.Nodup:=by
   have:=hi.zN
   exact(List.pairwise_map.1 this).imp fun {a b} h e=>h (by rw[e])
  have:=yE (l:=s.ls) (l':=s.vs.map (·.1)) fh fun e he=>by
   have h1:=dz hi.zN he
   have h2:=Tn e.1 e.2 h1
   rw[mem_keys]
   simpa[Ab.has,eV]using h2
  simpa using this
 refine W.use (HQ b s F H sh hi (by omega)) fun o H' ⟨hx,k,l,jO,hu,hp,LK⟩=>⟨hx,k,l,jO,⟨LK,fun x=>?_⟩,?_,?_⟩
 ·rw[hp.mem_iff,mem_keys];rfl
 ·rw[hp.length_eq,List.length_map];omega
 ·rw[hu,qD,List.map_map,List.map_map];rfl
theorem mY {α:Type}{enc:α→List T}{n n0:Nat}{H:af}{t:T}{l:List α}(h:iA enc n n0 H t l):t.cells?=some [t]:=by
 rcases h with⟨_,rfl⟩|⟨c,rfl,_⟩<;>rfl
theorem RC.Ww {H H':af}{p:Nat}{tK tL t':T}{K K':List Kd}{L:List Nm}{G:Nat→Prop}(h:RC H p tK tL K L G)(hf:a9 (fun c=>tb tK=some c) H H')(hm:iA dP 5 0 H' t' K')(hn:∀c,tb t'=some c→H.length≤c)(jO:∀x∈K',x.kk=.arg∧x.keys.length≤1024) :
  H'[p]?=some (.cells [tK,tL])∧a9 G H (H'.set p (.cells [t',tL]))∧∃G',RC (H'.set p (.cells [t',tL])) p t' tL K' L G'∧ql G G' H (H'.set p (.cells [t',tL])):=by
 have hp:=hf.get h.hp fun hc=>(h.gK _ hc).2 rfl
 have lp:=aM hp
 have lp0:=aM h.hp
 have f1:a9 (fun c=>c=p) H' (H'.set p (.cells [t',tL])):=(a9.refl (fun c=>c=p) H').set (.inl rfl) _
 have ry:∀c,tb t'=some c→c≠p:=fun c hc e=>by have:=hn c hc;omega
 refine⟨hp,(hf.mono fun c hc=>(h.gK c hc).1).set (.inl h.gp) _,fun c=>c=p∨tb t'=some c∨tb tL=some c,⟨bR lp,gE hm f1 ry,gE (gE h.mL hf fun c hc gB=>h.ne c gB hc) f1 fun c hc=>(h.gL c hc).2,.inl rfl,fun c hc=>⟨.inr (.inl hc),ry c hc⟩,fun c hc=>⟨.inr (.inr hc),(h.gL c hc).2⟩,fun c hc gB=>?_,jO⟩,fun c hc=>?_⟩
 ·have:=hn c hc;have:=aM (fT h.mL gB);omega
 ·rcases hc with rfl|hc|hc
  ·exact .inl h.gp
  ·exact .inr ⟨hn c hc,by rw[List.length_set];exact aM (fT hm hc)⟩
  ·exact .inl (h.gL c hc).1
theorem RC.ac1 {H H':af}{p:Nat}{tK tL t':T}{K:List Kd}{L L':List Nm}{G:Nat→Prop}(h:RC H p tK tL K L G)(hf:a9 (fun c=>tb tL=some c) H H')(hm:iA eW 2 0 H' t' L')(hn:∀c,tb t'=some c→H.length≤c) :
  H'[p]?=some (.cells [tK,tL])∧a9 G H (H'.set p (.cells [tK,t']))∧∃G',RC (H'.set p (.cells [tK,t'])) p tK t' K L' G'∧ql G G' H (H'.set p (.cells [tK,t'])):=by
 have hp:=hf.get h.hp fun hc=>(h.gL _ hc).2 rfl
 have lp:=aM hp
 have lp0:=aM h.hp
 have f1:a9 (fun c=>c=p) H' (H'.set p (.cells [tK,t'])):=(a9.refl (fun c=>c=p) H').set (.inl rfl) _
 have ry:∀c,tb t'=some c→c≠p:=fun c hc e=>by have:=hn c hc;omega
 refine⟨hp,(hf.mono fun c hc=>(h.gL c hc).1).set (.inl h.gp) _,fun c=>c=p∨tb tK=some c∨tb t'=some c,⟨bR lp,gE (gE h.mK hf fun c hc gB=>h.ne c hc gB) f1 fun c hc=>(h.gK c hc).2,gE hm f1 ry,.inl rfl,fun c hc=>⟨.inr (.inl hc),(h.gK c hc).2⟩,fun c hc=>⟨.inr (.inr hc),ry c hc⟩,fun c hc gB=>?_,h.ko⟩,fun c hc=>?_⟩
 ·have:=hn c gB;have:=aM (fT h.mK hc);omega
 ·rcases hc with rfl|hc|hc
  ·exact .inl h.gp
  ·exact .inl (h.gK c hc).1
  ·exact .inr ⟨hn c hc,by rw[List.length_set];exact aM (fT hm hc)⟩
def RP (H0 H:af)(p:Nat)(K:List Kd)(L:List Nm):Prop:=∃tK tL G,RC H p tK tL K L G∧a9 (fun _=>False) H0 H∧∀c,G c→H0.length≤c
theorem RP.ext {H0 H H':af}{p:Nat}{K:List Kd}{L:List Nm}(h:RP H0 H p K L)(hx:Ext H H'):RP H0 H' p K L:=by
 obtain⟨tK,tL,G,h1,h2,h3⟩:=h
 exact⟨tK,tL,G,h1.ext hx,h2.ext hx,h3⟩
end Go.Proofs.YtdcpehdijdllpaaGreat.St
end

section
namespace Go.Proofs.YtdcpehdijdllpaaGreat.St
open Go.Rmp Go.Proofs.YtdcpehdijdllpaaGreat.Ir
set_option maxRecDepth 10000
def wH (K:List Kd)(x:Kd):List Kd:=K.take (vo K x.nm)++x :: K.drop (vo K x.nm)
theorem BN {α:Type}{R:α→α→Prop}{l:List α}{i:Nat}(hs:l.Pairwise R){y z:α}(hy:l[i]?=some y)(hz:z∈l.drop i):z=y∨R y z:=by
 rw[gF hy]at hz
 rcases List.mem_cons.1 hz with h|h
 ·exact .inl h
 ·have:=hs.sublist (List.drop_sublist i l)
  rw[gF hy,List.pairwise_cons]at this
  exact .inr (this.1 z h)
theorem LX {K:List Kd}(hs:b8 K){x:Kd}(ey:x.nm∉K.map Kd.nm):b8 (wH K x):=by
 have ht:∀y∈K.take (vo K x.nm),aY y.nm x.nm=true:=fun y hy=>by
  obtain⟨j,hj,e⟩:=List.getElem_of_mem hy
  rw[List.length_take]at hj
  rw[List.getElem_take]at e
  unfold vo at hj
  have:=NM (p:=fun x':Kd=>aY x'.nm x.nm) (l:=K) (j:=j) (x:=y) (by omega) (by rw[List.getElem?_eq_getElem (by omega),e])
  exact this
 have hd:∀z∈K.drop (vo K x.nm),aY x.nm z.nm=true:=fun z hz=>by
  by_cases al:vo K x.nm<K.length
  ·obtain⟨y,hy⟩:=bK al
   have CW:=hy
   unfold vo at CW
   have h1:(fun x':Kd=>aY x'.nm x.nm) y=false:=NN (p:=fun x':Kd=>aY x'.nm x.nm) CW
   have h2:aY x.nm y.nm=true:=by
    cases e:aY x.nm y.nm with
    | true=>rfl
    | false=>exact absurd (List.mem_map.2 ⟨y,List.mem_of_getElem? hy,wC h1 e⟩) ey
   rcases BN hs hy hz with rfl|h
   ·exact h2
   ·exact iJ h2 h
  ·rw[List.drop_eq_nil_of_le (by omega)]at hz;cases hz
 refine List.pairwise_append.2 ⟨hs.sublist (List.take_sublist _ _),List.pairwise_cons.2 ⟨hd,hs.sublist (List.drop_sublist _ _)⟩,fun y hy z hz=>?_⟩
 rcases List.mem_cons.1 hz with rfl|hz
 ·exact ht y hy
 ·exact iJ (ht y hy) (hd z hz)
theorem sU {α β:Type}[DecidableEq α](A B:List (α×β))(k:α):aj (A++B) k=(aj A k).or (aj B k):=by
 induction A with
 | nil=>simp[cN]
 | cons e A ih =>
  rw[List.cons_append,bj,bj,ih]
  split<;>rfl
theorem kj {α β:Type}[DecidableEq α](A B:List (α×β))(e:α×β)(h:e.1∉A.map (·.1))(k:α):aj (A++e :: B) k=if k=e.1 then some e.2 else aj (A++B) k:=by
 rw[sU,sU,bj]
 by_cases hk:k=e.1
 ·subst hk
  rw[bS.2 h];simp
 ·simp[hk]
theorem Di {α β:Type}[DecidableEq α](A B:List (α×β))(e:α×β)(h:e.1∉(A++B).map (·.1))(k:α):aj (A++B) k=if k=e.1 then none else aj (A++e :: B) k:=by
 rw[kj _ _ _ (fun hh=>h (by rw[List.map_append];exact List.mem_append_left _ hh))]
 by_cases hk:k=e.1
 ·subst hk;rw[bS.2 h];simp
 ·simp[hk]
theorem rz (A B:List Kd):nX (A++B)=nX A++nX B:=List.map_append
theorem sV (x:Kd)(B:List Kd):nX (x :: B)=(x.nm,x.vd) :: nX B:=rfl
theorem Dj {K:List Kd}{x:Kd}(ey:x.nm∉K.map Kd.nm)(m:Nm):aj (nX (wH K x)) m=if m=x.nm then some x.vd else aj (nX K) m:=by
 rw[wH,rz,sV,kj _ _ _ (fun h=>ey (by
  rw[gD]at h
  obtain⟨y,hy,e⟩:=List.mem_map.1 h
  exact List.mem_map.2 ⟨y,List.mem_of_mem_take hy,e⟩)),←rz,List.take_append_drop]
theorem Ie (K:List Kd)(x:Kd):(wH K x).length=K.length+1:=by
 have:=Ib (fun x'=>aY x'.nm x.nm) K
 simp -implicitDefEqProofs only[wH,List.length_append,List.length_take,List.length_cons,List.length_drop,vo];omega
theorem Q3 {α:Type}{enc:α→List T}{n n0:Nat}(hn:∀x,(enc x).length=n){H:af}{t:T}{l:List α}(h:iA enc n n0 H t l){i:Nat}(hi:i≤l.length):∃t',(∀R Hx a b,(X.r a).ev R=t→(X.r b).ev R=.int .i64 i→aq R Hx (.fH n (.r a) none (some (.r b)) none)=some (t',Hx))∧∀Hx,iA enc n n0 Hx t l→bq Hx n t'=some ((l.take i).map enc):=by
 rcases h with⟨rfl,rfl⟩|⟨c,rfl,hc,_⟩
 ·have:i=0:=by simpa using hi
  subst this
  refine⟨.sl .nil [],fun R Hx a b ha hb=>?_,fun Hx _=>rfl⟩
  simp -implicitDefEqProofs only[aq,ha,fX,hb,aa]
  simp
  rfl
 ·refine⟨.aA c 0 i n,fun R Hx a b ha hb=>?_,fun Hx hx=>?_⟩
  ·simp -implicitDefEqProofs only[aq,ha,fX,hb,aa]
   rw[if_pos ⟨trivial,Nat.zero_le _,hi⟩]
   by_cases h0:0=i
   ·subst h0;rfl
   ·rw[if_neg h0];simp
  ·have:=mX hn (fT hx (c:=c) rfl) 0 i (by omega)
   simpa using this
theorem Ig {α:Type}{enc:α→List T}{n n0:Nat}(hn:∀x,(enc x).length=n){H:af}{t:T}{l:List α}(h:iA enc n n0 H t l){i:Nat}(hi:i≤l.length):∃t',(∀R Hx a b,(X.r a).ev R=t→(X.r b).ev R=.int .i64 i→aq R Hx (.fH n (.r a) (some (.r b)) none none)=some (t',Hx))∧∀Hx,iA enc n n0 Hx t l→bq Hx n t'=some ((l.drop i).map enc):=by
 rcases h with⟨rfl,rfl⟩|⟨c,rfl,hc,_⟩
 ·have:i=0:=by simpa using hi
  subst this
  refine⟨.sl .nil [],fun R Hx a b ha hb=>?_,fun Hx _=>rfl⟩
  simp -implicitDefEqProofs only[aq,ha,fX,hb,aa]
  simp
  rfl
 ·refine⟨if i=l.length then(if i=0 then .aA c 0 0 n else .sl .arg [])else .aA c (0+i*n) (l.length-i) n,fun R Hx a b ha hb=>?_,fun Hx hx=>?_⟩
  ·simp -implicitDefEqProofs only[aq,ha,fX,hb,aa]
   rw[if_pos ⟨trivial,hi,Nat.le_refl _⟩]
  ·have h1:=mX hn (fT hx (c:=c) rfl) i (l.length-i) (by omega)
   by_cases e:i=l.length
   ·rw[if_pos e]
    subst e
    by_cases e2:l.length=0
    ·rw[if_pos e2]
     have:=mX hn (fT hx (c:=c) rfl) 0 0 (by omega)
     simpa using this
    ·rw[if_neg e2];simp[bq]
   ·rw[if_neg e,Nat.zero_add,h1,List.take_of_length_le (by rw[List.length_drop];omega)]
structure Ins {α:Type}(enc:α→List T)(n bytes:Nat)(H:af)(t:T)(l:List α)(i:Nat)(t1:T)(H1:af)(ta tz:T):Prop where
 lo:∀R Hx a b,(X.r a).ev R=t→(X.r b).ev R=.int .i64 i→aq R Hx (.fH n (.r a) none (some (.r b)) none)=some (ta,Hx)
 hi:∀R Hx a b,(X.r a).ev R=t→(X.r b).ev R=.int .i64 i→aq R Hx (.fH n (.r a) (some (.r b)) none none)=some (tz,Hx)
 ea:bq H n ta=some ((l.take i).map enc)
 a1:lC H n bytes (.sl .nil []) ((l.take i).map enc)=some (t1,H1)
 m1:iA enc n 0 H1 t1 (l.take i)
 x1:Ext H H1
 b1:∀c,tb t1=some c→H.length≤c
 ez:∀Hx,iA enc n 0 Hx t l→bq Hx n tz=some ((l.drop i).map enc)
theorem Ah {α:Type}{enc:α→List T}{n bytes:Nat}(hn:∀x,(enc x).length=n){H:af}{t:T}{l:List α}(h:iA enc n 0 H t l){i:Nat}(hi:i≤l.length)(hr:∀j,j≤l.length+1→cC j bytes=true):∃t1 H1 ta tz,Ins enc n bytes H t l i t1 H1 ta tz:=by
 obtain⟨ta,lo,ea⟩:=Q3 hn h hi
 obtain⟨tz,kD,ez⟩:=Ig hn h hi
 obtain⟨t1,H1,a1,m1,f1,b1⟩:=yG hn (bytes:=bytes) (l.take i) (jy enc n 0 H) (hr _ (by simp;omega))
 exact⟨t1,H1,ta,tz,lo,kD,ea H h,a1,by simpa using m1,fS (f1.mono fun c hc=>by cases hc),fun c hc=>(b1 c hc).elim (fun h=>by cases h.1) id,ez⟩
theorem o8 {α:Type}{enc:α→List T}{n bytes:Nat}(hn:∀x,(enc x).length=n){H0 H:af}{t:T}{l:List α}(h:iA enc n 0 H t l)(hx:Ext H0 H)(hb:∀c,tb t=some c→H0.length≤c)(new:List α)(hr:cC (l.length+new.length) bytes=true) :
  ∃t' H',lC H n bytes t (new.map enc)=some (t',H')∧iA enc n 0 H' t' (l++new)∧Ext H0 H'∧∀c,tb t'=some c→H0.length≤c:=by
 obtain⟨t',H',ha,hm,hf,iB⟩:=yG hn (bytes:=bytes) new h hr
 have:=hx.len
 refine⟨t',H',ha,hm,fS ((ax (F:=fun _=>False) hx).more hf hb),fun c hc=>?_⟩
 rcases iB c hc with h|h
 ·exact hb c h.1
 ·omega
theorem Ih (n:Nat)(k k':SK)(l:List (ByteArray×ByteArray))(ks:List ByteArray)(H:af)(hl:l.length≤8000000)(En:ks.length≤8000000) :
  W env (.call 77 [.int .u64 n,.sl k (l.map eP),.sl k' (ks.map eS)]) H (fun o H'=>Ext H H'∧∃b,o=.val (.bool b)∧(b=true↔ja n l ks)):=by
 refine W.bu rfl rfl rfl ?_
 have no:¬ja n l ks→((false:Bool)=true↔ja n l ks):=fun h=>⟨fun e=>(by cases e),fun e=>absurd e h⟩
 simp -implicitDefEqProofs only[P4,op,ef,cl,sq,reduceIte,j1,j2,j3,j4,j5,j6,j7,j8,j9,S1]
 refine ae _ _ _ _ _ _ _ _ (HZ n _) ?_
 rintro u H2⟨hu,rfl⟩
 cases hu
 by_cases hn:n<65536
 ·have hd:decide (65536≤n)=false:=decide_eq_false (by omega)
  simp -implicitDefEqProofs only[op,ef,cl,sq,reduceIte,j1,j2,j3,j4,j5,j6,j7,j8,j9,S1,hd]
  exact⟨Ext.rfl',false,rfl,no fun h=>by have:=h.1;omega⟩
 have hd:decide (65536≤n)=true:=decide_eq_true (by omega)
 simp -implicitDefEqProofs only[op,ef,cl,sq,reduceIte,j1,j2,j3,j4,j5,j6,j7,j8,j9,S1,hd]
 refine ae _ _ _ _ _ _ _ _ (Ia k' ks _ (by omega)) ?_
 rintro u H2⟨hu,rfl⟩
 cases hu
 cases hg:hZ ks
 ·simp -implicitDefEqProofs only[op,ef,cl,sq,reduceIte,j1,j2,j3,j4,j5,j6,j7,j8,j9,S1]
  exact⟨Ext.rfl',false,rfl,no fun h=>by have:=db.2 h.2.1;rw[hg]at this;cases this⟩
 have Bw:=db.1 hg
 by_cases Nz:l.length<1
 ·simp -implicitDefEqProofs only[op,ef,cl,sq,reduceIte,j1,j2,j3,j4,j5,j6,j7,j8,j9,S1,List.length_map,Nz]
  exact⟨Ext.rfl',false,rfl,no fun h=>by have:=h.2.2.1;omega⟩
 simp -implicitDefEqProofs only[op,ef,cl,sq,reduceIte,j1,j2,j3,j4,j5,j6,j7,j8,j9,S1,List.length_map,Nz]
 refine W.mr [(1,_),(2,_)] (fun (i:Nat) R H'=>At H' (fun H'=>Ext H2 H')∧R 7=.int .i64 i∧i≤l.length∧∀j,j<i→my l ks j) (fun i=>l.length-i) 0 ⟨.i Ext.rfl',rfl,Nat.zero_le _,fun j hj=>by omega⟩ ?_
 rintro i R H3⟨hx,g7,hi,py⟩
 have hx:Ext H2 H3:=hx
 by_cases al:i<l.length
 ·obtain⟨p,hp⟩:=bK al
  have fU:=av (show i<9223372036854775807 by omega)
  have ip:=fj (e:=eP) (n:=2) (fun _=>rfl) (by decide) (k:=k) hp
  have bad:¬my l ks i→((false:Bool)=true↔ja n l ks):=fun hb=>no fun h=>hb (h.2.2.2 i al)
  obtain⟨H4,NB⟩:∃H4,H4=H3++[B.cells [T.str p.1,.str p.2]]:=⟨_,rfl⟩
  have mV:Ext H3 H4:=⟨_,NB⟩
  have c0:H4[H3.length]?=some (.cells [T.str p.1,.str p.2]):=by rw[NB];exact aK rfl
  have ld2:∀Hx,po Hx 2 (.cX (eP p))=some [.str p.1,.str p.2]:=fun _=>rfl
  simp -implicitDefEqProofs only[ai,ah,op,ef,cl,sq,reduceIte,j1,j2,j3,j4,j5,j6,j7,j8,j9,S1,S2,S3,List.length_map,g7,al,aa,ip,ld2]
  rw[←NB]
  refine ae _ _ _ _ _ _ _ _ (QY k' ks p.1 _ (by omega)) ?_
  rintro u H5⟨hu,rfl⟩
  cases hu
  cases hm:lE ks p.1
  ·simp -implicitDefEqProofs only[ai,ah,op,ef,cl,sq,reduceIte,j1,j2,j3,j4,j5,j6,j7,j8,j9,S1,c0]
   exact⟨hx.trans mV,false,rfl,bad fun ho=>mP.1 hm (ho p hp).2.1⟩
  by_cases a7:65535<p.2.size
  ·simp -implicitDefEqProofs only[ai,ah,op,ef,cl,sq,reduceIte,j1,j2,j3,j4,j5,j6,j7,j8,j9,S1,c0,a7]
   exact⟨hx.trans mV,false,rfl,bad fun ho=>by have:=(ho p hp).2.2;omega⟩
  have fin:(0<i→∀q,l[i-1]?=some q→strLt q.1 p.1=true)→∀j,j<i+1→my l ks j:=fun hs j hj=>by
   by_cases e:j=i
   ·subst e;intro p' tI;rw[hp]at tI;cases tI
    exact⟨hs,kd.1 hm,by omega⟩
   ·exact py j (by omega)
  by_cases mw:0<i
  ·obtain⟨q,hq⟩:=bK (l:=l) (i:=i-1) (by omega)
   have wp:=iH (show i<9223372036854775807 by omega) mw
   have iq:=fj (e:=eP) (n:=2) (fun _=>rfl) (by decide) (k:=k) hq
   cases hc:strLt q.1 p.1
   ·simp -implicitDefEqProofs only[ai,ah,op,ef,cl,sq,reduceIte,j1,j2,j3,j4,j5,j6,j7,j8,j9,S1,c0,a7,g7,mw,wp,aa,iq,eP,hc]
    exact⟨hx.trans mV,false,rfl,bad fun ho=>by have:=(ho p hp).1 mw q hq;rw[hc]at this;cases this⟩
   ·simp -implicitDefEqProofs only[ai,ah,op,ef,cl,sq,reduceIte,j1,j2,j3,j4,j5,j6,j7,j8,j9,S1,c0,a7,g7,mw,wp,aa,iq,eP,hc,fU]
    exact⟨i+1,by omega,.i (hx.trans mV),rfl,al,fin fun _ q' MP=>by rw[hq]at MP;cases MP;exact hc⟩
  ·simp -implicitDefEqProofs only[ai,ah,op,ef,cl,sq,reduceIte,j1,j2,j3,j4,j5,j6,j7,j8,j9,S1,c0,a7,g7,mw,fU]
   exact⟨i+1,by omega,.i (hx.trans mV),rfl,al,fin fun h=>absurd h mw⟩
 ·have gJ:i=l.length:=by omega
  subst gJ
  simp -implicitDefEqProofs only[ai,ah,op,ef,cl,sq,reduceIte,j1,j2,j3,j4,j5,j6,j7,j8,j9,S1,List.length_map,g7,al]
  exact⟨hx,true,rfl,⟨fun _=>⟨by omega,Bw,by omega,py⟩,fun _=>rfl⟩⟩
theorem Ii {a:Ab}{n:Nat}{l:List (ByteArray×ByteArray)}{ks:List ByteArray}{now:Int}{i:Nat}{p:ByteArray×ByteArray}(hp:l[i]?=some p)(fh:(l.map (·.1)).Nodup) :
  a.put n (l.take (i+1)) ks now=⟨fun m=>if m=(p.1,n)∧a.has m=false then some ⟨p.2,ks,if n<a.last p.1 then now else -1⟩else(a.put n (l.take i) ks now).v m,a.l⟩:=by
 refine eg (fun m=>?_) fun k=>rfl
 have ey:p.1∉(l.take i).map (·.1):=fun hh=>by
  have h2:=fh
  rw[←List.take_append_drop i l,gF hp,List.map_append,List.nodup_append]at h2
  exact h2.2.2 _ hh p.1 (by simp) rfl
 simp -implicitDefEqProofs only[BH,bN hp,sU,bj,cN]
 cases hv:a.v m with
 | some x=>simp[Ab.has,hv]
 | none =>
  have hh:a.has m=false:=by simp[Ab.has,hv]
  by_cases e:m=(p.1,n)
  ·subst e
   simp -implicitDefEqProofs only[hh,bS.2 ey];simp
  ·simp -implicitDefEqProofs only[e,false_and,if_false]
   by_cases e2:m.2=n
   ·have e3:m.1≠p.1:=fun h=>e (Prod.ext h e2)
    simp[e2,e3]
   ·simp[e2]
theorem yH {a:Ab}{n:Nat}{l:List (ByteArray×ByteArray)}{i:Nat}{p:ByteArray×ByteArray}(hp:l[i]?=some p):a.fresh n (l.take (i+1))=(a.fresh n (l.take i)||!a.has (p.1,n)):=by
 simp[Ab.fresh,bN hp,List.any_append]
theorem BO {α:Type}{l:List α}{i:Nat}{x:α}:l.take i++[x]++l.drop i=l.take i++x :: l.drop i:=by simp
structure Ij (H H':af)(p:Nat)(tL:T)(K:List Kd)(L:List Nm)(G:Nat→Prop)(n:Nat)(l:List (ByteArray×ByteArray))(ks:List ByteArray)(now:Int)(ry:T)(K':List Kd)(G':Nat→Prop):Prop where
 rc:RC H' p ry tL K' L G'
 up:b8 K'
 ab:bm K' L=(bm K L).put n l ks now
 len:K'.length≤K.length+l.length
 jL:a9 G H H'
 Q4:ql G G' H H'
theorem ql.refl (G:Nat→Prop)(H H':af):ql G G H H':=fun _ h=>.inl h
theorem Ij.ext {H H1 H2:af}{p:Nat}{tL:T}{K:List Kd}{L:List Nm}{G:Nat→Prop}{n:Nat}{l:List (ByteArray×ByteArray)}{ks:List ByteArray}{now:Int}{ry:T}{K':List Kd}{G':Nat→Prop}(h:Ij H H1 p tL K L G n l ks now ry K' G')(hx:Ext H1 H2):Ij H H2 p tL K L G n l ks now ry K' G' :=
 ⟨h.rc.ext hx,h.up,h.ab,h.len,h.jL.ext hx,fun c hc=>(h.Q4 c hc).imp id fun h=>⟨h.1,by have:=hx.len;omega⟩⟩
set_option maxHeartbeats 2000000 in
theorem Q5 {H:af}{p:Nat}{tK tL:T}{K:List Kd}{L:List Nm}{G:Nat→Prop}(h:RC H p tK tL K L G)(hs:b8 K)(n:Nat)(k k':SK)(l:List (ByteArray×ByteArray))(ks:List ByteArray)(now:Int)(hK:K.length+l.length≤8000000)(hL:L.length≤8000000)(hm:ja n l ks)(ht:ba now) :
  W env (.call 43 [.ptr p 0,.int .u64 n,.sl k (l.map eP),.sl k' (ks.map eS),.int .i64 now]) H (fun o H'=>o=.val (.bJ [.bool ((bm K L).fresh n l),.int .i64 0])∧∃ry K' G',Ij H H' p tL K L G n l ks now ry K' G'):=by
 have Bw:=hm.2.1.2.2
 have fh:=Af hm
 refine W.bu rfl rfl rfl ?_
 simp -implicitDefEqProofs only[K8,op,ef,cl,sq,reduceIte,j1,j2,j3,j4,j5,j6,j7,j8,j9,S1]
 refine ae _ _ _ _ _ _ _ _ (Ih n k k' l ks _ (by omega) (by omega)) ?_
 rintro u H1⟨dr,bb,hu,hb⟩
 cases hu
 have K3:=hb.2 hm
 subst K3
 simp -implicitDefEqProofs only[op,ef,cl,sq,reduceIte,j1,j2,j3,j4,j5,j6,j7,j8,j9,S1]
 refine ae _ _ _ _ _ _ _ _ (ru now _) ?_
 rintro u H2⟨hu,rfl⟩
 cases hu
 have zL:(decide (0≤now)&&decide (now≤1099511627776))=true:=by simp[ht.1,ht.2]
 simp -implicitDefEqProofs only[op,ef,cl,sq,reduceIte,j1,j2,j3,j4,j5,j6,j7,j8,j9,S1,zL]
 refine W.mr [(0,_),(1,_),(2,_),(3,_),(4,_)] (fun (i:Nat) R H'=>At H' (fun H'=>∃ry K' G',Ij H H' p tL K L G n (l.take i) ks now ry K' G')∧R 12=.bool ((bm K L).fresh n (l.take i))∧R 13=.int .i64 i∧i≤l.length) (fun i=>l.length-i) 0
  ⟨.i ⟨tK,K,G,h.ext dr,hs,by rw[List.take_zero,Wj],by simp,ax dr,ql.refl _ _ _⟩,rfl,rfl,Nat.zero_le _⟩ ?_
 rintro i R H3⟨⟨ry,K',G',pr⟩,LY,Wx,hi⟩
 by_cases al:i<l.length
 rotate_left
 ·have gJ:i=l.length:=by omega
  subst gJ
  rw[List.take_length]at LY pr
  simp -implicitDefEqProofs only[ai,ah,op,ef,cl,sq,reduceIte,j1,j2,j3,j4,j5,j6,j7,j8,j9,S1,List.length_map,LY,Wx,al]
  exact⟨ry,K',G',pr⟩
 obtain⟨q,hq⟩:=bK al
 have fU:=av (show i<9223372036854775807 by omega)
 have iq:=fj (e:=eP) (n:=2) (fun _=>rfl) (by decide) (k:=k) hq
 have h3:=pr.rc
 have TA:K'.length≤K.length+i:=by have:=pr.len;rw[List.length_take]at this;omega
 simp -implicitDefEqProofs only[ai,ah,op,ef,cl,sq,reduceIte,j1,j2,j3,j4,j5,j6,j7,j8,j9,S1,List.length_map,Wx,al,aa,iq,eP]
 refine ae _ _ _ _ _ _ _ _ (BL h3 pr.up (by omega) (q.1,n)) ?_
 rintro u H4⟨mV,hu⟩
 cases hu
 have mV:Ext H3 H4:=mV
 have ac2:q.1∉(l.take i).map (·.1):=fun hh=>by
  have h2:=fh
  rw[←List.take_append_drop i l,gF hq,List.map_append,List.nodup_append]at h2
  exact h2.2.2 _ hh q.1 (by simp) rfl
 have pJ:ki (K'.map Kd.nm) (q.1,n)=(bm K L).has (q.1,n):=by
  have e1:ki (K'.map Kd.nm) (q.1,n)=(bm K' L).has (q.1,n):=by
   rw[Bool.eq_iff_iff,gT,←gD,mem_keys];rfl
  rw[e1,pr.ab,rp,bS.2 ac2];simp
 rw[pJ]
 cases hh:(bm K L).has (q.1,n)
 rotate_left
 ·have hsn:(bm K L).put n (l.take (i+1)) ks now=(bm K L).put n (l.take i) ks now:=by
   rw[Ii hq fh]
   refine eg (fun m=>?_) fun _=>rfl
   simp only
   rw[if_neg]
   rintro⟨rfl,hf⟩
   rw[hh]at hf;cases hf
  have ar:=yH (a:=bm K L) (n:=n) hq
  rw[hh,Bool.not_true,Bool.or_false]at ar
  simp -implicitDefEqProofs only[ai,ah,op,ef,cl,sq,reduceIte,j1,j2,j3,j4,j5,j6,j7,j8,j9,S1,LY,Wx,fU]
  refine⟨i+1,by omega,.i ⟨ry,K',G',?_⟩,by rw[ar],rfl,al⟩
  have p4:=pr.ext mV
  exact⟨p4.rc,p4.up,by rw[p4.ab,hsn],by have:=p4.len;rw[List.length_take]at this ⊢;omega,p4.jL,p4.Q4⟩
 obtain⟨at_,MN⟩:∃at_,at_=vo K' (q.1,n):=⟨_,rfl⟩
 have ac3:at_≤K'.length:=by rw[MN];exact Ib _ _
 have h4:=h3.ext mV
 obtain⟨kk,H5,ha5,lh,bO⟩:=wG (enc:=eS) (n:=1) (bytes:=16) (fun _=>rfl) ks (qA (by omega) (by omega)) (H4++[B.cells [.str ⟨#[]⟩,.int .u64 0,.str ⟨#[]⟩,.sl .nil [],.int .i64 0]])
 have bB:=all_map (enc:=eS) (n:=1) (fun _=>rfl) ks
 have c5:H5[H4.length]?=some (.cells [.str ⟨#[]⟩,.int .u64 0,.str ⟨#[]⟩,.sl .nil [],.int .i64 0]):=lh.get (aK rfl)
 have l5:=aM c5
 have ac5:Ext H4 H5:=(Ext.rfl'.app _).trans lh
 rw[←MN]
 simp -implicitDefEqProofs only[ai,ah,op,ef,cl,sq,reduceIte,j1,j2,j3,j4,j5,j6,j7,j8,j9,S1,S2,S3,Wx,aa,iq,eP,bB,ha5,c5,l5]
 obtain⟨H6,Dd⟩:∃H6,H6=H5.set H4.length (B.cells [.str q.1,.int .u64 n,.str q.2,.sl kk (ks.map eS),.int .i64 (-1)]):=⟨_,rfl⟩
 have Q6:Ext H4 H6:=by rw[Dd];exact ac5.set (Nat.le_refl _) _
 have c6:H6[H4.length]?=some (.cells [.str q.1,.int .u64 n,.str q.2,.sl kk (ks.map eS),.int .i64 (-1)]):=by rw[Dd];exact bR l5
 rw[←Dd]
 refine ae _ _ _ _ _ _ _ _ (rv (h4.ext Q6) hL q.1) ?_
 rintro u H7⟨hu,rfl⟩
 cases hu
 have eQ:(bm K' L).last q.1=(bm K L).last q.1:=rfl
 rw[eQ]
 simp -implicitDefEqProofs only[ai,ah,op,ef,cl,sq,reduceIte,j1,j2,j3,j4,j5,j6,j7,j8,j9,S1]
 refine CS [(0,_),(1,_),(2,_),(3,_),(4,_),(12,_),(13,_),(14,_),(16,_)] (fun R' H'=>At H' (fun H'=>Ext H4 H'∧H'[H4.length]?=some (.cells [.str q.1,.int .u64 n,.str q.2,.sl kk (ks.map eS),.int .i64 (if n<(bm K L).last q.1 then now else -1)]))) ?_ ?_
 ·have l6:=aM c6
  by_cases DJ:n<(bm K L).last q.1
  ·simp -implicitDefEqProofs only[ai,ah,op,ef,cl,sq,reduceIte,j1,j2,j3,j4,j5,j6,j7,j8,j9,S1,DJ,c6,l6,Bn]
   exact .i ⟨Q6.set (Nat.le_refl _) _,bR l6⟩
  ·simp -implicitDefEqProofs only[ai,ah,op,ef,cl,sq,reduceIte,j1,j2,j3,j4,j5,j6,j7,j8,j9,S1,DJ,Bn]
   exact .i ⟨Q6,c6⟩
 rintro R' H8⟨qO,c8⟩
 have qO:Ext H4 H8:=qO
 have h8:=h4.ext qO
 obtain⟨t1,H9,ta,tz,I⟩:=Ah (enc:=dP) (n:=5) (bytes:=72) (fun _=>rfl) h8.mK ac3 (fun j hj=>ft (by omega))
 obtain⟨x,hx⟩:∃x:Kd,x=⟨q.1,n,q.2,.arg,ks,if n<(bm K L).last q.1 then now else -1⟩:=⟨_,rfl⟩
 have cV:(K'.take at_).length=at_:=by rw[List.length_take];omega
 obtain⟨t2,vq,a2,m2,x2,b2⟩:=o8 (enc:=dP) (n:=5) (bytes:=72) (fun _=>rfl) I.m1 I.x1 I.b1 [x] (ft (by rw[cV,List.length_singleton];omega))
 obtain⟨t3,Ai,a3,m3,x3,b3⟩:=o8 (enc:=dP) (n:=5) (bytes:=72) (fun _=>rfl) m2 x2 b2 (K'.drop at_) (ft (by rw[List.length_append,cV,List.length_singleton,List.length_drop];omega))
 have e2:=(h8.ext x2).hp
 have ez:=I.ez vq (h8.ext x2).mK
 have c9:=I.x1.get c8
 rw[BO]at m3
 have mo:Ext H3 H8:=mV.trans qO
 obtain⟨Ik,NO,G2,Wy,Wz⟩:=h3.Ww (ax (mo.trans x3)) m3 (fun c hc=>by have:=b3 c hc;have:=mo.len;omega) (fun y hy=>by
  have hy:y∈K'.take at_++x :: K'.drop at_:=hy
  rcases List.mem_append.1 hy with hy|hy
  ·exact h3.ko y (List.mem_of_mem_take hy)
  ·rcases List.mem_cons.1 hy with hy|hy
   ·rw[hy,hx];exact⟨rfl,Bw⟩
   ·exact h3.ko y (List.mem_of_mem_drop hy))
 have l11:=aM Ik
 have wy:K'.take at_++x :: K'.drop at_=wH K' x:=by rw[wH,MN,hx];rfl
 have hnm:x.nm=(q.1,n):=by rw[hx];rfl
 have Wu:x.vd=⟨q.2,ks,if n<(bm K L).last q.1 then now else -1⟩:=by rw[hx];rfl
 have ey:x.nm∉K'.map Kd.nm:=fun hh2=>by
  rw[hnm,←gT,pJ,hh]at hh2;cases hh2
 have fG:bm (wH K' x) L=(bm K L).put n (l.take (i+1)) ks now:=by
  rw[Ii hq fh]
  refine eg (fun m=>?_) fun _=>rfl
  have e1:(bm K' L).v m=((bm K L).put n (l.take i) ks now).v m:=by rw[pr.ab]
  show aj (nX (wH K' x)) m=_
  rw[Dj ey,hnm,Wu]
  simp only
  rw[←e1]
  by_cases e:m=(q.1,n)
  ·subst e;simp -implicitDefEqProofs only[hh,if_true,and_self]
  ·simp -implicitDefEqProofs only[e,if_false,false_and];rfl
 have hlen:=Ie K' x
 have Dk:xd (.sl .nil [])=.sl .nil []:=rfl
 rw[wy]at Wy
 have ar:=yH (a:=bm K L) (n:=n) hq
 rw[hh,Bool.not_false,Bool.or_true]at ar
 simp -implicitDefEqProofs only[hx,dP,List.map_cons,List.map_nil]at a2
 simp -implicitDefEqProofs only[ai,ah,op,ef,cl,sq,reduceIte,j1,j2,j3,j4,j5,j6,j7,j8,j9,S1,Wx,h8.hp,↓I.lo,I.ea,Dk,I.a1,c9,lj I.m1,a2,e2,↓I.hi,ez,lj m2,a3,Ik,l11,mY m3,fU]
 exact⟨i+1,by omega,.i ⟨t3,_,G2,Wy,LX pr.up ey,fG,by rw[hlen,List.length_take];have:=pr.len;rw[List.length_take]at this;omega,pr.jL.trans NO fun c hc=>by
  rcases pr.Q4 c hc with h|h
  ·exact .inl h
  ·exact .inr h.1,pr.Q4.trans Wz pr.jL.1 NO.1⟩,by rw[ar],rfl,al⟩
theorem Q7 {p:Nat}(n:Nat)(k k':SK)(l:List (ByteArray×ByteArray))(ks:List ByteArray)(now:Int){H:af}(hl:l.length≤8000000)(En:ks.length≤8000000)(hm:¬(ja n l ks∧ba now)) :
  W env (.call 43 [.ptr p 0,.int .u64 n,.sl k (l.map eP),.sl k' (ks.map eS),.int .i64 now]) H (fun o H'=>o=.val (.bJ [.bool false,.int .i64 1])∧Ext H H'):=by
 refine W.bu rfl rfl rfl ?_
 simp -implicitDefEqProofs only[K8,op,ef,cl,sq,reduceIte,j1,j2,j3,j4,j5,j6,j7,j8,j9,S1]
 refine ae _ _ _ _ _ _ _ _ (Ih n k k' l ks _ hl En) ?_
 rintro u H1⟨dr,bb,hu,hb⟩
 cases hu
 cases bb
 ·simp -implicitDefEqProofs only[op,ef,cl,sq,reduceIte,j1,j2,j3,j4,j5,j6,j7,j8,j9,S1];exact dr
 ·simp -implicitDefEqProofs only[op,ef,cl,sq,reduceIte,j1,j2,j3,j4,j5,j6,j7,j8,j9,S1]
  refine ae _ _ _ _ _ _ _ _ (ru now _) ?_
  rintro u H2⟨hu,rfl⟩
  cases hu
  have hf:(decide (0≤now)&&decide (now≤1099511627776))=false:=by
   rw[Bool.and_eq_false_iff,decide_eq_false_iff_not,decide_eq_false_iff_not]
   have:¬ba now:=fun h=>hm ⟨hb.1 rfl,h⟩
   unfold ba at this;omega
  simp -implicitDefEqProofs only[op,ef,cl,sq,reduceIte,j1,j2,j3,j4,j5,j6,j7,j8,j9,S1,hf]
  exact dr
theorem Q8 {α:Type}{lt:α→α→Bool}(tr:∀{a b c},lt a b=true→lt b c=true→lt a c=true){l:List α}(hs:l.Pairwise (fun a b=>lt a b=true)){x:α}(hd:∀y∈l,lt y x=false→lt x y=true){i:Nat}(h1:∀j y,j<i→l[j]?=some y→lt y x=true)(h2:∀y,l[i]?=some y→lt y x=false) :
  (l.take i++x :: l.drop i).Pairwise (fun a b=>lt a b=true):=by
 have ht:∀y∈l.take i,lt y x=true:=fun y hy=>by
  obtain⟨j,hj,e⟩:=List.getElem_of_mem hy
  rw[List.length_take]at hj
  rw[List.getElem_take]at e
  exact h1 j y (by omega) (by rw[List.getElem?_eq_getElem (by omega),e])
 have DL:∀z∈l.drop i,lt x z=true:=fun z hz=>by
  by_cases al:i<l.length
  ·obtain⟨y,hy⟩:=bK al
   have h3:=hd y (List.mem_of_getElem? hy) (h2 y hy)
   rcases BN hs hy hz with rfl|h
   ·exact h3
   ·exact tr h3 h
  ·rw[List.drop_eq_nil_of_le (by omega)]at hz;cases hz
 refine List.pairwise_append.2 ⟨hs.sublist (List.take_sublist _ _),List.pairwise_cons.2 ⟨DL,hs.sublist (List.drop_sublist _ _)⟩,fun y hy z hz=>?_⟩
 rcases List.mem_cons.1 hz with rfl|hz
 ·exact ht y hy
 ·exact tr (ht y hy) (DL z hz)
theorem Q9 {l:List Nm}(hs:dk l){i:Nat}{x:Nm}(hx:l[i]?=some x)(n:Nat):dk (l.set i (x.1,n)):=by
 have e:(l.set i (x.1,n)).map (·.1)=l.map (·.1):=by
  rw[List.map_set]
  refine List.ext_getElem? fun j=>?_
  rw[List.getElem?_set]
  split
  ·rename_i hj;subst hj
   rw[List.getElem?_map,hx];simp
   have:=(List.getElem?_eq_some_iff.1 hx).1
   omega
  ·rfl
 have h1:(l.map (·.1)).Pairwise (fun a b=>strLt a b=true):=List.pairwise_map.2 hs
 rw[←e]at h1
 exact List.pairwise_map.1 h1
theorem Il {l:List Nm}(hs:dk l){i:Nat}{x:Nm}(hx:l[i]?=some x)(n:Nat)(k:ByteArray):aj (l.set i (x.1,n)) k=if k=x.1 then some n else aj l k:=by
 have hi:=(List.getElem?_eq_some_iff.1 hx).1
 have e:l.set i (x.1,n)=l.take i++(x.1,n) :: l.drop (i+1):=by rw[List.set_eq_take_append_cons_drop,if_pos hi]
 have e0:l=l.take i++x :: l.drop (i+1):=by rw[←gF hx,List.take_append_drop]
 have ey:x.1∉(l.take i).map (·.1):=fun hh=>by
  have h2:=hs.nd
  rw[e0,List.map_append,List.nodup_append]at h2
  exact h2.2.2 _ hh x.1 (by simp) rfl
 have h3:aj l k=if k=x.1 then some x.2 else aj (l.take i++l.drop (i+1)) k:=by
  conv=>lhs;rw[e0]
  exact kj _ _ _ ey k
 rw[e,kj (l.take i) (l.drop (i+1)) (x.1,n) ey,h3]
 by_cases hk:k=x.1
 ·simp[hk]
 ·simp[hk]
theorem RC.wrL {H:af}{p c:Nat}{tK tL:T}{K:List Kd}{L L':List Nm}{G:Nat→Prop}(h:RC H p tK tL K L G)(hc:tb tL=some c)(hl:L'.length=L.length):RC (H.set c (.cells (aJ eW L'))) p tK tL K L' G∧a9 G H (H.set c (.cells (aJ eW L'))):=by
 have f:a9 (fun d=>d=c) H (H.set c (.cells (aJ eW L'))):=(a9.refl (fun d=>d=c) H).set (.inl rfl) _
 have hb:=fT h.mL hc
 refine⟨⟨f.get h.hp fun e=>(h.gL c hc).2 e.symm,gE h.mK f fun d hd e=>h.ne d hd (e▸hc),?_,h.gp,h.gK,h.gL,h.ne,h.ko⟩,f.mono fun d e=>e▸(h.gL c hc).1⟩
 rcases h.mL with⟨_,e⟩|⟨c',e,iB,h0⟩
 ·rw[e]at hc;cases hc
 ·rw[e]at hc;cases hc
  exact .inr ⟨c,by rw[e,hl],bR (aM iB),h0⟩
theorem RC.wrK {H:af}{p c:Nat}{tK tL:T}{K K':List Kd}{L:List Nm}{G:Nat→Prop}(h:RC H p tK tL K L G)(hc:tb tK=some c)(hl:K'.length=K.length)(jO:∀x∈K',x.kk=.arg∧x.keys.length≤1024):RC (H.set c (.cells (aJ dP K'))) p tK tL K' L G∧a9 G H (H.set c (.cells (aJ dP K'))):=by
 have f:a9 (fun d=>d=c) H (H.set c (.cells (aJ dP K'))):=(a9.refl (fun d=>d=c) H).set (.inl rfl) _
 have hb:=fT h.mK hc
 refine⟨⟨f.get h.hp fun e=>(h.gK c hc).2 e.symm,?_,gE h.mL f fun d hd e=>h.ne c hc (e▸hd),h.gp,h.gK,h.gL,h.ne,jO⟩,f.mono fun d e=>e▸(h.gK c hc).1⟩
 rcases h.mK with⟨_,e⟩|⟨c',e,iB,h0⟩
 ·rw[e]at hc;cases hc
 ·rw[e]at hc;cases hc
  exact .inr ⟨c,by rw[e,hl],bR (aM iB),h0⟩
structure WA (H H':af)(p:Nat)(tK:T)(K:List Kd)(L:List Nm)(G:Nat→Prop)(k:ByteArray)(n:Nat)(sW:T)(L':List Nm)(G':Nat→Prop):Prop where
 rc:RC H' p tK sW K L' G'
 up:dk L'
 look:∀k',aj L' k'=if k'=k then some n else aj L k'
 len:L'.length≤L.length+1
 jL:a9 G H H'
 Q4:ql G G' H H'
set_option maxHeartbeats 1000000 in
theorem LZ {H:af}{p:Nat}{tK tL:T}{K:List Kd}{L:List Nm}{G:Nat→Prop}(h:RC H p tK tL K L G)(hs:dk L)(hL:L.length<8000000)(k:ByteArray)(n:Nat) :
  W env (.call 82 [.ptr p 0,.str k,.int .u64 n]) H (fun o H'=>o=.val (.bJ [])∧∃sW L' G',WA H H' p tK K L G k n sW L' G'):=by
 have hlen:=o7 h.mL
 have lp:=aM h.hp
 have r0:∀{i:Nat} {x:Nm},L[i]?=some x→jn 1 (i*2+0) (some (.cells (aJ eW L)))=some [.str x.1]:=fun hx=>cG (enc:=eW) (n:=2) (fun _=>rfl) hx 0 1 (by decide)
 refine W.bu rfl rfl rfl ?_
 simp -implicitDefEqProofs only[P9,op,ef,cl,sq,reduceIte,j1,j2,j3,j4,j5,j6,j7,j8,j9,S1]
 refine W.eA 0 [(0,_),(1,_),(2,_)] (fun (i:Nat) R H'=>H'=H∧R 6=.int .i64 i∧i≤L.length∧∀j x,j<i→L[j]?=some x→strLt x.1 k=true) (fun i=>L.length-i) 0
  (fun R H'=>H'=H∧∃i:Nat,R 6=.int .i64 i∧i≤L.length∧(∀j x,j<i→L[j]?=some x→strLt x.1 k=true)∧∀x,L[i]?=some x→strLt x.1 k=false) ⟨rfl,rfl,Nat.zero_le _,fun j x hj=>by omega⟩ ?_ ?_
 ·rintro i R H1⟨rfl,g6,hi,bB⟩
  by_cases al:i<L.length
  ·obtain⟨x,hx⟩:=bK al
   obtain⟨c,hc,ia,_⟩:=mA (enc:=eW) (n:=2) (fun _=>rfl) (by decide) h.mL hx
   have fU:=av (show i<9223372036854775807 by omega)
   cases ke:strLt x.1 k
   ·simp -implicitDefEqProofs only[ai,ah,op,ef,cl,sq,reduceIte,j1,j2,j3,j4,j5,j6,j7,j8,j9,S1,h.hp,hlen,g6,al,aa,ia,hc,r0 hx,ke]
    exact⟨i,rfl,hi,bB,fun y hy=>by rw[hx]at hy;cases hy;exact ke⟩
   ·simp -implicitDefEqProofs only[ai,ah,op,ef,cl,sq,reduceIte,j1,j2,j3,j4,j5,j6,j7,j8,j9,S1,h.hp,hlen,g6,al,aa,ia,hc,r0 hx,ke,fU]
    refine⟨i+1,by omega,rfl,al,fun j y hj hy=>?_⟩
    by_cases e:j=i
    ·subst e;rw[hx]at hy;cases hy;exact ke
    ·exact bB j y (by omega) hy
  ·simp -implicitDefEqProofs only[ai,ah,op,ef,cl,sq,reduceIte,j1,j2,j3,j4,j5,j6,j7,j8,j9,S1,h.hp,hlen,g6,al]
   exact⟨i,rfl,hi,bB,fun y hy=>by have:=(List.getElem?_eq_some_iff.1 hy).1;omega⟩
 rintro R H1⟨rfl,i,g6,hi,bB,dJ⟩
 by_cases iP:∃x,L[i]?=some x∧x.1=k
 ·obtain⟨x,hx,rfl⟩:=iP
  have al:=(List.getElem?_eq_some_iff.1 hx).1
  obtain⟨c,hc,ia,_⟩:=mA (enc:=eW) (n:=2) (fun _=>rfl) (by decide) h.mL hx
  have cO:=jx (enc:=eW) (n:=2) (y:=(x.1,n)) (fun _=>rfl) hx H1 c [.int .u64 n] 1 (by simp) rfl
  have Ss:=NL h.mL hx ia (by decide)
  obtain⟨rc,fr⟩:=h.wrL (L':=L.set i (x.1,n)) Ss (by simp)
  simp -implicitDefEqProofs only[ai,ah,op,ef,cl,sq,reduceIte,j1,j2,j3,j4,j5,j6,j7,j8,j9,S1,h.hp,hlen,g6,al,aa,ia,hc,r0 hx,cO]
  exact⟨rfl,tL,_,G,rc,Q9 hs hx n,Il hs hx n,by simp,fr,ql.refl _ _ _⟩
 ·have ey:∀x,L[i]?=some x→x.1≠k:=fun x hx e=>iP ⟨x,hx,e⟩
  obtain⟨t1,H2,ta,tz,I⟩:=Ah (enc:=eW) (n:=2) (bytes:=24) (fun _=>rfl) h.mL hi (fun j hj=>ft (by omega))
  have cV:(L.take i).length=i:=by rw[List.length_take];omega
  obtain⟨t2,H3,a2,m2,x2,b2⟩:=o8 (enc:=eW) (n:=2) (bytes:=24) (fun _=>rfl) I.m1 I.x1 I.b1 [(k,n)] (ft (by rw[cV,List.length_singleton];omega))
  obtain⟨t3,H4,a3,m3,x3,b3⟩:=o8 (enc:=eW) (n:=2) (bytes:=24) (fun _=>rfl) m2 x2 b2 (L.drop i) (ft (by rw[List.length_append,cV,List.length_singleton,List.length_drop];omega))
  have e2:=(h.ext x2).hp
  have ez:=I.ez H3 (h.ext x2).mL
  rw[BO]at m3
  obtain⟨mT,Ra,G2,rc4,Rb⟩:=h.ac1 (ax x3) m3 b3
  have l4:=aM mT
  have Dk:xd (.sl .nil [])=.sl .nil []:=rfl
  simp -implicitDefEqProofs only[eW,List.map_cons,List.map_nil]at a2
  have ac7:k∉(L.take i).map (·.1):=fun hh=>by
   obtain⟨y,hy,e⟩:=List.mem_map.1 hh
   obtain⟨j,hj,e2⟩:=List.getElem_of_mem hy
   rw[List.length_take]at hj
   rw[List.getElem_take]at e2
   have:=bB j y (by omega) (by rw[List.getElem?_eq_getElem (by omega),e2])
   rw[e,dY]at this;cases this
  have fin:∃sW L' G',WA H1 (H4.set p (.cells [tK,t3])) p tK K L G k n sW L' G':=by
   refine⟨t3,_,G2,rc4,?_,fun k'=>?_,?_,Ra,Rb⟩
   ·refine Q8 (lt:=fun a b:Nm=>strLt a.1 b.1) (fun h1 h2=>dS h1 h2) hs (x:=(k,n)) (fun y hy hf=>?_) bB dJ
    cases e:strLt k y.1 with
    | true=>rfl
    | false =>
     exfalso
     have e3:=pZ hf e
     by_cases al:i<L.length
     ·obtain⟨x,hx⟩:=bK al
      obtain⟨j,hj,ej⟩:=List.getElem_of_mem hy
      have hyj:L[j]?=some y:=by rw[List.getElem?_eq_getElem hj,ej]
      by_cases c1:j<i
      ·have:=bB j y c1 hyj;rw[e3,dY]at this;cases this
      ·by_cases c2:j=i
       ·subst c2;exact ey y hyj e3
       ·have h1:=List.pairwise_iff_getElem.1 hs i j al hj (by omega)
        rw[ej,(List.getElem?_eq_some_iff.1 hx).2]at h1
        have h2:=dJ x hx
        rw[e3]at h1;rw[h1]at h2;cases h2
     ·obtain⟨j,hj,ej⟩:=List.getElem_of_mem hy
      have:=bB j y (by omega) (by rw[List.getElem?_eq_getElem hj,ej])
      rw[e3,dY]at this;cases this
   ·have:=kj (L.take i) (L.drop i) (k,n) ac7 k'
    rw[List.take_append_drop]at this
    exact this
   ·simp -implicitDefEqProofs only[List.length_append,List.length_take,List.length_cons,List.length_drop];omega
  by_cases al:i<L.length
  ·obtain⟨x,hx⟩:=bK al
   obtain⟨c,hc,ia,_⟩:=mA (enc:=eW) (n:=2) (fun _=>rfl) (by decide) h.mL hx
   have bQ:=ey x hx
   simp -implicitDefEqProofs only[ai,ah,op,ef,cl,sq,reduceIte,j1,j2,j3,j4,j5,j6,j7,j8,j9,S1,h.hp,hlen,g6,al,aa,ia,hc,r0 hx,bQ,↓I.lo,I.ea,Dk,I.a1,lj I.m1,a2,e2,↓I.hi,ez,lj m2,a3,mT,l4,mY m3]
   exact⟨rfl,fin⟩
  ·simp -implicitDefEqProofs only[ai,ah,op,ef,cl,sq,reduceIte,j1,j2,j3,j4,j5,j6,j7,j8,j9,S1,h.hp,hlen,g6,al,aa,↓I.lo,I.ea,Dk,I.a1,lj I.m1,a2,e2,↓I.hi,ez,lj m2,a3,mT,l4,mY m3]
   exact⟨rfl,fin⟩
def yI (K:List Kd)(n:Nat):Nat:=(K.filter fun x=>decide (x.id=n)).length
theorem Rc {K:List Kd}{i n:Nat}{x:Kd}(hx:K[i]?=some x):yI (K.take (i+1)) n=yI (K.take i) n+if x.id=n then 1 else 0:=by
 unfold yI
 rw[bN hx,List.filter_append,List.length_append]
 by_cases e:x.id=n<;>simp[e]
theorem Re (K:List Kd)(n:Nat):yI K n≤K.length:=List.length_filter_le _ _
def Im (last:ByteArray→Nat)(now:Int)(x:Kd):Kd:=if x.aZ=-1∧x.id<last x.key then { x with aZ:=now } else x
theorem Aj (last:ByteArray→Nat)(now:Int)(x:Kd):(Im last now x).nm=x.nm:=by unfold Im;split<;>rfl
theorem Rf (last:ByteArray→Nat)(now:Int)(x:Kd)(h:x.kk=.arg∧x.keys.length≤1024):(Im last now x).kk=.arg∧(Im last now x).keys.length≤1024:=by unfold Im;split<;>exact h
theorem Rg {K:List Kd}(h:b8 K)(last:ByteArray→Nat)(now:Int):b8 (K.map (Im last now)):=List.pairwise_map.2 (h.imp fun {a b} fG=>by rw[Aj,Aj];exact fG)
theorem yJ {K:List Kd}(hs:b8 K)(f:Kd→Kd)(hf:∀x,(f x).nm=x.nm)(m:Nm):aj (nX (K.map f)) m=(K.find? fun x=>decide (x.nm=m)).map fun x=>(f x).vd:=by
 induction K with
 | nil=>rfl
 | cons x K ih =>
  unfold b8 at hs
  rw[List.pairwise_cons]at hs
  rw[List.map_cons,sV,bj,hf,List.find?_cons,ih hs.2]
  by_cases e:m=x.nm
  ·subst e;simp
  ·have e2:¬x.nm=m:=fun h=>e h.symm
   simp[e,e2]
theorem Dl {K:List Kd}(hs:b8 K)(m:Nm):aj (nX K) m=(K.find? fun x=>decide (x.nm=m)).map Kd.vd:=by
 have:=yJ hs id (fun _=>rfl) m
 rwa[List.map_id]at this
set_option maxHeartbeats 2000000 in
theorem Dm {H:af}{p:Nat}{tK tL:T}{K:List Kd}{L:List Nm}{G:Nat→Prop}(h:RC H p tK tL K L G)(hs:b8 K)(hl:dk L)(hS:HU (bm K L))(hK:K.length≤3000000)(hL:L.length≤3000000)(n:Nat)(now:Int)(Qn:65536≤n)(ht:ba now) :
  W env (.call 44 [.ptr p 0,.int .u64 n,.int .i64 now]) H (fun o H'=>o=.val (.bJ [.int .i64 (yI K n),.int .i64 0])∧∃sW K' L' G',RC H' p tK sW K' L' G'∧b8 K'∧dk L'∧bm K' L'=(bm K L).mB n now∧K'.length=K.length∧a9 G H H'∧ql G G' H H'):=by
 have hlen:=o7 h.mK
 have ac8:∀k,ki (K.map Kd.nm) (k,n)=(bm K L).has (k,n):=fun k=>by
  rw[Bool.eq_iff_iff,gT,←gD,mem_keys];rfl
 refine W.bu rfl rfl rfl ?_
 simp -implicitDefEqProofs only[K9,op,ef,cl,sq,reduceIte,j1,j2,j3,j4,j5,j6,j7,j8,j9,S1]
 refine ae _ _ _ _ _ _ _ _ (HZ n _) ?_
 rintro u H1⟨hu,rfl⟩
 cases hu
 have hd:decide (65536≤n)=true:=decide_eq_true Qn
 simp -implicitDefEqProofs only[op,ef,cl,sq,reduceIte,j1,j2,j3,j4,j5,j6,j7,j8,j9,S1,hd]
 refine ae _ _ _ _ _ _ _ _ (ru now _) ?_
 rintro u H1⟨hu,rfl⟩
 cases hu
 have zL:(decide (0≤now)&&decide (now≤1099511627776))=true:=by simp[ht.1,ht.2]
 simp -implicitDefEqProofs only[op,ef,cl,sq,reduceIte,j1,j2,j3,j4,j5,j6,j7,j8,j9,S1,zL]
 refine W.eA 0 [(0,_),(1,_),(2,_)] (fun (i:Nat) R H'=>At H' (fun H'=>∃sW L' G',RC H' p tK sW K L' G'∧dk L'∧L'.length≤L.length+i∧(∀k,aj L' k=if ki ((K.take i).map Kd.nm) (k,n)=true∧(bm K L).last k<n then some n else aj L k)∧a9 G H1 H'∧ql G G' H1 H')∧R 8=.int .i64 (yI (K.take i) n)∧R 9=.int .i64 i∧i≤K.length) (fun i=>K.length-i) 0
  (fun R H'=>At H' (fun H'=>∃sW L' G',RC H' p tK sW K L' G'∧dk L'∧L'.length≤L.length+K.length∧(∀k,aj L' k=((bm K L).mB n now).l k)∧a9 G H1 H'∧ql G G' H1 H')∧R 8=.int .i64 (yI K n)) ⟨.i ⟨tL,L,G,h,hl,by omega,fun k=>by simp[ki],a9.refl _ _,ql.refl _ _ _⟩,rfl,rfl,Nat.zero_le _⟩ ?_ ?_
 ·rintro i R H2⟨⟨sW,L',G',h2,DJ,DI,oH,f2,g2⟩,g8,g9,hi⟩
  by_cases al:i<K.length
  rotate_left
  ·have gJ:i=K.length:=by omega
   subst gJ
   rw[List.take_length]at g8 oH
   simp -implicitDefEqProofs only[ai,ah,op,ef,cl,sq,reduceIte,j1,j2,j3,j4,j5,j6,j7,j8,j9,S1,h2.hp,hlen,g8,g9,al]
   refine⟨sW,L',G',h2,DJ,DI,fun k=>?_,f2,g2⟩
   rw[oH,ac8];rfl
  obtain⟨x,hx⟩:=bK al
  obtain⟨c,hc,ia,_⟩:=mA (enc:=dP) (n:=5) (fun _=>rfl) (by decide) h2.mK hx
  have fU:=av (show i<9223372036854775807 by omega)
  have lN:=Re (K.take i) n
  rw[List.length_take]at lN
  have wsc:=av (show yI (K.take i) n<9223372036854775807 by omega)
  have r0:jn 4 (i*5+0) (some (.cells (aJ dP K)))=some [.str x.key,.int .u64 x.id,.str x.value,.sl x.kk (x.keys.map eS)]:=cG (enc:=dP) (n:=5) (fun _=>rfl) hx 0 4 (by decide)
  have MM:=Rc (n:=n) hx
  obtain⟨H3,qB⟩:∃H3,H3=H2++[B.cells [T.str x.key,.int .u64 x.id,.str x.value,.sl x.kk (x.keys.map eS)]]:=⟨_,rfl⟩
  have mo:Ext H2 H3:=⟨_,qB⟩
  have c0:H3[H2.length]?=some (.cells [T.str x.key,.int .u64 x.id,.str x.value,.sl x.kk (x.keys.map eS)]):=by rw[qB];exact aK rfl
  have h3:=h2.ext mo
  have Ip:∀k,ki ((K.take (i+1)).map Kd.nm) (k,n)=(ki ((K.take i).map Kd.nm) (k,n)||decide (x.nm=(k,n))):=fun k=>by
   rw[bN hx];simp[ki,List.any_append]
  by_cases WB:x.id=n
  rotate_left
  ·have hm:∀k,decide (x.nm=(k,n))=false:=fun k=>decide_eq_false fun e=>WB (congrArg Prod.snd e)
   rw[if_neg WB]at MM
   simp -implicitDefEqProofs only[ai,ah,op,ef,cl,sq,reduceIte,j1,j2,j3,j4,j5,j6,j7,j8,j9,S1,S2,S3,h2.hp,hlen,g8,g9,al,aa,ia,hc,r0,WB,fU]
   rw[←qB]
   exact⟨i+1,by omega,.i ⟨sW,L',G',h3,DJ,by omega,fun k=>by rw[oH,Ip,hm,Bool.or_false],f2.ext mo,fun c hc=>(g2 c hc).imp id fun h=>⟨h.1,by have:=mo.len;omega⟩⟩,by rw[MM];rfl,rfl,al⟩
  rw[if_pos WB]at MM
  subst WB
  simp -implicitDefEqProofs only[ai,ah,op,ef,cl,sq,reduceIte,j1,j2,j3,j4,j5,j6,j7,j8,j9,S1,S2,S3,h2.hp,hlen,g8,g9,al,aa,ia,hc,r0,wsc]
  rw[←qB]
  have hni:ki ((K.take i).map Kd.nm) x.nm=false:=LP fun hh=>by
   have h4:=hs.nd
   rw[←List.take_append_drop i K,gF hx,List.map_append,List.nodup_append]at h4
   exact h4.2.2 _ hh x.nm (by simp) rfl
  have exn:x.nm=(x.key,x.id):=rfl
  rw[exn]at hni
  have hla:(bm K L').last x.key=(bm K L).last x.key:=by
   show(aj L' x.key).getD 0=(aj L x.key).getD 0
   rw[oH,hni];simp
  refine ae _ _ _ _ _ _ _ _ (rv h3 (by omega) x.key) ?_
  rintro u H4⟨hu,rfl⟩
  cases hu
  rw[hla]
  have bO:∀k,k≠x.key→decide (x.nm=(k,x.id))=false:=fun k e=>decide_eq_false fun e2=>e (congrArg Prod.fst e2).symm
  have hkx:decide (x.nm=(x.key,x.id))=true:=decide_eq_true rfl
  by_cases Rh:(bm K L).last x.key<x.id
  ·simp -implicitDefEqProofs only[ai,ah,op,ef,cl,sq,reduceIte,j1,j2,j3,j4,j5,j6,j7,j8,j9,S1,Rh,c0]
   refine ae _ _ _ _ _ _ _ _ (LZ h3 DJ (by omega) x.key x.id) ?_
   rintro u H5⟨hu,tL2,L2,G2,rr⟩
   cases hu
   simp -implicitDefEqProofs only[ai,ah,op,ef,cl,sq,reduceIte,j1,j2,j3,j4,j5,j6,j7,j8,j9,S1,g9,fU]
   have f3:=f2.ext mo
   have g3:ql G G' H1 H4:=fun c hc=>(g2 c hc).imp id fun h=>⟨h.1,by have:=mo.len;omega⟩
   refine⟨i+1,by omega,.i ⟨tL2,L2,G2,rr.rc,rr.up,by have:=rr.len;omega,fun k=>?_,f3.trans rr.jL fun c hc=>(g3 c hc).imp id And.left,g3.trans rr.Q4 f3.1 rr.jL.1⟩,by rw[MM],rfl,al⟩
   rw[rr.look,oH,Ip]
   by_cases e:k=x.key
   ·subst e;simp -implicitDefEqProofs only[hkx,Bool.or_true,Rh,and_self,if_true]
   ·simp -implicitDefEqProofs only[bO k e,Bool.or_false,e,if_false]
  ·simp -implicitDefEqProofs only[ai,ah,op,ef,cl,sq,reduceIte,j1,j2,j3,j4,j5,j6,j7,j8,j9,S1,Rh,g9,fU]
   refine⟨i+1,by omega,.i ⟨sW,L',G',h3,DJ,by omega,fun k=>?_,f2.ext mo,fun c hc=>(g2 c hc).imp id fun h=>⟨h.1,by have:=mo.len;omega⟩⟩,by rw[MM],rfl,al⟩
   rw[oH,Ip]
   by_cases e:k=x.key
   ·subst e;simp -implicitDefEqProofs only[Rh,and_false,if_false]
   ·simp -implicitDefEqProofs only[bO k e,Bool.or_false]
 rintro R H2⟨⟨sW,L',G',h2,DJ,DI,oH,f2,g2⟩,g8⟩
 obtain⟨f,hf⟩:∃f,f=Im (bm K L').last now:=⟨_,rfl⟩
 have fko:∀j,∀x∈fe f K j,x.kk=.arg∧x.keys.length≤1024:=fun j x hx=>by
  rcases List.mem_append.1 hx with hx|hx
  ·obtain⟨y,hy,rfl⟩:=List.mem_map.1 hx
   rw[hf];exact Rf _ _ _ (h2.ko y (List.mem_of_mem_take hy))
  ·exact h2.ko x (List.mem_of_mem_drop hx)
 simp -implicitDefEqProofs only[ai,ah,op,ef,cl,sq,reduceIte,j1,j2,j3,j4,j5,j6,j7,j8,j9,S1]
 refine W.mr [(0,_),(2,_),(8,_)] (fun (j:Nat) R H'=>At H' (fun H'=>RC H' p tK sW (fe f K j) L' G'∧a9 G' H2 H')∧R 11=.int .i64 j∧j≤K.length) (fun j=>K.length-j) 0 ⟨.i ⟨by rw[LV];exact h2,a9.refl _ _⟩,rfl,Nat.zero_le _⟩ ?_
 rintro j R H3⟨⟨h3,f3⟩,zd,hj⟩
 by_cases al:j<K.length
 rotate_left
 ·have Lp:j=K.length:=by omega
  subst Lp
  rw[Dg]at h3
  have ho:∀c,G' c→G c∨H1.length≤c:=fun c hc=>(g2 c hc).imp id And.left
  simp -implicitDefEqProofs only[ai,ah,op,ef,cl,sq,reduceIte,j1,j2,j3,j4,j5,j6,j7,j8,j9,S1,h3.hp,hlen,g8,zd,al]
  refine⟨sW,K.map f,L',G',h3,by rw[hf];exact Rg hs _ _,DJ,?_,by simp,f2.trans f3 ho,fun c hc=>(g2 c hc).imp id fun h=>⟨h.1,by have:=f3.1;omega⟩⟩
  have eQ:∀k,(bm K L').last k=((bm K L).mB n now).last k:=fun k=>by
   show(aj L' k).getD 0=(((bm K L).mB n now).l k).getD 0
   rw[oH]
  refine eg (fun m=>?_) oH
  show aj (nX (K.map f)) m=((bm K L).v m).map _
  have ev:(bm K L).v m=(K.find? fun x=>decide (x.nm=m)).map Kd.vd:=Dl hs m
  rw[yJ hs f (fun x=>by rw[hf];exact Aj _ _ _),ev]
  cases hfi:K.find? (fun x=>decide (x.nm=m))with
  | none=>rfl
  | some x =>
   have Ak:x.nm=m:=by simpa using List.find?_some hfi
   rw[hfi]at ev
   have hSm:=hS m x.vd ev
   have e1:x.vd.aZ=x.aZ:=rfl
   have e2:m.1=x.key:=by rw[←Ak];rfl
   have e3:m.2=x.id:=by rw[←Ak];rfl
   rw[e1,e2,e3]at hSm
   have hl4:=eQ x.key
   rw[HV]at hl4
   simp -implicitDefEqProofs only[Option.map_some,Option.some.injEq,e1,e2,e3]
   rw[hf]
   unfold Im
   rw[hl4]
   by_cases cO:x.aZ=-1
   ·by_cases hc:(bm K L).has (x.key,n)=true∧(bm K L).last x.key<n
    ·rw[if_pos hc]
     by_cases L0:x.id<n
     ·rw[if_pos ⟨cO,L0⟩,if_pos ⟨cO,hc.1,hc.2,L0⟩];rfl
     ·rw[if_neg fun h=>L0 h.2,if_neg fun h=>L0 h.2.2.2]
    ·rw[if_neg hc,if_neg fun h=>hSm.1 cO h.2,if_neg fun h=>hc ⟨h.2.1,h.2.2.1⟩]
   ·rw[if_neg fun h=>cO h.1,if_neg fun h=>cO h.1]
 obtain⟨x,hx⟩:=bK al
 have Ak:=vn (f:=f) hx
 have XH:(fe f K j).length=K.length:=vj
 obtain⟨c,hc,ia,_⟩:=mA (enc:=dP) (n:=5) (fun _=>rfl) (by decide) h3.mK Ak
 have NK:=av (show j<9223372036854775807 by omega)
 have r4:jn 1 (j*5+4) (some (.cells (aJ dP (fe f K j))))=some [.int .i64 x.aZ]:=cG (enc:=dP) (n:=5) (fun _=>rfl) Ak 4 1 (by decide)
 have r1:jn 1 (j*5+0+1) (some (.cells (aJ dP (fe f K j))))=some [.int .u64 x.id]:=cG (enc:=dP) (n:=5) (fun _=>rfl) Ak 1 1 (by decide)
 have r0:jn 1 (j*5+0+0) (some (.cells (aJ dP (fe f K j))))=some [.str x.key]:=cG (enc:=dP) (n:=5) (fun _=>rfl) Ak 0 1 (by decide)
 have same:f x=x→RC H3 p tK sW (fe f K (j+1)) L' G':=fun e=>by rw[Ag hx e];exact h3
 by_cases cO:x.aZ=-1
 rotate_left
 ·have hb:(x.aZ==-1)=false:=by simp[cO]
  simp -implicitDefEqProofs only[ai,ah,op,ef,cl,sq,reduceIte,j1,j2,j3,j4,j5,j6,j7,j8,j9,S1,h3.hp,hlen,g8,zd,al,aa,ia,hc,r4,cO,hb,NK]
  exact⟨j+1,by omega,.i ⟨same (by rw[hf];unfold Im;rw[if_neg fun h=>cO h.1]),f3⟩,rfl,al⟩
 have hb:(x.aZ==-1)=true:=by simp[cO]
 simp -implicitDefEqProofs only[ai,ah,op,ef,cl,sq,reduceIte,j1,j2,j3,j4,j5,j6,j7,j8,j9,S1,h3.hp,hlen,g8,zd,al,aa,ia,hc,r4,r1,r0,cO]
 refine ae _ _ _ _ _ _ _ _ (rv h3 (by omega) x.key) ?_
 rintro u H4⟨hu,rfl⟩
 cases hu
 have hlq:(bm (fe f K j) L').last x.key=(bm K L').last x.key:=rfl
 rw[hlq]
 by_cases WC:x.id<(bm K L').last x.key
 ·have hfx:f x={ x with aZ:=now }:=by rw[hf];unfold Im;rw[if_pos ⟨cO,WC⟩]
  have kH:=jx (enc:=dP) (n:=5) (y:=f x) (fun _=>rfl) Ak H4 c [.int .i64 now] 4 (by simp) (by rw[hfx];rfl)
  have Ss:=NL h3.mK Ak ia (by decide)
  obtain⟨rc,fr⟩:=h3.wrK (K':=(fe f K j).set j (f x)) Ss (by simp) (by rw[qn hx];exact fko (j+1))
  simp -implicitDefEqProofs only[ai,ah,op,ef,cl,sq,reduceIte,j1,j2,j3,j4,j5,j6,j7,j8,j9,S1,WC,h3.hp,g8,zd,aa,ia,hc,r1,r0,kH,NK]
  rw[qn hx]at rc fr ⊢
  exact⟨j+1,by omega,.i ⟨rc,f3.trans fr fun _ h=>.inl h⟩,rfl,al⟩
 ·simp -implicitDefEqProofs only[ai,ah,op,ef,cl,sq,reduceIte,j1,j2,j3,j4,j5,j6,j7,j8,j9,S1,WC,h3.hp,g8,zd,hc,r1,r0,NK]
  exact⟨j+1,by omega,.i ⟨same (by rw[hf];unfold Im;rw[if_neg fun h=>WC h.2]),f3⟩,rfl,al⟩
end Go.Proofs.YtdcpehdijdllpaaGreat.St
end
