/- Part of a proof of a law of this seat: the machine of plain values, its simulation, and the contracts of the functions that the law reaches. Conditions: none beyond the given row. -/
import Derived.Test.YtdcpehdijdllpaaGreatM3
open Int renaming reduceLT → j4, reduceLE → j5, reduceBEq → j6, reduceBNe → j7, reduceEq → j8
open Nat renaming reduceAdd → j9, reduceLeDiff → y1, reduceLT → y2, reduceEqDiff → y3
set_option linter.unusedSimpArgs false
set_option linter.unusedVariables false
set_option linter.unnecessarySimpa false
set_option maxHeartbeats 4000000
section
namespace Go.Proofs.YtdcpehdijdllpaaGreat.St
open Go.Rmp Go.Proofs.YtdcpehdijdllpaaGreat.Ir
set_option maxRecDepth 10000
set_option maxHeartbeats 8000000
section
variable {c n i j:Nat} {d:Array ByteArray}
theorem aD (h:i<n):eI 1 i (.ay c 0 n 1)=some (.ptr c (i*1)):=by rw[jk];simp[h]
theorem nN {l:List ByteArray}:(aJ eS l).length=l.length*1:=by rw[cY (n:=1) (fun _=>rfl)]
theorem aE (h:i<d.size):(i*1+1≤(aJ eS d.toList).length)=True:=by rw[nN];simp;omega
theorem aF (h:i<d.size):List.take 1 (List.drop (i*1) (aJ eS d.toList))=[.str d[i]!]:=by
 have:=yM h
 rw[mB,if_pos (by rw[nN];simp;omega)]at this
 exact Option.some.inj this
theorem aG {x:ByteArray}(h:i<d.size):(i*1+1≤(aJ eS (d.toList.set j x)).length)=True:=by rw[nN];simp;omega
theorem aH (h:i<d.size)(h':j<d.size):(List.take (i*1) (aJ eS d.toList)++[.str d[j]!])++List.drop (i*1+1) (aJ eS d.toList)=aJ eS (d.toList.set i d[j]!):=by
 have:=(rh (Hx:=[.cells []]) (c:=0) d h h').1
 rw[gW,if_pos (by rw[nN];simp;omega)]at this
 simpa using this
theorem aI (h:i<d.size)(h':j<d.size):(List.take (j*1) (aJ eS (d.toList.set i d[j]!))++[.str d[i]!])++List.drop (j*1+1) (aJ eS (d.toList.set i d[j]!))=aJ eS (Go.Sort.swp d i j).toList:=by
 have:=(rh (Hx:=[.cells []]) (c:=0) d h h').2 [.cells []]
 rw[gW,if_pos (by rw[nN];simp;omega)]at this
 simpa using this
end
open Go.Sort in
def gZ (c n:Nat)(H:af)(P:Array ByteArray→Prop)(H':af):Prop:=∃d:Array ByteArray,H'[c]?=some (.cells (aJ eS d.toList))∧d.size=n∧P d∧bl (fun x=>x=c) H H'
open Go.Sort in
theorem gZ.swp {c n:Nat}{H H1:af}{P:Array ByteArray→Prop}{y x:B}{d':Array ByteArray}(hd:H1[c]?=some y)(hs:d'.size=n)(hP:P d')(hf:bl (fun x=>x=c) H H1):gZ c n H P ((H1.set c x).set c (.cells (aJ eS d'.toList))) :=
 ⟨d',bT (by rw[List.length_set];exact aW hd),hs,hP,(hf.set (.inl rfl) _).set (.inl rfl) _⟩
open Go.Sort in
def rl (c n:Nat)(d':Array ByteArray)(H:af):Out→af→Prop:=fun o H'=>o=.val (.bN [])∧gZ c n H (fun x=>x=d') H'
open Go.Sort in
theorem Tu (c n:Nat)(d:Array ByteArray)(a b:Nat)(H:af)(hn:d.size=n)(hc:H[c]?=some (.cells (aJ eS d.toList)))(hb:b≤n)(fZ:a<b)(hs:n<4611686018427387903) :
  W env (.call 146 [.ay c 0 n 1,.int .i64 a,.int .i64 b]) H (rl c n (reverseRange d a b) H):=by
 refine W.bS rfl rfl rfl ?_
 simp -implicitDefEqProofs (maxSteps:=1000000) (disch:=omega) only[Fq,op,ef,cl,sq,reduceIte,j4,j5,j6,j7,j8,j9,y1,y2,y3,S1,aZ]
 refine W.cF (fun (i:Nat) R H'=>At H' (fun H'=>∃j,R 7=.int .i64 (j:Nat)∧i+j=a+b-1∧a≤i∧gZ c n H (fun di=>reverseLoop i j di=reverseRange d a b) H')∧R 0=.ay c 0 n 1∧R 6=.int .i64 i) (fun i=>a+b-i) a ⟨.i ⟨b-1,rfl,by omega,Nat.le_refl _,d,hc,hn,rfl,bl.refl _ _⟩,rfl,rfl⟩ ?_
 rintro i R H1⟨⟨j,h9,qW,FV,di,hd,a7,yC,al⟩,h0,h8⟩
 have lc:=aW hd
 by_cases ax:i<j
 ·simp -implicitDefEqProofs (maxSteps:=1000000) (disch:=omega) only[aa,aD,aE,aF,aG,aH,aI,wA,a0,wS,aZ,wM,S2,op,ef,cl,sq,reduceIte,j4,j5,j6,j7,j8,j9,y1,y2,y3,S1,h0,h8,h9,ax,hd,lc]
  exact⟨i+1,by omega,.i ⟨j-1,rfl,by omega,by omega,.swp hd (by rw[swp_size];exact a7) (by rw[←yC];conv=>{ rhs;rw[reverseLoop,if_pos ax] }) al⟩,rfl⟩
 ·simp -implicitDefEqProofs only[op,ef,cl,sq,reduceIte,j4,j5,j6,j7,j8,j9,y1,y2,y3,S1,h0,h8,h9,ax]
  rw[reverseLoop,if_neg ax]at yC
  exact⟨rfl,di,hd,a7,yC,al⟩
open Go.Sort in
theorem Al (c n:Nat)(d:Array ByteArray)(lo hi first:Nat)(H:af)(hn:d.size=n)(hc:H[c]?=some (.cells (aJ eS d.toList)))(hb:first+hi≤n)(nZ:lo≤n)(hs:n<2305843009213693951) :
  W env (.call 158 [.ay c 0 n 1,.int .i64 lo,.int .i64 hi,.int .i64 first]) H (rl c n (siftDown strLt hi first lo d) H):=by
 refine W.bS rfl rfl rfl ?_
 simp -implicitDefEqProofs only[FD,op,ef,cl,sq,reduceIte,j4,j5,j6,j7,j8,j9,y1,y2,y3,S1]
 refine W.cF (fun (r:Nat) R H'=>At H' (fun H'=>gZ c n H (fun di=>siftDown strLt hi first r di=siftDown strLt hi first lo d) H')∧R 0=.ay c 0 n 1∧R 2=.int .i64 hi∧R 3=.int .i64 first∧R 0=.ay c 0 n 1∧R 8=.int .i64 r∧r≤n) (fun r=>hi-r) lo ⟨.i ⟨d,hc,hn,rfl,bl.refl _ _⟩,rfl,rfl,rfl,rfl,rfl,nZ⟩ ?_
 rintro r R H1⟨⟨di,hd,a7,hP,al⟩,h0,h2,h3,h4,aC,hr⟩
 have lc:=aW hd
 by_cases dV:2*r+1≥hi
 ·simp -implicitDefEqProofs (maxSteps:=1000000) (disch:=omega) only[aa,aD,aE,aF,aG,aH,aI,wA,a0,wS,aZ,wM,S2,op,ef,cl,sq,reduceIte,j4,j5,j6,j7,j8,j9,y1,y2,y3,S1,h0,h2,h3,h4,aC,dV]
  rw[siftDown,dif_pos dV]at hP
  exact⟨rfl,di,hd,a7,hP,al⟩
 by_cases dg:2*r+1+1<hi
 ·simp -implicitDefEqProofs (maxSteps:=1000000) (disch:=omega) only[aa,aD,aE,aF,aG,aH,aI,wA,a0,wS,aZ,wM,S2,op,ef,cl,sq,reduceIte,j4,j5,j6,j7,j8,j9,y1,y2,y3,S1,h0,h2,h3,h4,aC,dV,dg,hd,lc]
  refine ae _ _ _ _ _ _ _ _ (dH di[first+(2*r+1)]! di[first+(2*r+1)+1]! _) ?_
  rintro u H2⟨hu,jr⟩
  cases hu
  have hx:Ext H1 H2:=by rw[jr];exact Ext.rfl'
  have hd:=hx.get hd
  have lc:=aW hd
  have al:=al.trans (aA (F:=fun _=>False) hx) (fun _ h=>h.elim)
  have cW:strLt di[first+(2*r+1)]! di[first+(2*r+1)+1]! = decide (strLt di[first+(2*r+1)]! di[first+(2*r+1)+1]! = true):=by simp
  by_cases c1:strLt di[first+(2*r+1)]! di[first+(2*r+1)+1]! = true
  ·simp -implicitDefEqProofs (maxSteps:=1000000) (disch:=omega) only[aa,aD,aE,aF,aG,aH,aI,wA,a0,wS,aZ,wM,S2,op,ef,cl,sq,reduceIte,j4,j5,j6,j7,j8,j9,y1,y2,y3,S1,h0,h2,h3,h4,aC,dV,dg,hd,lc,c1]
   refine ae _ _ _ _ _ _ _ _ (dH di[first+r]! di[first+(2*r+1+1)]! _) ?_
   rintro u H3⟨hu,jr⟩
   cases hu
   have hx:Ext H2 H3:=by rw[jr];exact Ext.rfl'
   have hd:=hx.get hd
   have lc:=aW hd
   have al:=al.trans (aA (F:=fun _=>False) hx) (fun _ h=>h.elim)
   have xi:strLt di[first+r]! di[first+(2*r+1+1)]! = decide (strLt di[first+r]! di[first+(2*r+1+1)]! = true):=by simp
   by_cases c2:strLt di[first+r]! di[first+(2*r+1+1)]! = true
   ·simp -implicitDefEqProofs (maxSteps:=1000000) (disch:=omega) only[aa,aD,aE,aF,aG,aH,aI,wA,a0,wS,aZ,wM,S2,op,ef,cl,sq,reduceIte,j4,j5,j6,j7,j8,j9,y1,y2,y3,S1,h0,h2,h3,h4,aC,dV,dg,hd,lc,c2]
    refine⟨2*r+1+1,by omega,.i (.swp hd (by rw[swp_size];exact a7) ?_ al),rfl,by omega⟩
    rw[←hP]
    conv=>{ rhs;rw[siftDown,dif_neg dV,if_pos (fA (cg dg) (cW.trans (cg c1))),if_neg (jS (xi.trans (cg c2))),dif_pos dg] }
   ·simp -implicitDefEqProofs (maxSteps:=1000000) (disch:=omega) only[aa,aD,aE,aF,aG,aH,aI,wA,a0,wS,aZ,wM,S2,op,ef,cl,sq,reduceIte,j4,j5,j6,j7,j8,j9,y1,y2,y3,S1,h0,h2,h3,h4,aC,dV,dg,hd,lc,c2]
    rw[siftDown,dif_neg dV,if_pos (fA (cg dg) (cW.trans (cg c1))),if_pos (eZ (xi.trans (cf c2)))]at hP
    exact⟨rfl,di,hd,a7,hP,al⟩
  ·simp -implicitDefEqProofs (maxSteps:=1000000) (disch:=omega) only[aa,aD,aE,aF,aG,aH,aI,wA,a0,wS,aZ,wM,S2,op,ef,cl,sq,reduceIte,j4,j5,j6,j7,j8,j9,y1,y2,y3,S1,h0,h2,h3,h4,aC,dV,dg,hd,lc,c1]
   refine ae _ _ _ _ _ _ _ _ (dH di[first+r]! di[first+(2*r+1)]! _) ?_
   rintro u H3⟨hu,jr⟩
   cases hu
   have hx:Ext H2 H3:=by rw[jr];exact Ext.rfl'
   have hd:=hx.get hd
   have lc:=aW hd
   have al:=al.trans (aA (F:=fun _=>False) hx) (fun _ h=>h.elim)
   have xi:strLt di[first+r]! di[first+(2*r+1)]! = decide (strLt di[first+r]! di[first+(2*r+1)]! = true):=by simp
   by_cases c2:strLt di[first+r]! di[first+(2*r+1)]! = true
   ·simp -implicitDefEqProofs (maxSteps:=1000000) (disch:=omega) only[aa,aD,aE,aF,aG,aH,aI,wA,a0,wS,aZ,wM,S2,op,ef,cl,sq,reduceIte,j4,j5,j6,j7,j8,j9,y1,y2,y3,S1,h0,h2,h3,h4,aC,dV,dg,hd,lc,c2]
    refine⟨2*r+1,by omega,.i (.swp hd (by rw[swp_size];exact a7) ?_ al),rfl,by omega⟩
    rw[←hP]
    conv=>{ rhs;rw[siftDown,dif_neg dV,if_neg (dI (cW.trans (cf c1))),if_neg (jS (xi.trans (cg c2)))] }
   ·simp -implicitDefEqProofs (maxSteps:=1000000) (disch:=omega) only[aa,aD,aE,aF,aG,aH,aI,wA,a0,wS,aZ,wM,S2,op,ef,cl,sq,reduceIte,j4,j5,j6,j7,j8,j9,y1,y2,y3,S1,h0,h2,h3,h4,aC,dV,dg,hd,lc,c2]
    rw[siftDown,dif_neg dV,if_neg (dI (cW.trans (cf c1))),if_pos (eZ (xi.trans (cf c2)))]at hP
    exact⟨rfl,di,hd,a7,hP,al⟩
 ·simp -implicitDefEqProofs (maxSteps:=1000000) (disch:=omega) only[aa,aD,aE,aF,aG,aH,aI,wA,a0,wS,aZ,wM,S2,op,ef,cl,sq,reduceIte,j4,j5,j6,j7,j8,j9,y1,y2,y3,S1,h0,h2,h3,h4,aC,dV,dg,hd,lc]
  try simp -implicitDefEqProofs only[op,ef,cl,sq,reduceIte,j4,j5,j6,j7,j8,j9,y1,y2,y3,S1]
  try simp -implicitDefEqProofs (maxSteps:=1000000) (disch:=omega) only[aa,aD,aE,aF,aG,aH,aI,wA,a0,wS,aZ,wM,S2,op,ef,cl,sq,reduceIte,j4,j5,j6,j7,j8,j9,y1,y2,y3,S1,h0,h2,h3,h4,aC,dV,dg,hd,lc]
  refine ae _ _ _ _ _ _ _ _ (dH di[first+r]! di[first+(2*r+1)]! _) ?_
  rintro u H3⟨hu,jr⟩
  cases hu
  have hx:Ext H1 H3:=by rw[jr];exact Ext.rfl'
  have hd:=hx.get hd
  have lc:=aW hd
  have al:=al.trans (aA (F:=fun _=>False) hx) (fun _ h=>h.elim)
  have xi:strLt di[first+r]! di[first+(2*r+1)]! = decide (strLt di[first+r]! di[first+(2*r+1)]! = true):=by simp
  by_cases c2:strLt di[first+r]! di[first+(2*r+1)]! = true
  ·simp -implicitDefEqProofs (maxSteps:=1000000) (disch:=omega) only[aa,aD,aE,aF,aG,aH,aI,wA,a0,wS,aZ,wM,S2,op,ef,cl,sq,reduceIte,j4,j5,j6,j7,j8,j9,y1,y2,y3,S1,h0,h2,h3,h4,aC,dV,dg,hd,lc,c2]
   refine⟨2*r+1,by omega,.i (.swp hd (by rw[swp_size];exact a7) ?_ al),rfl,by omega⟩
   rw[←hP]
   conv=>{ rhs;rw[siftDown,dif_neg dV,if_neg (dc (cf dg)),if_neg (jS (xi.trans (cg c2)))] }
  ·simp -implicitDefEqProofs (maxSteps:=1000000) (disch:=omega) only[aa,aD,aE,aF,aG,aH,aI,wA,a0,wS,aZ,wM,S2,op,ef,cl,sq,reduceIte,j4,j5,j6,j7,j8,j9,y1,y2,y3,S1,h0,h2,h3,h4,aC,dV,dg,hd,lc,c2]
   rw[siftDown,dif_neg dV,if_neg (dc (cf dg)),if_pos (eZ (xi.trans (cf c2)))]at hP
   exact⟨rfl,di,hd,a7,hP,al⟩
open Go.Sort in
theorem OH (c n:Nat)(d:Array ByteArray)(a b:Nat)(H:af)(hn:d.size=n)(hc:H[c]?=some (.cells (aJ eS d.toList)))(hb:b≤n)(fZ:a<b)(hs:n<2305843009213693951) :
  W env (.call 143 [.ay c 0 n 1,.int .i64 a,.int .i64 b]) H (rl c n (heapSort strLt d a b) H):=by
 refine W.bS rfl rfl rfl ?_
 simp -implicitDefEqProofs (maxSteps:=1000000) (disch:=omega) only[Fo,aa,aD,aE,aF,aG,aH,aI,wA,a0,wS,aZ,wM,S2,op,ef,cl,sq,reduceIte,j4,j5,j6,j7,j8,j9,y1,y2,y3,S1,wQ2]
 refine W.cM 0 (fun (k:Nat) R H'=>At H' (fun H'=>gZ c n H (fun di=>heapBuild strLt (b-a) a k di=heapBuild strLt (b-a) a ((b-a-1)/2+1) d) H')∧R 0=.ay c 0 n 1∧R 0=.ay c 0 n 1∧R 6=.int .i64 a∧R 7=.int .i64 0∧R 8=.int .i64 (b-a:Nat)∧R 9=.int .i64 ((k:Int)-1)∧k≤b-a) (fun k=>k) ((b-a-1)/2+1)
  (fun R H'=>At H' (fun H'=>gZ c n H (fun di=>di=heapBuild strLt (b-a) a ((b-a-1)/2+1) d) H')∧R 0=.ay c 0 n 1∧R 0=.ay c 0 n 1∧R 6=.int .i64 a∧R 7=.int .i64 0∧R 8=.int .i64 (b-a:Nat))
  ⟨.i ⟨d,hc,hn,rfl,bl.refl _ _⟩,rfl,rfl,rfl,rfl,rfl,by simp[nY],by omega⟩ ?_ ?_
 ·rintro k R H1⟨⟨di,hd,a7,hP,al⟩,h0,h3,h8,h9,aC,a6,hk⟩
  cases k with
  | zero =>
   rw[show(((0:Nat):Int)-1)=-1 from rfl]at a6
   simp -implicitDefEqProofs (maxSteps:=1000000) (disch:=omega) only[aa,aD,aE,aF,aG,aH,aI,wA,a0,wS,aZ,wM,S2,op,ef,cl,sq,reduceIte,j4,j5,j6,j7,j8,j9,y1,y2,y3,S1,h0,h3,h8,h9,aC,a6]
   exact .i ⟨di,hd,a7,hP,al⟩
  | succ k =>
   rw[show(((k+1:Nat):Int)-1)=(k:Int) by omega]at a6
   simp -implicitDefEqProofs (maxSteps:=1000000) (disch:=omega) only[aa,aD,aE,aF,aG,aH,aI,wA,a0,wS,aZ,wM,S2,op,ef,cl,sq,reduceIte,j4,j5,j6,j7,j8,j9,y1,y2,y3,S1,h0,h3,h8,h9,aC,a6,JJ]
   refine ae _ _ _ _ _ _ _ _ (Al c n di k (b-a) a _ a7 hd (by omega) (by omega) hs) ?_
   rintro u H2⟨hu,d2,cr,gX,rfl,dN⟩
   cases hu
   simp -implicitDefEqProofs (maxSteps:=1000000) (disch:=omega) only[Vo,op,ef,cl,sq,reduceIte,j4,j5,j6,j7,j8,j9,y1,y2,y3,S1,h0,h3,h8,h9,aC,a6]
   exact⟨k,by omega,.i ⟨_,cr,gX,hP,al.trans dN fun _ h=>.inl h⟩,rfl,by omega⟩
 ·rintro R H1⟨⟨di,hd,a7,hP,al⟩,h0,h3,h8,h9,aC⟩
  simp -implicitDefEqProofs (maxSteps:=1000000) (disch:=omega) only[aa,aD,aE,aF,aG,aH,aI,wA,a0,wS,aZ,wM,S2,op,ef,cl,sq,reduceIte,j4,j5,j6,j7,j8,j9,y1,y2,y3,S1,h0,h3,h8,h9,aC]
  refine W.cF (fun (k:Nat) R H'=>At H' (fun H'=>gZ c n H (fun di=>heapPop strLt a k di=heapSort strLt d a b) H')∧R 0=.ay c 0 n 1∧R 0=.ay c 0 n 1∧R 6=.int .i64 a∧R 7=.int .i64 0∧R 8=.int .i64 (b-a:Nat)∧R 10=.int .i64 ((k:Int)-1)∧k≤b-a) (fun k=>k) (b-a) ⟨.i ⟨di,hd,a7,by rw[hP];rfl,al⟩,?_,?_,?_,?_,?_,?_,Nat.le_refl _⟩ ?_
  ·simp -implicitDefEqProofs only[op,ef,cl,sq,reduceIte,j4,j5,j6,j7,j8,j9,y1,y2,y3,S1,h0]
  ·simp -implicitDefEqProofs only[op,ef,cl,sq,reduceIte,j4,j5,j6,j7,j8,j9,y1,y2,y3,S1,h3]
  ·simp -implicitDefEqProofs only[op,ef,cl,sq,reduceIte,j4,j5,j6,j7,j8,j9,y1,y2,y3,S1,h8]
  ·simp -implicitDefEqProofs only[op,ef,cl,sq,reduceIte,j4,j5,j6,j7,j8,j9,y1,y2,y3,S1,h9]
  ·simp -implicitDefEqProofs only[op,ef,cl,sq,reduceIte,j4,j5,j6,j7,j8,j9,y1,y2,y3,S1,aC]
  ·simp -implicitDefEqProofs only[op,ef,cl,sq,reduceIte,j4,j5,j6,j7,j8,j9,y1,y2,y3,S1];omega
  rintro k R H1⟨⟨di,hd,a7,hP,al⟩,h0,h3,h8,h9,aC,aB,hk⟩
  have lc:=aW hd
  cases k with
  | zero =>
   rw[show(((0:Nat):Int)-1)=-1 from rfl]at aB
   simp -implicitDefEqProofs (maxSteps:=1000000) (disch:=omega) only[aa,aD,aE,aF,aG,aH,aI,wA,a0,wS,aZ,wM,S2,op,ef,cl,sq,reduceIte,j4,j5,j6,j7,j8,j9,y1,y2,y3,S1,h0,h3,h8,h9,aC,aB]
   exact⟨rfl,di,hd,a7,hP,al⟩
  | succ k =>
   rw[show(((k+1:Nat):Int)-1)=(k:Int) by omega]at aB
   simp -implicitDefEqProofs (maxSteps:=1000000) (disch:=omega) only[aa,aD,aE,aF,aG,aH,aI,wA,a0,wS,aZ,wM,S2,op,ef,cl,sq,reduceIte,j4,j5,j6,j7,j8,j9,y1,y2,y3,S1,h0,h3,h8,h9,aC,aB,JJ,hd,lc]
   obtain⟨d1,pf,yD,rfl,oQ⟩:=gZ.swp (n:=n) (P:=fun x=>x=swp di a (a+k)) (x:=.cells (aJ eS (di.toList.set a di[a+k]!))) hd (by rw[Go.Sort.swp_size];exact a7) rfl al
   refine ae _ _ _ _ _ _ _ _ (Al c n _ 0 k a _ yD pf (by omega) (by omega) hs) ?_
   rintro u H2⟨hu,d2,cr,gX,rfl,dN⟩
   cases hu
   simp -implicitDefEqProofs (maxSteps:=1000000) (disch:=omega) only[Vo,op,ef,cl,sq,reduceIte,j4,j5,j6,j7,j8,j9,y1,y2,y3,S1,h0,h3,h8,h9,aC,aB]
   exact⟨k,by omega,.i ⟨_,cr,gX,hP,oQ.trans dN fun _ h=>.inl h⟩,rfl,by omega⟩
open Go.Sort in
theorem yN (c n p sw:Nat)(d:Array ByteArray)(a b:Nat)(H:af)(hn:d.size=n)(hc:H[c]?=some (.cells (aJ eS d.toList)))(hp:H[p]?=some (.cells [.int .i64 sw]))(ha:a<n)(hb:b<n)(hs:n<2305843009213693951)(Om:sw<1000) :
  W env (.call 163 [.ay c 0 n 1,.int .i64 a,.int .i64 b,.ptr p 0]) H (S8 p (order2 strLt d a b sw) H):=by
 refine W.bS rfl rfl rfl ?_
 have hd:=hc
 have al:=bl.refl (fun x=>x=p) H
 simp -implicitDefEqProofs (maxSteps:=1000000) (disch:=omega) only[FH,aa,aD,aE,aF,aG,aH,aI,wA,a0,wS,aZ,wM,S2,op,ef,cl,sq,reduceIte,j4,j5,j6,j7,j8,j9,y1,y2,y3,S1,hd]
 refine ae _ _ _ _ _ _ _ _ (dH d[b]! d[a]! _) ?_
 rintro u H1⟨hu,jr⟩
 cases hu
 have hx:Ext H H1:=by rw[jr];exact Ext.rfl'
 have hd:=hx.get hd
 have lc:=aW hd
 have al:=al.trans (aA (F:=fun _=>False) hx) (fun _ h=>h.elim)
 have lk:=hx.get hp
 have lp:=aW lk
 have cW:strLt d[b]! d[a]! = decide (strLt d[b]! d[a]! = true):=by simp
 by_cases c1:strLt d[b]! d[a]! = true
 ·simp -implicitDefEqProofs (maxSteps:=1000000) (disch:=omega) only[aa,aD,aE,aF,aG,aH,aI,wA,a0,wS,aZ,wM,S2,op,ef,cl,sq,reduceIte,j4,j5,j6,j7,j8,j9,y1,y2,y3,S1,hd,c1,lk,lp]
  refine⟨?_,?_,?_⟩
  ·rw[order2,if_pos (cW.trans (cg c1))]
  ·rw[order2,if_pos (cW.trans (cg c1))];exact bT lp
  ·exact al.set (.inl rfl) _
 ·simp -implicitDefEqProofs (maxSteps:=1000000) (disch:=omega) only[aa,aD,aE,aF,aG,aH,aI,wA,a0,wS,aZ,wM,S2,op,ef,cl,sq,reduceIte,j4,j5,j6,j7,j8,j9,y1,y2,y3,S1,hd,c1,lk,lp]
  refine⟨?_,?_,?_⟩
  ·rw[order2,if_neg (by rw[cW,cf c1];simp)]
  ·rw[order2,if_neg (by rw[cW,cf c1];simp)];exact lk
  ·exact al
open Go.Sort in
theorem uQ (d:Array ByteArray){n a b sw:Nat}(ha:a<n)(hb:b<n):(Go.Sort.order2 strLt d a b sw).1<n∧(Go.Sort.order2 strLt d a b sw).2.1<n∧(Go.Sort.order2 strLt d a b sw).2.2≤sw+1:=by
 unfold Go.Sort.order2
 split
 ·exact⟨hb,ha,Nat.le_refl _⟩
 ·exact⟨ha,hb,Nat.le_succ _⟩
open Go.Sort in
theorem yO (c n p sw:Nat)(d:Array ByteArray)(a b e:Nat)(H:af)(hn:d.size=n)(hc:H[c]?=some (.cells (aJ eS d.toList)))(hp:H[p]?=some (.cells [.int .i64 sw]))(oS:¬c=p)(ha:a<n)(hb:b<n)(he:e<n)(hs:n<2305843009213693951)(Om:sw<900) :
  W env (.call 160 [.ay c 0 n 1,.int .i64 a,.int .i64 b,.int .i64 e,.ptr p 0]) H (fun o H'=>JK p (median strLt d a b e sw) H o H'∧(median strLt d a b e sw).1<n∧(median strLt d a b e sw).2≤sw+3):=by
 refine W.bS rfl rfl rfl ?_
 simp -implicitDefEqProofs only[FF,op,ef,cl,sq,reduceIte,j4,j5,j6,j7,j8,j9,y1,y2,y3,S1]
 refine ae _ _ _ _ _ _ _ _ (yN c n p sw d a b _ hn hc hp ha hb hs (by omega)) ?_
 rintro u H1⟨hu,lk,oQ⟩
 cases hu
 have js:=oQ.get hc oS
 obtain⟨r1,Cu⟩:∃r,r=order2 strLt d a b sw:=⟨_,rfl⟩
 obtain⟨q1,q2,q3⟩:=uQ d (sw:=sw) ha hb
 rw[←Cu]at q1 q2 q3 lk ⊢
 try simp -implicitDefEqProofs only[op,ef,cl,sq,reduceIte,j4,j5,j6,j7,j8,j9,y1,y2,y3,S1]
 refine ae _ _ _ _ _ _ _ _ (yN c n p r1.2.2 d r1.2.1 e _ hn js lk q2 he hs (by omega)) ?_
 rintro u H2⟨hu,lA,dN⟩
 cases hu
 have pw:=dN.get js oS
 obtain⟨r2,uw⟩:∃r,r=order2 strLt d r1.2.1 e r1.2.2:=⟨_,rfl⟩
 obtain⟨q4,q5,q6⟩:=uQ d (sw:=r1.2.2) q2 he
 rw[←uw]at q4 q5 q6 lA ⊢
 try simp -implicitDefEqProofs only[op,ef,cl,sq,reduceIte,j4,j5,j6,j7,j8,j9,y1,y2,y3,S1]
 refine ae _ _ _ _ _ _ _ _ (yN c n p r2.2.2 d r1.1 r2.1 _ hn pw lA q1 q4 hs (by omega)) ?_
 rintro u H3⟨hu,JL,oT⟩
 cases hu
 obtain⟨q7,q8,q9⟩:=uQ d (sw:=r2.2.2) q1 q4
 have e:median strLt d a b e sw=((order2 strLt d r1.1 r2.1 r2.2.2).2.1,(order2 strLt d r1.1 r2.1 r2.2.2).2.2):=by rw[median,←Cu,←uw]
 rw[e]
 try simp -implicitDefEqProofs only[op,ef,cl,sq,reduceIte,j4,j5,j6,j7,j8,j9,y1,y2,y3,S1]
 exact⟨⟨rfl,JL,(oQ.trans dN fun _ h=>.inl h).trans oT fun _ h=>.inl h⟩,q8,by omega⟩
open Go.Sort in
theorem uR (c n p sw:Nat)(d:Array ByteArray)(a:Nat)(H:af)(hn:d.size=n)(hc:H[c]?=some (.cells (aJ eS d.toList)))(hp:H[p]?=some (.cells [.int .i64 sw]))(oS:¬c=p)(ha:1≤a)(A8:a+1<n)(hs:n<2305843009213693951)(Om:sw<900) :
  W env (.call 159 [.ay c 0 n 1,.int .i64 a,.ptr p 0]) H (fun o H'=>JK p (medianAdjacent strLt d a sw) H o H'∧(medianAdjacent strLt d a sw).1<n∧(medianAdjacent strLt d a sw).2≤sw+3):=by
 refine W.bS rfl rfl rfl ?_
 simp -implicitDefEqProofs (maxSteps:=1000000) (disch:=omega) only[FE,aa,aD,aE,aF,aG,aH,aI,wA,a0,wS,aZ,wM,S2,op,ef,cl,sq,reduceIte,j4,j5,j6,j7,j8,j9,y1,y2,y3,S1]
 refine ae _ _ _ _ _ _ _ _ (yO c n p sw d (a-1) a (a+1) _ hn hc hp oS (by omega) (by omega) A8 hs Om) ?_
 rintro u H1⟨⟨hu,lk,oQ⟩,q1,q2⟩
 cases hu
 try simp -implicitDefEqProofs only[op,ef,cl,sq,reduceIte,j4,j5,j6,j7,j8,j9,y1,y2,y3,S1]
 exact⟨⟨rfl,lk,oQ⟩,q1,q2⟩
open Go.Sort in
theorem Gc (c n:Nat)(d:Array ByteArray)(a b:Nat)(H:af)(hn:d.size=n)(hc:H[c]?=some (.cells (aJ eS d.toList)))(hb:b≤n)(fZ:a+12<b)(hs:n<1305843009213693951) :
  W env (.call 145 [.ay c 0 n 1,.int .i64 a,.int .i64 b]) H (fun o H'=>o=.val (.bN [.int .i64 (choosePivot strLt d a b).1,.int .i64 (gw (choosePivot strLt d a b).2)])∧Ext H H'):=by
 refine W.bS rfl rfl rfl ?_
 have h8:8≤b-a:=by omega
 have lc:=aW hc
 have oS:¬c=H.length:=by omega
 have mh:(H++[B.cells [T.int IntKind.i64 0]])[c]?=some (.cells (aJ eS d.toList)):=by rw[aV lc];exact hc
 have S9:(H++[B.cells [T.int IntKind.i64 0]])[H.length]?=some (.cells [.int .i64 ((0:Nat):Int)]):=aX rfl
 have fin:∀H2:af,bl (fun x=>x=H.length) (H++[B.cells [T.int IntKind.i64 0]]) H2→Ext H H2:=fun H2 hf=>mG fun x y hx=>hf.get (by rw[aV (aW hx)];exact hx) (by have:=aW hx;omega)
 by_cases uO:50≤b-a
 ·simp -implicitDefEqProofs (maxSteps:=1000000) (disch:=omega) only[Ad,aa,aD,aE,aF,aG,aH,aI,wA,a0,wS,aZ,wM,S2,op,ef,cl,sq,reduceIte,j4,j5,j6,j7,j8,j9,y1,y2,y3,S1,CD,Vp,CE,Vq,h8,uO]
  refine ae _ _ _ _ _ _ _ _ (uR c n H.length 0 d _ _ hn mh S9 oS (by omega) (by omega) (by omega) (by omega)) ?_
  rintro u H1⟨⟨hu,lk,oQ⟩,q1,q2⟩
  cases hu
  obtain⟨ri,lG⟩:∃r,r=medianAdjacent strLt d (a+(b-a)/4*1) 0:=⟨_,rfl⟩
  rw[←lG]at q1 q2 lk ⊢
  have js:=oQ.get mh oS
  try simp -implicitDefEqProofs only[op,ef,cl,sq,reduceIte,j4,j5,j6,j7,j8,j9,y1,y2,y3,S1]
  refine ae _ _ _ _ _ _ _ _ (uR c n H.length ri.2 d _ _ hn js lk oS (by omega) (by omega) (by omega) (by omega)) ?_
  rintro u H2⟨⟨hu,lA,dN⟩,q3,q4⟩
  cases hu
  obtain⟨rj,Ta⟩:∃r,r=medianAdjacent strLt d (a+(b-a)/4*2) ri.2:=⟨_,rfl⟩
  rw[←Ta]at q3 q4 lA ⊢
  have pw:=dN.get js oS
  try simp -implicitDefEqProofs only[op,ef,cl,sq,reduceIte,j4,j5,j6,j7,j8,j9,y1,y2,y3,S1]
  refine ae _ _ _ _ _ _ _ _ (uR c n H.length rj.2 d _ _ hn pw lA oS (by omega) (by omega) (by omega) (by omega)) ?_
  rintro u H3⟨⟨hu,JL,oT⟩,q5,q6⟩
  cases hu
  obtain⟨rk,Tb⟩:∃r,r=medianAdjacent strLt d (a+(b-a)/4*3) rj.2:=⟨_,rfl⟩
  rw[←Tb]at q5 q6 JL ⊢
  have Tc:=oT.get pw oS
  try simp -implicitDefEqProofs only[op,ef,cl,sq,reduceIte,j4,j5,j6,j7,j8,j9,y1,y2,y3,S1]
  refine ae _ _ _ _ _ _ _ _ (yO c n H.length rk.2 d ri.1 rj.1 rk.1 _ hn Tc JL oS q1 q3 q5 (by omega) (by omega)) ?_
  rintro u H4⟨⟨hu,oU,xJ⟩,q7,q8⟩
  cases hu
  have e:choosePivot strLt d a b=((median strLt d ri.1 rj.1 rk.1 rk.2).1,if (median strLt d ri.1 rj.1 rk.1 rk.2).2=0 then .increasing else if (median strLt d ri.1 rj.1 rk.1 rk.2).2=12 then .decreasing else .unknown):=by
   simp -implicitDefEqProofs only[choosePivot,ge_iff_le,if_pos h8,if_pos uO,←lG,←Ta,←Tb]
  rw[e]
  have hx:=fin _ (((oQ.trans dN fun _ h=>.inl h).trans oT fun _ h=>.inl h).trans xJ fun _ h=>.inl h)
  generalize median strLt d ri.1 rj.1 rk.1 rk.2=r at *
  obtain⟨m,sw⟩:=r
  simp only at oU ⊢
  by_cases s0:sw=0
  ·subst s0
   have e0:(((0:Nat):Int)==0)=true:=rfl
   simp -implicitDefEqProofs only[op,ef,cl,sq,reduceIte,j4,j5,j6,j7,j8,j9,y1,y2,y3,S1,oU,e0]
   exact⟨rfl,hx⟩
  have e0:(((sw:Nat):Int)==0)=false:=by simp;omega
  by_cases s1:sw=12
  ·subst s1
   have e1:(((12:Nat):Int)==12)=true:=rfl
   simp -implicitDefEqProofs only[op,ef,cl,sq,reduceIte,j4,j5,j6,j7,j8,j9,y1,y2,y3,S1,oU,e0,e1]
   exact⟨rfl,hx⟩
  have e1:(((sw:Nat):Int)==12)=false:=by simp;omega
  simp -implicitDefEqProofs only[op,ef,cl,sq,reduceIte,j4,j5,j6,j7,j8,j9,y1,y2,y3,S1,oU,e0,e1,s0,s1]
  exact⟨rfl,hx⟩
 ·simp -implicitDefEqProofs (maxSteps:=1000000) (disch:=omega) only[Ad,aa,aD,aE,aF,aG,aH,aI,wA,a0,wS,aZ,wM,S2,op,ef,cl,sq,reduceIte,j4,j5,j6,j7,j8,j9,y1,y2,y3,S1,CD,Vp,CE,Vq,h8,uO]
  refine ae _ _ _ _ _ _ _ _ (yO c n H.length 0 d _ _ _ _ hn mh S9 oS (by omega) (by omega) (by omega) (by omega) (by omega)) ?_
  rintro u H4⟨⟨hu,oU,xJ⟩,q7,q8⟩
  cases hu
  have e:choosePivot strLt d a b=((median strLt d (a+(b-a)/4*1) (a+(b-a)/4*2) (a+(b-a)/4*3) 0).1,if (median strLt d (a+(b-a)/4*1) (a+(b-a)/4*2) (a+(b-a)/4*3) 0).2=0 then .increasing else if (median strLt d (a+(b-a)/4*1) (a+(b-a)/4*2) (a+(b-a)/4*3) 0).2=12 then .decreasing else .unknown):=by
   simp -implicitDefEqProofs only[choosePivot,ge_iff_le,if_pos h8,if_neg uO]
  rw[e]
  have hx:=fin _ xJ
  generalize median strLt d (a+(b-a)/4*1) (a+(b-a)/4*2) (a+(b-a)/4*3) 0=r at *
  obtain⟨m,sw⟩:=r
  simp only at oU ⊢
  by_cases s0:sw=0
  ·subst s0
   have e0:(((0:Nat):Int)==0)=true:=rfl
   simp -implicitDefEqProofs only[op,ef,cl,sq,reduceIte,j4,j5,j6,j7,j8,j9,y1,y2,y3,S1,oU,e0]
   exact⟨rfl,hx⟩
  have e0:(((sw:Nat):Int)==0)=false:=by simp;omega
  by_cases s1:sw=12
  ·subst s1
   have e1:(((12:Nat):Int)==12)=true:=rfl
   simp -implicitDefEqProofs only[op,ef,cl,sq,reduceIte,j4,j5,j6,j7,j8,j9,y1,y2,y3,S1,oU,e0,e1]
   exact⟨rfl,hx⟩
  have e1:(((sw:Nat):Int)==12)=false:=by simp;omega
  simp -implicitDefEqProofs only[op,ef,cl,sq,reduceIte,j4,j5,j6,j7,j8,j9,y1,y2,y3,S1,oU,e0,e1,s0,s1]
  exact⟨rfl,hx⟩
def xm (a len md:Nat)(d:Array ByteArray):Nat→UInt64×Array ByteArray
 | 0=>(UInt64.ofNat len,d)
 | j+1=>Go.Sort.breakStep a len md (xm a len md d j) (a+len/4*2-1+j)
open Go.Sort in
theorem J1 (c n:Nat)(d:Array ByteArray)(a b:Nat)(H:af)(hn:d.size=n)(hc:H[c]?=some (.cells (aJ eS d.toList)))(hb:b≤n)(fZ:a+12<b)(hs:n<16777216) :
  W env (.call 144 [.ay c 0 n 1,.int .i64 a,.int .i64 b]) H (rl c n (breakPatterns d a b) H):=by
 refine W.bS rfl rfl rfl ?_
 have h8:8≤b-a:=by omega
 have lc:=aW hc
 obtain⟨len,hlen⟩:∃len,len=b-a:=⟨_,rfl⟩
 have wl:IntKind.u64.wrap ((len:Nat):Int)=(len:Int):=pn (by omega)
 rw[←hlen]at h8
 simp -implicitDefEqProofs (maxSteps:=1000000) (disch:=omega) only[Fp,aa,aD,aE,aF,aG,aH,aI,wA,a0,wS,aZ,wM,S2,op,ef,cl,sq,reduceIte,j4,j5,j6,j7,j8,j9,y1,y2,y3,S1,CD,CE,←hlen,wl,h8]
 refine ae _ _ _ _ _ _ _ _ (F4 len (by omega) _) ?_
 rintro u H1⟨hu,rfl⟩
 cases hu
 obtain⟨md,Tg⟩:∃md,md=1 <<< bitsLen len:=⟨_,rfl⟩
 have MS:=xk (n:=len) (by omega)
 have JG:1≤1 <<< bitsLen len:=by rw[Nat.one_shiftLeft];exact Nat.one_le_two_pow
 rw[←Tg]at JG MS ⊢
 have hq:len/4*2≤len:=by omega
 obtain⟨ix,vM⟩:∃ix,ix=a+len/4*2-1:=⟨_,rfl⟩
 have ux:breakPatterns d a b=(xm a len md d 3).2:=by
  simp -implicitDefEqProofs only[breakPatterns,←hlen,ge_iff_le,if_pos h8,xm,←Tg,Nat.add_zero]
 simp -implicitDefEqProofs (maxSteps:=1000000) (disch:=omega) only[aa,aD,aE,aF,aG,aH,aI,wA,a0,wS,aZ,wM,S2,op,ef,cl,sq,reduceIte,j4,j5,j6,j7,j8,j9,y1,y2,y3,S1,CD,CE,←vM]
 have js:(H++[B.cells [T.int IntKind.u64 len]])[c]?=some (.cells (aJ eS d.toList)):=by rw[aV lc];exact hc
 have lk:(H++[B.cells [T.int IntKind.u64 len]])[H.length]?=some (.cells [.int .u64 (UInt64.ofNat len).toNat]):=by
  rw[aX rfl,UInt64.toNat_ofNat_of_lt' (by show len<18446744073709551616;omega)]
 refine W.cF (fun (j:Nat) R H'=>At H' (fun H'=>∃d':Array ByteArray,H'[c]?=some (.cells (aJ eS d'.toList))∧d'.size=n∧d'=(xm a len md d j).2∧H'[H.length]?=some (.cells [.int .u64 (xm a len md d j).1.toNat])∧bl (fun x=>x=c∨x=H.length) (H++[B.cells [T.int IntKind.u64 len]]) H')∧R 0=.ay c 0 n 1∧R 1=.int .i64 a∧R 6=.int .i64 len∧R 7=.ptr H.length 0∧R 8=.int .u64 md∧R 9=.int .i64 (ix+j:Nat)∧j≤3) (fun j=>3-j) 0 ⟨.i ⟨d,js,hn,rfl,lk,bl.refl _ _⟩,rfl,rfl,rfl,rfl,rfl,rfl,by omega⟩ ?_
 rintro j R H1⟨⟨di,hd,a7,Th,hp,al⟩,h0,h1,JQ,h9,aC,a6,hj⟩
 by_cases hj3:j<3
 ·have hle:ix+j≤a+len/4*2+1:=by omega
  simp -implicitDefEqProofs (maxSteps:=1000000) (disch:=omega) only[aa,aD,aE,aF,aG,aH,aI,wA,a0,wS,aZ,wM,S2,op,ef,cl,sq,reduceIte,j4,j5,j6,j7,j8,j9,y1,y2,y3,S1,CD,CE,h0,h1,JQ,h9,aC,a6,hle]
  refine ae _ _ _ _ _ _ _ _ (LH H.length _ _ hp) ?_
  rintro u H2⟨hu,lA,dN⟩
  cases hu
  have hd:=dN.get hd (by omega)
  have yJ:=aW hd
  obtain⟨r,hr⟩:∃r,r=xorNext (xm a len md d j).1:=⟨_,rfl⟩
  rw[←hr]at lA ⊢
  obtain⟨ot,JR⟩:∃ot,ot=r.toNat &&& (md-1):=⟨_,rfl⟩
  have hol:ot≤md-1:=by rw[JR];exact Nat.and_le_right
  have bR:xm a len md d (j+1)=(r,swp di (ix+j) (a+if ot≥len then ot-len else ot)):=by
   simp -implicitDefEqProofs only[xm,breakStep,←hr,←Th,←JR,←vM]
  have bF:¬(c=H.length):=by omega
  by_cases dV:len≤ot
  ·rw[if_pos dV]at bR
   simp -implicitDefEqProofs (maxSteps:=1000000) (disch:=omega) only[aa,aD,aE,aF,aG,aH,aI,wA,a0,wS,aZ,wM,S2,op,ef,cl,sq,reduceIte,j4,j5,j6,j7,j8,j9,y1,y2,y3,S1,Vr,Aj,wN,←JR,h0,h1,JQ,h9,aC,a6,dV,hd,yJ]
   refine⟨j+1,by omega,.i ⟨swp di (ix+j) (a+(ot-len)),bT (by rw[List.length_set];exact yJ),by rw[swp_size];exact a7,by rw[bR],?_,((al.trans dN fun x h=>.inl (.inr h)).set (.inl (.inl rfl)) _).set (.inl (.inl rfl)) _⟩,rfl,by omega⟩
   rw[bh bF,bh bF,lA,bR]
  ·rw[if_neg dV]at bR
   simp -implicitDefEqProofs (maxSteps:=1000000) (disch:=omega) only[aa,aD,aE,aF,aG,aH,aI,wA,a0,wS,aZ,wM,S2,op,ef,cl,sq,reduceIte,j4,j5,j6,j7,j8,j9,y1,y2,y3,S1,Vr,Aj,wN,←JR,h0,h1,JQ,h9,aC,a6,dV,hd,yJ]
   refine⟨j+1,by omega,.i ⟨swp di (ix+j) (a+ot),bT (by rw[List.length_set];exact yJ),by rw[swp_size];exact a7,by rw[bR],?_,((al.trans dN fun x h=>.inl (.inr h)).set (.inl (.inl rfl)) _).set (.inl (.inl rfl)) _⟩,rfl,by omega⟩
   rw[bh bF,bh bF,lA,bR]
 ·have JD:j=3:=by omega
  subst JD
  have hle:¬(ix+3≤a+len/4*2+1):=by omega
  simp -implicitDefEqProofs (maxSteps:=1000000) (disch:=omega) only[aa,aD,aE,aF,aG,aH,aI,wA,a0,wS,aZ,wM,S2,op,ef,cl,sq,reduceIte,j4,j5,j6,j7,j8,j9,y1,y2,y3,S1,CD,CE,h0,h1,JQ,h9,aC,a6,hle]
  exact⟨rfl,di,hd,a7,by rw[ux,Th],(aA (F:=fun x=>x=c) (H:=H) (H':=H++[B.cells [T.int IntKind.u64 len]]) ⟨_,rfl⟩).trans al fun x h=>h.elim .inl fun e=>.inr (by omega)⟩
open Go.Sort in
theorem jL {p:ByteArray→Bool}{d:Array ByteArray}{i k:Nat}(h:1≤i):scanDown p d i k=if (decide (i≤k)&&p d[k]!)=true then scanDown p d i (k-1)else k:=by
 cases k with
 | zero=>rw[scanDown,if_neg (dc (cf (by omega)))]
 | succ k=>rw[scanDown];rfl
open Go.Sort in
theorem J2 {a i j si sj:Nat}{d:Array ByteArray}(hi:si=scanUp (fun x=>!strLt d[a]! x) d j i)(hj:sj=scanDown (fun x=>strLt d[a]! x) d si j):partEqLoop strLt a i j d=if si>sj then(si,d)else if (sj-1)+1-(si+1)<j+1-i then partEqLoop strLt a (si+1) (sj-1) (swp d si sj)else(si,d):=by
 subst hi;subst hj
 rw[partEqLoop]
 rfl
open Go.Sort in
theorem Tv (c n:Nat)(d:Array ByteArray)(a b pv:Nat)(H:af)(hn:d.size=n)(hc:H[c]?=some (.cells (aJ eS d.toList)))(hb:b≤n)(fZ:a<b)(lU:pv<n)(hs:n<2305843009213693951) :
  W env (.call 149 [.ay c 0 n 1,.int .i64 a,.int .i64 b,.int .i64 pv]) H (fun o H'=>o=.val (.int .i64 (partitionEqual strLt d a b pv).1)∧gZ c n H (fun x=>x=(partitionEqual strLt d a b pv).2) H'):=by
 refine W.bS rfl rfl rfl ?_
 have hd:=hc
 have lc:=aW hd
 simp -implicitDefEqProofs (maxSteps:=1000000) (disch:=omega) only[Fu,aa,aD,aE,aF,aG,aH,aI,wA,a0,wS,aZ,wM,S2,op,ef,cl,sq,reduceIte,j4,j5,j6,j7,j8,j9,y1,y2,y3,S1,hd,lc]
 obtain⟨d1,pf,yD,e1,oQ⟩:=gZ.swp (n:=n) (P:=fun x=>x=swp d a pv) (x:=.cells (aJ eS (d.toList.set a d[pv]!))) hd (by rw[Go.Sort.swp_size];exact hn) rfl (bl.refl (fun x=>x=c) H)
 subst e1
 generalize ((H.set c (.cells (aJ eS (d.toList.set a d[pv]!)))).set c (.cells (aJ eS (swp d a pv).toList)))=H1 at *
 refine W.cM 0 (fun (q:Nat×Nat) R H'=>At H' (fun H'=>gZ c n H (fun di=>partEqLoop strLt a q.1 q.2 di=partitionEqual strLt d a b pv) H')∧R 0=.ay c 0 n 1∧R 1=.int .i64 a∧R 0=.ay c 0 n 1∧R 9=.int .i64 q.1∧R 10=.int .i64 q.2∧a<q.1∧q.2<n∧q.1≤n) (fun q=>q.2+1-q.1) (a+1,b-1)
  (fun R H'=>At H' (fun H'=>gZ c n H (fun di=>di=(partitionEqual strLt d a b pv).2) H')∧R 9=.int .i64 (partitionEqual strLt d a b pv).1) ⟨.i ⟨_,pf,yD,rfl,oQ⟩,rfl,rfl,rfl,rfl,rfl,by omega,by simp only;omega,by simp only;omega⟩ ?_ ?_
 ·rintro⟨i,j⟩ R H1 ⟨⟨di,hd,a7,hP,al⟩,h0,h1,h4,a6,aB,FV,x8,iB⟩
  simp only at hP a6 aB FV x8 iB ⊢
  simp -implicitDefEqProofs only[op,ef,cl,sq,reduceIte,j4,j5,j6,j7,j8,j9,y1,y2,y3,S1,h0,h1,h4,a6,aB]
  obtain⟨si,oV⟩:∃si,si=scanUp (fun x=>!strLt di[a]! x) di j i:=⟨_,rfl⟩
  refine W.cM 2 (fun (k:Nat) R H'=>At H' (fun H'=>H'[c]?=some (.cells (aJ eS di.toList))∧bl (fun x=>x=c) H H')∧R 0=.ay c 0 n 1∧R 1=.int .i64 a∧R 0=.ay c 0 n 1∧R 9=.int .i64 k∧R 10=.int .i64 j∧i≤k∧k≤n∧scanUp (fun x=>!strLt di[a]! x) di j k=si) (fun k=>j+1-k) i
   (fun R H'=>At H' (fun H'=>H'[c]?=some (.cells (aJ eS di.toList))∧bl (fun x=>x=c) H H')∧R 0=.ay c 0 n 1∧R 1=.int .i64 a∧R 0=.ay c 0 n 1∧R 9=.int .i64 si∧R 10=.int .i64 j∧i≤si∧si≤n) ⟨.i ⟨hd,al⟩,h0,h1,h4,a6,aB,Nat.le_refl _,iB,oV.symm⟩ ?_ ?_
  ·rintro k R H2⟨⟨hd,al⟩,h0,h1,h4,a6,aB,re,oO,hk⟩
   have lc:=aW hd
   by_cases ey:k≤j
   ·simp -implicitDefEqProofs (maxSteps:=1000000) (disch:=omega) only[aa,aD,aE,aF,aG,aH,aI,wA,a0,wS,aZ,wM,S2,op,ef,cl,sq,reduceIte,j4,j5,j6,j7,j8,j9,y1,y2,y3,S1,h0,h1,h4,a6,aB,ey,hd,lc]
    refine ae _ _ _ _ _ _ _ _ (dH di[a]! di[k]! _) ?_
    rintro u H3⟨hu,jr⟩
    cases hu
    have hx:Ext H2 H3:=by rw[jr];exact Ext.rfl'
    have hd:=hx.get hd
    have lc:=aW hd
    have al:=al.trans (aA (F:=fun _=>False) hx) (fun _ h=>h.elim)
    have cW:strLt di[a]! di[k]! = decide (strLt di[a]! di[k]! = true):=by simp
    by_cases c1:strLt di[a]! di[k]! = true
    ·simp -implicitDefEqProofs (maxSteps:=1000000) (disch:=omega) only[aa,aD,aE,aF,aG,aH,aI,wA,a0,wS,aZ,wM,S2,op,ef,cl,sq,reduceIte,j4,j5,j6,j7,j8,j9,y1,y2,y3,S1,h0,h1,h4,a6,aB,ey,c1]
     rw[scanUp,if_neg (dI (by rw[cW,cg c1];rfl))]at hk
     subst hk
     exact⟨.i ⟨hd,al⟩,rfl,re,oO⟩
    ·simp -implicitDefEqProofs (maxSteps:=1000000) (disch:=omega) only[aa,aD,aE,aF,aG,aH,aI,wA,a0,wS,aZ,wM,S2,op,ef,cl,sq,reduceIte,j4,j5,j6,j7,j8,j9,y1,y2,y3,S1,h0,h1,h4,a6,aB,ey,c1]
     rw[scanUp,if_pos (fA (cg ey) (eZ (cW.trans (cf c1))))]at hk
     exact⟨k+1,by omega,.i ⟨hd,al⟩,rfl,by omega,by omega,hk⟩
   ·simp -implicitDefEqProofs (maxSteps:=1000000) (disch:=omega) only[op,ef,cl,sq,reduceIte,j4,j5,j6,j7,j8,j9,y1,y2,y3,S1,h0,h1,h4,a6,aB,ey]
    try simp -implicitDefEqProofs only[op,ef,cl,sq,reduceIte,j4,j5,j6,j7,j8,j9,y1,y2,y3,S1,h0,h1,h4,a6,aB,ey]
    rw[scanUp,if_neg (dc (cf ey))]at hk
    subst hk
    exact⟨.i ⟨hd,al⟩,rfl,re,oO⟩
  ·rintro R H2⟨⟨hd,al⟩,h0,h1,h4,a6,aB,yK,F5⟩
   simp -implicitDefEqProofs only[op,ef,cl,sq,reduceIte,j4,j5,j6,j7,j8,j9,y1,y2,y3,S1,h0,h1,h4,a6,aB]
   obtain⟨sj,sz⟩:∃sj,sj=scanDown (fun x=>strLt di[a]! x) di si j:=⟨_,rfl⟩
   refine W.cM 4 (fun (k:Nat) R H'=>At H' (fun H'=>H'[c]?=some (.cells (aJ eS di.toList))∧bl (fun x=>x=c) H H')∧R 0=.ay c 0 n 1∧R 1=.int .i64 a∧R 0=.ay c 0 n 1∧R 9=.int .i64 si∧R 10=.int .i64 k∧k≤j∧scanDown (fun x=>strLt di[a]! x) di si k=sj) (fun k=>k) j
    (fun R H'=>At H' (fun H'=>H'[c]?=some (.cells (aJ eS di.toList))∧bl (fun x=>x=c) H H')∧R 0=.ay c 0 n 1∧R 1=.int .i64 a∧R 0=.ay c 0 n 1∧R 9=.int .i64 si∧R 10=.int .i64 sj∧sj≤j) ⟨.i ⟨hd,al⟩,h0,h1,h4,a6,aB,Nat.le_refl _,sz.symm⟩ ?_ ?_
   ·rintro k R H3⟨⟨hd,al⟩,h0,h1,h4,a6,aB,ey,hk⟩
    have lc:=aW hd
    rw[jL (by omega)]at hk
    by_cases bO:si≤k
    ·simp -implicitDefEqProofs (maxSteps:=1000000) (disch:=omega) only[aa,aD,aE,aF,aG,aH,aI,wA,a0,wS,aZ,wM,S2,op,ef,cl,sq,reduceIte,j4,j5,j6,j7,j8,j9,y1,y2,y3,S1,h0,h1,h4,a6,aB,bO,hd,lc]
     refine ae _ _ _ _ _ _ _ _ (dH di[a]! di[k]! _) ?_
     rintro u H4⟨hu,jr⟩
     cases hu
     have hx:Ext H3 H4:=by rw[jr];exact Ext.rfl'
     have hd:=hx.get hd
     have lc:=aW hd
     have al:=al.trans (aA (F:=fun _=>False) hx) (fun _ h=>h.elim)
     have cW:strLt di[a]! di[k]! = decide (strLt di[a]! di[k]! = true):=by simp
     by_cases c1:strLt di[a]! di[k]! = true
     ·simp -implicitDefEqProofs (maxSteps:=1000000) (disch:=omega) only[aa,aD,aE,aF,aG,aH,aI,wA,a0,wS,aZ,wM,S2,op,ef,cl,sq,reduceIte,j4,j5,j6,j7,j8,j9,y1,y2,y3,S1,h0,h1,h4,a6,aB,bO,c1]
      rw[if_pos (fA (cg bO) (cW.trans (cg c1)))]at hk
      exact⟨k-1,by omega,.i ⟨hd,al⟩,rfl,by omega,hk⟩
     ·simp -implicitDefEqProofs (maxSteps:=1000000) (disch:=omega) only[aa,aD,aE,aF,aG,aH,aI,wA,a0,wS,aZ,wM,S2,op,ef,cl,sq,reduceIte,j4,j5,j6,j7,j8,j9,y1,y2,y3,S1,h0,h1,h4,a6,aB,bO,c1]
      rw[if_neg (dI (cW.trans (cf c1)))]at hk
      subst hk
      exact⟨.i ⟨hd,al⟩,rfl,ey⟩
    ·simp -implicitDefEqProofs only[op,ef,cl,sq,reduceIte,j4,j5,j6,j7,j8,j9,y1,y2,y3,S1,h0,h1,h4,a6,aB,bO]
     rw[if_neg (dc (cf bO))]at hk
     subst hk
     exact⟨.i ⟨hd,al⟩,rfl,ey⟩
   ·rintro R H3⟨⟨hd,al⟩,h0,h1,h4,a6,aB,F6⟩
    have lc:=aW hd
    rw[J2 oV sz]at hP
    by_cases jZ:sj<si
    ·rw[if_pos jZ]at hP
     simp -implicitDefEqProofs only[op,ef,cl,sq,reduceIte,j4,j5,j6,j7,j8,j9,y1,y2,y3,S1,h0,h1,h4,a6,aB,jZ]
     exact⟨.i ⟨di,hd,a7,by rw[←hP],al⟩,by rw[←hP]⟩
    ·rw[if_neg jZ,if_pos (by omega)]at hP
     simp -implicitDefEqProofs (maxSteps:=1000000) (disch:=omega) only[aa,aD,aE,aF,aG,aH,aI,wA,a0,wS,aZ,wM,S2,op,ef,cl,sq,reduceIte,j4,j5,j6,j7,j8,j9,y1,y2,y3,S1,h0,h1,h4,a6,aB,jZ,hd,lc]
     exact⟨(si+1,sj-1),by simp only;omega,.i (.swp hd (by rw[swp_size];exact a7) hP al),rfl,rfl,by simp only;omega,by simp only;omega,by simp only;omega⟩
 ·rintro R H1⟨⟨di,hd,a7,hP,al⟩,a6⟩
  simp -implicitDefEqProofs only[op,ef,cl,sq,reduceIte,j4,j5,j6,j7,j8,j9,y1,y2,y3,S1,a6]
  exact⟨di,hd,a7,hP,al⟩
open Go.Sort in
theorem Ge {a i j si sj:Nat}{d:Array ByteArray}(hi:si=scanUp (fun x=>strLt x d[a]!) d j i)(hj:sj=scanDown (fun x=>!strLt x d[a]!) d si j):partLoop strLt a i j d=if si>sj then(sj,d)else if (sj-1)+1-(si+1)<j+1-i then partLoop strLt a (si+1) (sj-1) (swp d si sj)else(sj,d):=by
 subst hi;subst hj
 rw[partLoop]
 rfl
open Go.Sort in
theorem OI (c n:Nat)(d:Array ByteArray)(a b pv:Nat)(H:af)(hn:d.size=n)(hc:H[c]?=some (.cells (aJ eS d.toList)))(hb:b≤n)(fZ:a<b)(lU:pv<n)(hs:n<2305843009213693951) :
  W env (.call 150 [.ay c 0 n 1,.int .i64 a,.int .i64 b,.int .i64 pv]) H (fun o H'=>o=.val (.bN [.int .i64 (partition strLt d a b pv).1,.bool (partition strLt d a b pv).2.1])∧gZ c n H (fun x=>x=(partition strLt d a b pv).2.2) H'):=by
 refine W.bS rfl rfl rfl ?_
 have hd:=hc
 have lc:=aW hd
 simp -implicitDefEqProofs (maxSteps:=1000000) (disch:=omega) only[Fv,aa,aD,aE,aF,aG,aH,aI,wA,a0,wS,aZ,wM,S2,op,ef,cl,sq,reduceIte,j4,j5,j6,j7,j8,j9,y1,y2,y3,S1,hd,lc]
 obtain⟨d1,pf,yD,e1,oQ⟩:=gZ.swp (n:=n) (P:=fun x=>x=swp d a pv) (x:=.cells (aJ eS (d.toList.set a d[pv]!))) hd (by rw[Go.Sort.swp_size];exact hn) rfl (bl.refl (fun x=>x=c) H)
 subst e1
 generalize ((H.set c (.cells (aJ eS (d.toList.set a d[pv]!)))).set c (.cells (aJ eS (swp d a pv).toList)))=H1 at *
 have hd:=pf
 have al:=oQ
 obtain⟨si,oV⟩:∃si,si=scanUp (fun x=>strLt x (swp d a pv)[a]!) (swp d a pv) (b-1) (a+1):=⟨_,rfl⟩
 refine W.cM 0 (fun (k:Nat) R H'=>At H' (fun H'=>H'[c]?=some (.cells (aJ eS (swp d a pv).toList))∧bl (fun x=>x=c) H H')∧R 0=.ay c 0 n 1∧R 1=.int .i64 a∧R 0=.ay c 0 n 1∧R 10=.int .i64 k∧R 11=.int .i64 ((b-1):Nat)∧(a+1)≤k∧k≤n∧scanUp (fun x=>strLt x (swp d a pv)[a]!) (swp d a pv) ((b-1)) k=si) (fun k=>(b-1)+1-k) ((a+1))
  (fun R H'=>At H' (fun H'=>H'[c]?=some (.cells (aJ eS (swp d a pv).toList))∧bl (fun x=>x=c) H H')∧R 0=.ay c 0 n 1∧R 1=.int .i64 a∧R 0=.ay c 0 n 1∧R 10=.int .i64 si∧R 11=.int .i64 ((b-1):Nat)∧(a+1)≤si∧si≤n) ⟨.i ⟨hd,al⟩,rfl,rfl,rfl,rfl,rfl,Nat.le_refl _,by omega,oV.symm⟩ ?_ ?_
 ·rintro k R H2⟨⟨hd,al⟩,h0,h1,h4,aB,bj,re,oO,hk⟩
  have lc:=aW hd
  by_cases ey:k≤(b-1)
  ·simp -implicitDefEqProofs (maxSteps:=1000000) (disch:=omega) only[aa,aD,aE,aF,aG,aH,aI,wA,a0,wS,aZ,wM,S2,op,ef,cl,sq,reduceIte,j4,j5,j6,j7,j8,j9,y1,y2,y3,S1,h0,h1,h4,aB,bj,ey,hd,lc]
   refine ae _ _ _ _ _ _ _ _ (dH (swp d a pv)[k]! (swp d a pv)[a]! _) ?_
   rintro u H3⟨hu,jr⟩
   cases hu
   have hx:Ext H2 H3:=by rw[jr];exact Ext.rfl'
   have hd:=hx.get hd
   have lc:=aW hd
   have al:=al.trans (aA (F:=fun _=>False) hx) (fun _ h=>h.elim)
   have cW:strLt (swp d a pv)[k]! (swp d a pv)[a]! = decide (strLt (swp d a pv)[k]! (swp d a pv)[a]! = true):=by simp
   by_cases c1:strLt (swp d a pv)[k]! (swp d a pv)[a]! = true
   ·simp -implicitDefEqProofs (maxSteps:=1000000) (disch:=omega) only[aa,aD,aE,aF,aG,aH,aI,wA,a0,wS,aZ,wM,S2,op,ef,cl,sq,reduceIte,j4,j5,j6,j7,j8,j9,y1,y2,y3,S1,h0,h1,h4,aB,bj,ey,c1]
    rw[scanUp,if_pos (fA (cg ey) (cW.trans (cg c1)))]at hk
    exact⟨k+1,by omega,.i ⟨hd,al⟩,rfl,by omega,by omega,hk⟩
   ·simp -implicitDefEqProofs (maxSteps:=1000000) (disch:=omega) only[aa,aD,aE,aF,aG,aH,aI,wA,a0,wS,aZ,wM,S2,op,ef,cl,sq,reduceIte,j4,j5,j6,j7,j8,j9,y1,y2,y3,S1,h0,h1,h4,aB,bj,ey,c1]
    rw[scanUp,if_neg (dI (cW.trans (cf c1)))]at hk
    subst hk
    exact⟨.i ⟨hd,al⟩,rfl,re,oO⟩
  ·simp -implicitDefEqProofs only[op,ef,cl,sq,reduceIte,j4,j5,j6,j7,j8,j9,y1,y2,y3,S1,h0,h1,h4,aB,bj,ey]
   rw[scanUp,if_neg (dc (cf ey))]at hk
   subst hk
   exact⟨.i ⟨hd,al⟩,rfl,re,oO⟩
 ·rintro R H2⟨⟨hd,al⟩,h0,h1,h4,aB,bj,yK,F5⟩
  simp -implicitDefEqProofs only[op,ef,cl,sq,reduceIte,j4,j5,j6,j7,j8,j9,y1,y2,y3,S1,h0,h1,h4,aB,bj]
  obtain⟨sj,sz⟩:∃sj,sj=scanDown (fun x=>!strLt x (swp d a pv)[a]!) (swp d a pv) si (b-1):=⟨_,rfl⟩
  refine W.cM 2 (fun (k:Nat) R H'=>At H' (fun H'=>H'[c]?=some (.cells (aJ eS (swp d a pv).toList))∧bl (fun x=>x=c) H H')∧R 0=.ay c 0 n 1∧R 1=.int .i64 a∧R 0=.ay c 0 n 1∧R 10=.int .i64 si∧R 11=.int .i64 k∧k≤(b-1)∧scanDown (fun x=>!strLt x (swp d a pv)[a]!) (swp d a pv) si k=sj) (fun k=>k) ((b-1))
   (fun R H'=>At H' (fun H'=>H'[c]?=some (.cells (aJ eS (swp d a pv).toList))∧bl (fun x=>x=c) H H')∧R 0=.ay c 0 n 1∧R 1=.int .i64 a∧R 0=.ay c 0 n 1∧R 10=.int .i64 si∧R 11=.int .i64 sj∧sj≤(b-1)) ⟨.i ⟨hd,al⟩,h0,h1,h4,aB,bj,Nat.le_refl _,sz.symm⟩ ?_ ?_
  ·rintro k R H3⟨⟨hd,al⟩,h0,h1,h4,aB,bj,ey,hk⟩
   have lc:=aW hd
   rw[jL (by omega)]at hk
   by_cases bO:si≤k
   ·simp -implicitDefEqProofs (maxSteps:=1000000) (disch:=omega) only[aa,aD,aE,aF,aG,aH,aI,wA,a0,wS,aZ,wM,S2,op,ef,cl,sq,reduceIte,j4,j5,j6,j7,j8,j9,y1,y2,y3,S1,h0,h1,h4,aB,bj,bO,hd,lc]
    refine ae _ _ _ _ _ _ _ _ (dH (swp d a pv)[k]! (swp d a pv)[a]! _) ?_
    rintro u H4⟨hu,jr⟩
    cases hu
    have hx:Ext H3 H4:=by rw[jr];exact Ext.rfl'
    have hd:=hx.get hd
    have lc:=aW hd
    have al:=al.trans (aA (F:=fun _=>False) hx) (fun _ h=>h.elim)
    have cW:strLt (swp d a pv)[k]! (swp d a pv)[a]! = decide (strLt (swp d a pv)[k]! (swp d a pv)[a]! = true):=by simp
    by_cases c1:strLt (swp d a pv)[k]! (swp d a pv)[a]! = true
    ·simp -implicitDefEqProofs (maxSteps:=1000000) (disch:=omega) only[aa,aD,aE,aF,aG,aH,aI,wA,a0,wS,aZ,wM,S2,op,ef,cl,sq,reduceIte,j4,j5,j6,j7,j8,j9,y1,y2,y3,S1,h0,h1,h4,aB,bj,bO,c1]
     rw[if_neg (dI (by rw[cW,cg c1];rfl))]at hk
     subst hk
     exact⟨.i ⟨hd,al⟩,rfl,ey⟩
    ·simp -implicitDefEqProofs (maxSteps:=1000000) (disch:=omega) only[aa,aD,aE,aF,aG,aH,aI,wA,a0,wS,aZ,wM,S2,op,ef,cl,sq,reduceIte,j4,j5,j6,j7,j8,j9,y1,y2,y3,S1,h0,h1,h4,aB,bj,bO,c1]
     rw[if_pos (fA (cg bO) (eZ (cW.trans (cf c1))))]at hk
     exact⟨k-1,by omega,.i ⟨hd,al⟩,rfl,by omega,hk⟩
   ·simp -implicitDefEqProofs only[op,ef,cl,sq,reduceIte,j4,j5,j6,j7,j8,j9,y1,y2,y3,S1,h0,h1,h4,aB,bj,bO]
    rw[if_neg (dc (cf bO))]at hk
    subst hk
    exact⟨.i ⟨hd,al⟩,rfl,ey⟩
  ·rintro R H3⟨⟨hd,al⟩,h0,h1,h4,aB,bj,F6⟩
   have lc:=aW hd
   by_cases jZ:sj<si
   ·have e:partition strLt d a b pv=(sj,true,swp (swp d a pv) sj a):=by
     simp -implicitDefEqProofs only[partition,←oV,←sz,gt_iff_lt,if_pos jZ]
    rw[e]
    simp -implicitDefEqProofs (maxSteps:=1000000) (disch:=omega) only[aa,aD,aE,aF,aG,aH,aI,wA,a0,wS,aZ,wM,S2,op,ef,cl,sq,reduceIte,j4,j5,j6,j7,j8,j9,y1,y2,y3,S1,h0,h1,h4,aB,bj,jZ,hd,lc]
    exact .swp hd (by rw[swp_size];exact yD) rfl al
   ·obtain⟨r,hr⟩:∃r,r=partLoop strLt a (si+1) (sj-1) (swp (swp d a pv) si sj):=⟨_,rfl⟩
    have e:partition strLt d a b pv=(r.1,false,swp r.2 r.1 a):=by
     simp -implicitDefEqProofs only[partition,←oV,←sz,gt_iff_lt,if_neg jZ,←hr]
    rw[e]
    simp -implicitDefEqProofs (maxSteps:=1000000) (disch:=omega) only[aa,aD,aE,aF,aG,aH,aI,wA,a0,wS,aZ,wM,S2,op,ef,cl,sq,reduceIte,j4,j5,j6,j7,j8,j9,y1,y2,y3,S1,h0,h1,h4,aB,bj,jZ,hd,lc]
    obtain⟨d2,cr,gX,e2,dN⟩:=gZ.swp (n:=n) (P:=fun x=>x=swp (swp d a pv) si sj) (x:=.cells (aJ eS ((swp d a pv).toList.set si (swp d a pv)[sj]!))) hd (by rw[swp_size];exact yD) rfl al
    subst e2
    generalize ((H3.set c (.cells (aJ eS ((swp d a pv).toList.set si (swp d a pv)[sj]!)))).set c (.cells (aJ eS (swp (swp d a pv) si sj).toList)))=H5 at *
    refine W.cM 4 (fun (q:Nat×Nat) R H'=>At H' (fun H'=>gZ c n H (fun di=>partLoop strLt a q.1 q.2 di=r) H')∧R 0=.ay c 0 n 1∧R 1=.int .i64 a∧R 0=.ay c 0 n 1∧R 10=.int .i64 q.1∧R 11=.int .i64 q.2∧a<q.1∧q.2<n∧q.1≤n) (fun q=>q.2+1-q.1) (si+1,sj-1)
     (fun R H'=>At H' (fun H'=>gZ c n H (fun di=>di=r.2) H')∧R 0=.ay c 0 n 1∧R 1=.int .i64 a∧R 0=.ay c 0 n 1∧R 11=.int .i64 r.1∧r.1<n) ⟨.i ⟨_,cr,gX,hr.symm,dN⟩,?_,?_,?_,?_,?_,by simp only;omega,by simp only;omega,by simp only;omega⟩ ?_ ?_
    ·simp -implicitDefEqProofs only[op,ef,cl,sq,reduceIte,j4,j5,j6,j7,j8,j9,y1,y2,y3,S1,h0]
    ·simp -implicitDefEqProofs only[op,ef,cl,sq,reduceIte,j4,j5,j6,j7,j8,j9,y1,y2,y3,S1,h1]
    ·simp -implicitDefEqProofs only[op,ef,cl,sq,reduceIte,j4,j5,j6,j7,j8,j9,y1,y2,y3,S1,h4]
    ·simp -implicitDefEqProofs only[op,ef,cl,sq,reduceIte,j4,j5,j6,j7,j8,j9,y1,y2,y3,S1,aB]
    ·simp -implicitDefEqProofs only[op,ef,cl,sq,reduceIte,j4,j5,j6,j7,j8,j9,y1,y2,y3,S1,bj]
    ·rintro⟨i,j⟩ R H1 ⟨⟨di,hd,a7,hP,al⟩,h0,h1,h4,aB,bj,FV,x8,iB⟩
     simp only at hP aB bj FV x8 iB ⊢
     simp -implicitDefEqProofs only[op,ef,cl,sq,reduceIte,j4,j5,j6,j7,j8,j9,y1,y2,y3,S1,h0,h1,h4,aB,bj]
     clear oV sz
     obtain⟨si,oV⟩:∃si,si=scanUp (fun x=>strLt x di[a]!) di j i:=⟨_,rfl⟩
     refine W.cM 6 (fun (k:Nat) R H'=>At H' (fun H'=>H'[c]?=some (.cells (aJ eS di.toList))∧bl (fun x=>x=c) H H')∧R 0=.ay c 0 n 1∧R 1=.int .i64 a∧R 0=.ay c 0 n 1∧R 10=.int .i64 k∧R 11=.int .i64 (j:Nat)∧i≤k∧k≤n∧scanUp (fun x=>strLt x di[a]!) di (j) k=si) (fun k=>j+1-k) (i)
      (fun R H'=>At H' (fun H'=>H'[c]?=some (.cells (aJ eS di.toList))∧bl (fun x=>x=c) H H')∧R 0=.ay c 0 n 1∧R 1=.int .i64 a∧R 0=.ay c 0 n 1∧R 10=.int .i64 si∧R 11=.int .i64 (j:Nat)∧i≤si∧si≤n) ⟨.i ⟨hd,al⟩,h0,h1,h4,aB,bj,Nat.le_refl _,by omega,oV.symm⟩ ?_ ?_
     ·rintro k R H2⟨⟨hd,al⟩,h0,h1,h4,aB,bj,re,oO,hk⟩
      have lc:=aW hd
      by_cases ey:k≤j
      ·simp -implicitDefEqProofs (maxSteps:=1000000) (disch:=omega) only[aa,aD,aE,aF,aG,aH,aI,wA,a0,wS,aZ,wM,S2,op,ef,cl,sq,reduceIte,j4,j5,j6,j7,j8,j9,y1,y2,y3,S1,h0,h1,h4,aB,bj,ey,hd,lc]
       refine ae _ _ _ _ _ _ _ _ (dH di[k]! di[a]! _) ?_
       rintro u H3⟨hu,jr⟩
       cases hu
       have hx:Ext H2 H3:=by rw[jr];exact Ext.rfl'
       have hd:=hx.get hd
       have lc:=aW hd
       have al:=al.trans (aA (F:=fun _=>False) hx) (fun _ h=>h.elim)
       have cW:strLt di[k]! di[a]! = decide (strLt di[k]! di[a]! = true):=by simp
       by_cases c1:strLt di[k]! di[a]! = true
       ·simp -implicitDefEqProofs (maxSteps:=1000000) (disch:=omega) only[aa,aD,aE,aF,aG,aH,aI,wA,a0,wS,aZ,wM,S2,op,ef,cl,sq,reduceIte,j4,j5,j6,j7,j8,j9,y1,y2,y3,S1,h0,h1,h4,aB,bj,ey,c1]
        rw[scanUp,if_pos (fA (cg ey) (cW.trans (cg c1)))]at hk
        exact⟨k+1,by omega,.i ⟨hd,al⟩,rfl,by omega,by omega,hk⟩
       ·simp -implicitDefEqProofs (maxSteps:=1000000) (disch:=omega) only[aa,aD,aE,aF,aG,aH,aI,wA,a0,wS,aZ,wM,S2,op,ef,cl,sq,reduceIte,j4,j5,j6,j7,j8,j9,y1,y2,y3,S1,h0,h1,h4,aB,bj,ey,c1]
        rw[scanUp,if_neg (dI (cW.trans (cf c1)))]at hk
        subst hk
        exact⟨.i ⟨hd,al⟩,rfl,re,oO⟩
      ·simp -implicitDefEqProofs only[op,ef,cl,sq,reduceIte,j4,j5,j6,j7,j8,j9,y1,y2,y3,S1,h0,h1,h4,aB,bj,ey]
       rw[scanUp,if_neg (dc (cf ey))]at hk
       subst hk
       exact⟨.i ⟨hd,al⟩,rfl,re,oO⟩
     ·rintro R H2⟨⟨hd,al⟩,h0,h1,h4,aB,bj,yK,F5⟩
      simp -implicitDefEqProofs only[op,ef,cl,sq,reduceIte,j4,j5,j6,j7,j8,j9,y1,y2,y3,S1,h0,h1,h4,aB,bj]
      obtain⟨sj,sz⟩:∃sj,sj=scanDown (fun x=>!strLt x di[a]!) di si j:=⟨_,rfl⟩
      refine W.cM 8 (fun (k:Nat) R H'=>At H' (fun H'=>H'[c]?=some (.cells (aJ eS di.toList))∧bl (fun x=>x=c) H H')∧R 0=.ay c 0 n 1∧R 1=.int .i64 a∧R 0=.ay c 0 n 1∧R 10=.int .i64 si∧R 11=.int .i64 k∧k≤j∧scanDown (fun x=>!strLt x di[a]!) di si k=sj) (fun k=>k) (j)
       (fun R H'=>At H' (fun H'=>H'[c]?=some (.cells (aJ eS di.toList))∧bl (fun x=>x=c) H H')∧R 0=.ay c 0 n 1∧R 1=.int .i64 a∧R 0=.ay c 0 n 1∧R 10=.int .i64 si∧R 11=.int .i64 sj∧sj≤j) ⟨.i ⟨hd,al⟩,h0,h1,h4,aB,bj,Nat.le_refl _,sz.symm⟩ ?_ ?_
      ·rintro k R H3⟨⟨hd,al⟩,h0,h1,h4,aB,bj,ey,hk⟩
       have lc:=aW hd
       rw[jL (by omega)]at hk
       by_cases bO:si≤k
       ·simp -implicitDefEqProofs (maxSteps:=1000000) (disch:=omega) only[aa,aD,aE,aF,aG,aH,aI,wA,a0,wS,aZ,wM,S2,op,ef,cl,sq,reduceIte,j4,j5,j6,j7,j8,j9,y1,y2,y3,S1,h0,h1,h4,aB,bj,bO,hd,lc]
        refine ae _ _ _ _ _ _ _ _ (dH di[k]! di[a]! _) ?_
        rintro u H4⟨hu,jr⟩
        cases hu
        have hx:Ext H3 H4:=by rw[jr];exact Ext.rfl'
        have hd:=hx.get hd
        have lc:=aW hd
        have al:=al.trans (aA (F:=fun _=>False) hx) (fun _ h=>h.elim)
        have cW:strLt di[k]! di[a]! = decide (strLt di[k]! di[a]! = true):=by simp
        by_cases c1:strLt di[k]! di[a]! = true
        ·simp -implicitDefEqProofs (maxSteps:=1000000) (disch:=omega) only[aa,aD,aE,aF,aG,aH,aI,wA,a0,wS,aZ,wM,S2,op,ef,cl,sq,reduceIte,j4,j5,j6,j7,j8,j9,y1,y2,y3,S1,h0,h1,h4,aB,bj,bO,c1]
         rw[if_neg (dI (by rw[cW,cg c1];rfl))]at hk
         subst hk
         exact⟨.i ⟨hd,al⟩,rfl,ey⟩
        ·simp -implicitDefEqProofs (maxSteps:=1000000) (disch:=omega) only[aa,aD,aE,aF,aG,aH,aI,wA,a0,wS,aZ,wM,S2,op,ef,cl,sq,reduceIte,j4,j5,j6,j7,j8,j9,y1,y2,y3,S1,h0,h1,h4,aB,bj,bO,c1]
         rw[if_pos (fA (cg bO) (eZ (cW.trans (cf c1))))]at hk
         exact⟨k-1,by omega,.i ⟨hd,al⟩,rfl,by omega,hk⟩
       ·simp -implicitDefEqProofs only[op,ef,cl,sq,reduceIte,j4,j5,j6,j7,j8,j9,y1,y2,y3,S1,h0,h1,h4,aB,bj,bO]
        rw[if_neg (dc (cf bO))]at hk
        subst hk
        exact⟨.i ⟨hd,al⟩,rfl,ey⟩
      ·rintro R H3⟨⟨hd,al⟩,h0,h1,h4,aB,bj,F6⟩
       have lc:=aW hd
       rw[Ge oV sz]at hP
       by_cases jZ:sj<si
       ·rw[if_pos jZ]at hP
        simp -implicitDefEqProofs only[op,ef,cl,sq,reduceIte,j4,j5,j6,j7,j8,j9,y1,y2,y3,S1,h0,h1,h4,aB,bj,jZ]
        exact⟨.i ⟨di,hd,a7,by rw[←hP],al⟩,by rw[←hP],by rw[←hP];simp only;omega⟩
       ·rw[if_neg jZ,if_pos (by omega)]at hP
        simp -implicitDefEqProofs (maxSteps:=1000000) (disch:=omega) only[aa,aD,aE,aF,aG,aH,aI,wA,a0,wS,aZ,wM,S2,op,ef,cl,sq,reduceIte,j4,j5,j6,j7,j8,j9,y1,y2,y3,S1,h0,h1,h4,aB,bj,jZ,hd,lc]
        exact⟨(si+1,sj-1),by simp only;omega,.i (.swp hd (by rw[swp_size];exact a7) hP al),rfl,rfl,by simp only;omega,by simp only;omega,by simp only;omega⟩
    ·rintro R H1⟨⟨di,hd,a7,rfl,al⟩,h0,h1,h4,bj,Cu⟩
     have lc:=aW hd
     simp -implicitDefEqProofs (maxSteps:=1000000) (disch:=omega) only[aa,aD,aE,aF,aG,aH,aI,wA,a0,wS,aZ,wM,S2,op,ef,cl,sq,reduceIte,j4,j5,j6,j7,j8,j9,y1,y2,y3,S1,h0,h1,h4,bj,hd,lc]
     exact .swp hd (by rw[swp_size];exact a7) rfl al
open Go.Sort in
theorem sA {d:Array ByteArray}{k:Nat}(h:1≤k):shiftDown strLt k d=if (!strLt d[k]! d[k-1]!)=true then d else shiftDown strLt (k-1) (swp d k (k-1)):=by
 cases k with
 | zero=>omega
 | succ k=>rw[shiftDown];rfl
open Go.Sort in
theorem OJ (c n:Nat)(d:Array ByteArray)(a b:Nat)(H:af)(hn:d.size=n)(hc:H[c]?=some (.cells (aJ eS d.toList)))(hb:b≤n)(fZ:a<b)(hs:n<2305843009213693951) :
  W env (.call 147 [.ay c 0 n 1,.int .i64 a,.int .i64 b]) H (fun o H'=>o=.val (.bool (partialInsertionSort strLt d a b).2)∧gZ c n H (fun x=>x=(partialInsertionSort strLt d a b).1) H'):=by
 refine W.bS rfl rfl rfl ?_
 obtain⟨r,hr⟩:∃r,r=partialInsertionSort strLt d a b:=⟨_,rfl⟩
 rw[←hr]
 simp -implicitDefEqProofs (maxSteps:=1000000) (disch:=omega) only[Fs,aa,aD,aE,aF,aG,aH,aI,wA,a0,wS,aZ,wM,S2,op,ef,cl,sq,reduceIte,j4,j5,j6,j7,j8,j9,y1,y2,y3,S1]
 refine W.cM 0 (fun (j:Nat) R H'=>At H' (fun H'=>∃i,R 7=.int .i64 (i:Nat)∧a<i∧i≤b∧gZ c n H (fun di=>partialIns strLt a b (5-j) i di=r) H')∧R 0=.ay c 0 n 1∧R 1=.int .i64 a∧R 2=.int .i64 b∧R 0=.ay c 0 n 1∧R 8=.int .i64 j∧j≤5) (fun j=>5-j) 0
  (fun R H'=>At H' (fun H'=>gZ c n H (fun di=>(di,false)=r) H')) ⟨.i ⟨a+1,rfl,by omega,by omega,d,hc,hn,hr.symm,bl.refl _ _⟩,rfl,rfl,rfl,rfl,rfl,by omega⟩ ?_ ?_
 ·rintro j R H1⟨⟨i,h9,FV,Zh,di,hd,a7,hP,al⟩,h0,h1,h2,h3,aC,hj⟩
  by_cases Zi:j<5
  rotate_left
  ·have:j=5:=by omega
   subst this
   simp -implicitDefEqProofs only[op,ef,cl,sq,reduceIte,j4,j5,j6,j7,j8,j9,y1,y2,y3,S1,h0,h1,h2,h3,aC]
   exact .i ⟨di,hd,a7,hP,al⟩
  obtain⟨s,Ou⟩:∃s,5-j=s+1:=⟨4-j,by omega⟩
  have uP:5-(j+1)=s:=by omega
  rw[Ou,partialIns]at hP
  simp -implicitDefEqProofs only[op,ef,cl,sq,reduceIte,j4,j5,j6,j7,j8,j9,y1,y2,y3,S1,h0,h1,h2,h3,aC,Zi]
  obtain⟨si,oV⟩:∃si,si=scanSorted strLt di b i:=⟨_,rfl⟩
  rw[←oV]at hP
  refine W.cM 2 (fun (k:Nat) R H'=>At H' (fun H'=>H'[c]?=some (.cells (aJ eS di.toList))∧bl (fun x=>x=c) H H')∧R 0=.ay c 0 n 1∧R 1=.int .i64 a∧R 2=.int .i64 b∧R 0=.ay c 0 n 1∧R 7=.int .i64 k∧R 8=.int .i64 j∧i≤k∧k≤b∧scanSorted strLt di b k=si) (fun k=>b-k) i
   (fun R H'=>At H' (fun H'=>H'[c]?=some (.cells (aJ eS di.toList))∧bl (fun x=>x=c) H H')∧R 0=.ay c 0 n 1∧R 1=.int .i64 a∧R 2=.int .i64 b∧R 0=.ay c 0 n 1∧R 7=.int .i64 si∧R 8=.int .i64 j∧i≤si∧si≤b) ⟨.i ⟨hd,al⟩,?_,?_,?_,?_,?_,?_,Nat.le_refl _,Zh,oV.symm⟩ ?_ ?_
  ·simp -implicitDefEqProofs only[op,ef,cl,sq,reduceIte,j4,j5,j6,j7,j8,j9,y1,y2,y3,S1,h0]
  ·simp -implicitDefEqProofs only[op,ef,cl,sq,reduceIte,j4,j5,j6,j7,j8,j9,y1,y2,y3,S1,h1]
  ·simp -implicitDefEqProofs only[op,ef,cl,sq,reduceIte,j4,j5,j6,j7,j8,j9,y1,y2,y3,S1,h2]
  ·simp -implicitDefEqProofs only[op,ef,cl,sq,reduceIte,j4,j5,j6,j7,j8,j9,y1,y2,y3,S1,h3]
  ·simp -implicitDefEqProofs only[op,ef,cl,sq,reduceIte,j4,j5,j6,j7,j8,j9,y1,y2,y3,S1,h9]
  ·simp -implicitDefEqProofs only[op,ef,cl,sq,reduceIte,j4,j5,j6,j7,j8,j9,y1,y2,y3,S1,aC]
  ·rintro k R H2⟨⟨hd,al⟩,h0,h1,h2,h3,h9,aC,re,Bj,hk⟩
   have lc:=aW hd
   by_cases bO:k<b
   ·simp -implicitDefEqProofs (maxSteps:=1000000) (disch:=omega) only[aa,aD,aE,aF,aG,aH,aI,wA,a0,wS,aZ,wM,S2,op,ef,cl,sq,reduceIte,j4,j5,j6,j7,j8,j9,y1,y2,y3,S1,h0,h1,h2,h3,h9,aC,bO,hd,lc]
    refine ae _ _ _ _ _ _ _ _ (dH di[k]! di[k-1]! _) ?_
    rintro u H3⟨hu,jr⟩
    cases hu
    have hx:Ext H2 H3:=by rw[jr];exact Ext.rfl'
    have hd:=hx.get hd
    have lc:=aW hd
    have al:=al.trans (aA (F:=fun _=>False) hx) (fun _ h=>h.elim)
    have cW:strLt di[k]! di[k-1]! = decide (strLt di[k]! di[k-1]! = true):=by simp
    by_cases c1:strLt di[k]! di[k-1]! = true
    ·simp -implicitDefEqProofs (maxSteps:=1000000) (disch:=omega) only[aa,aD,aE,aF,aG,aH,aI,wA,a0,wS,aZ,wM,S2,op,ef,cl,sq,reduceIte,j4,j5,j6,j7,j8,j9,y1,y2,y3,S1,h0,h1,h2,h3,h9,aC,bO,c1]
     rw[scanSorted,if_neg (dI (by rw[cW,cg c1];rfl))]at hk
     subst hk
     exact⟨.i ⟨hd,al⟩,rfl,re,Bj⟩
    ·simp -implicitDefEqProofs (maxSteps:=1000000) (disch:=omega) only[aa,aD,aE,aF,aG,aH,aI,wA,a0,wS,aZ,wM,S2,op,ef,cl,sq,reduceIte,j4,j5,j6,j7,j8,j9,y1,y2,y3,S1,h0,h1,h2,h3,h9,aC,bO,c1]
     rw[scanSorted,if_pos (fA (cg bO) (eZ (cW.trans (cf c1))))]at hk
     exact⟨k+1,by omega,.i ⟨hd,al⟩,rfl,by omega,by omega,hk⟩
   ·simp -implicitDefEqProofs only[op,ef,cl,sq,reduceIte,j4,j5,j6,j7,j8,j9,y1,y2,y3,S1,h0,h1,h2,h3,h9,aC,bO]
    rw[scanSorted,if_neg (dc (cf bO))]at hk
    subst hk
    exact⟨.i ⟨hd,al⟩,rfl,re,Bj⟩
  ·rintro R H2⟨⟨hd,al⟩,h0,h1,h2,h3,h9,aC,yK,Zj⟩
   have lc:=aW hd
   by_cases kb:si=b
   ·rw[if_pos kb]at hP
    have e1:((si:Int)==(b:Int))=true:=by rw[kb];simp
    simp -implicitDefEqProofs (maxSteps:=1000000) (disch:=omega) only[aa,aD,aE,aF,aG,aH,aI,wA,a0,wS,aZ,wM,S2,op,ef,cl,sq,reduceIte,j4,j5,j6,j7,j8,j9,y1,y2,y3,S1,h0,h1,h2,h3,h9,aC,e1]
    rw[←hP]
    exact⟨rfl,di,hd,a7,rfl,al⟩
   rw[if_neg kb]at hP
   have e1:((si:Int)==(b:Int))=false:=by simp;omega
   by_cases uO:b-a<50
   ·rw[if_pos uO]at hP
    simp -implicitDefEqProofs (maxSteps:=1000000) (disch:=omega) only[aa,aD,aE,aF,aG,aH,aI,wA,a0,wS,aZ,wM,S2,op,ef,cl,sq,reduceIte,j4,j5,j6,j7,j8,j9,y1,y2,y3,S1,h0,h1,h2,h3,h9,aC,e1,uO]
    rw[←hP]
    exact⟨rfl,di,hd,a7,rfl,al⟩
   rw[if_neg uO]at hP
   simp -implicitDefEqProofs (maxSteps:=1000000) (disch:=omega) only[aa,aD,aE,aF,aG,aH,aI,wA,a0,wS,aZ,wM,S2,op,ef,cl,sq,reduceIte,j4,j5,j6,j7,j8,j9,y1,y2,y3,S1,h0,h1,h2,h3,h9,aC,e1,uO,hd,lc]
   obtain⟨d3,nJ⟩:∃d3,d3=if si-a≥2 then shiftDown strLt (si-1) (swp di si (si-1))else swp di si (si-1):=⟨_,rfl⟩
   obtain⟨d4,rf⟩:∃d4,d4=if b-si≥2 then shiftUp strLt b (si+1) d3 else d3:=⟨_,rfl⟩
   have hP:partialIns strLt a b s si d4=r:=by rw[rf,nJ];exact hP
   obtain⟨d2,cr,gX,e2,dN⟩:=gZ.swp (n:=n) (P:=fun x=>x=swp di si (si-1)) (x:=.cells (aJ eS (di.toList.set si di[si-1]!))) hd (by rw[swp_size];exact a7) rfl al
   subst e2
   generalize ((H2.set c (.cells (aJ eS (di.toList.set si di[si-1]!)))).set c (.cells (aJ eS (swp di si (si-1)).toList)))=H5 at *
   by_cases hA:2≤si-a
   ·rw[if_pos hA]at nJ
    simp -implicitDefEqProofs (maxSteps:=1000000) (disch:=omega) only[aa,aD,aE,aF,aG,aH,aI,wA,a0,wS,aZ,wM,S2,op,ef,cl,sq,reduceIte,j4,j5,j6,j7,j8,j9,y1,y2,y3,S1,h0,h1,h2,h3,h9,aC,hA]
    refine W.cM 4 (fun (k:Nat) R H'=>At H' (fun H'=>gZ c n H (fun dx=>shiftDown strLt k dx=d3) H')∧R 0=.ay c 0 n 1∧R 1=.int .i64 a∧R 2=.int .i64 b∧R 0=.ay c 0 n 1∧R 7=.int .i64 si∧R 8=.int .i64 j∧R 9=.int .i64 k∧k<b) (fun k=>k) (si-1)
     (fun R H'=>At H' (fun H'=>gZ c n H (fun dx=>dx=d3) H')∧R 0=.ay c 0 n 1∧R 1=.int .i64 a∧R 2=.int .i64 b∧R 0=.ay c 0 n 1∧R 7=.int .i64 si∧R 8=.int .i64 j) ⟨.i ⟨_,cr,gX,nJ.symm,dN⟩,?_,?_,?_,?_,?_,?_,?_,by omega⟩ ?_ ?_
    ·simp -implicitDefEqProofs only[op,ef,cl,sq,reduceIte,j4,j5,j6,j7,j8,j9,y1,y2,y3,S1,h0]
    ·simp -implicitDefEqProofs only[op,ef,cl,sq,reduceIte,j4,j5,j6,j7,j8,j9,y1,y2,y3,S1,h1]
    ·simp -implicitDefEqProofs only[op,ef,cl,sq,reduceIte,j4,j5,j6,j7,j8,j9,y1,y2,y3,S1,h2]
    ·simp -implicitDefEqProofs only[op,ef,cl,sq,reduceIte,j4,j5,j6,j7,j8,j9,y1,y2,y3,S1,h3]
    ·simp -implicitDefEqProofs only[op,ef,cl,sq,reduceIte,j4,j5,j6,j7,j8,j9,y1,y2,y3,S1,h9]
    ·simp -implicitDefEqProofs only[op,ef,cl,sq,reduceIte,j4,j5,j6,j7,j8,j9,y1,y2,y3,S1,aC]
    ·simp -implicitDefEqProofs only[op,ef,cl,sq,reduceIte,j4,j5,j6,j7,j8,j9,y1,y2,y3,S1]
    ·rintro k R H2⟨⟨dx,hd,a7,hk,al⟩,h0,h1,h2,h3,h9,aC,a6,Bj⟩
     have lc:=aW hd
     by_cases om:1≤k
     ·simp -implicitDefEqProofs (maxSteps:=1000000) (disch:=omega) only[aa,aD,aE,aF,aG,aH,aI,wA,a0,wS,aZ,wM,S2,op,ef,cl,sq,reduceIte,j4,j5,j6,j7,j8,j9,y1,y2,y3,S1,h0,h1,h2,h3,h9,aC,a6,om,hd,lc]
      refine ae _ _ _ _ _ _ _ _ (dH dx[k]! dx[k-1]! _) ?_
      rintro u H3⟨hu,jr⟩
      cases hu
      have hx:Ext H2 H3:=by rw[jr];exact Ext.rfl'
      have hd:=hx.get hd
      have lc:=aW hd
      have al:=al.trans (aA (F:=fun _=>False) hx) (fun _ h=>h.elim)
      have cW:strLt dx[k]! dx[k-1]! = decide (strLt dx[k]! dx[k-1]! = true):=by simp
      rw[sA om]at hk
      by_cases c1:strLt dx[k]! dx[k-1]! = true
      ·simp -implicitDefEqProofs (maxSteps:=1000000) (disch:=omega) only[aa,aD,aE,aF,aG,aH,aI,wA,a0,wS,aZ,wM,S2,op,ef,cl,sq,reduceIte,j4,j5,j6,j7,j8,j9,y1,y2,y3,S1,h0,h1,h2,h3,h9,aC,a6,om,hd,lc,c1]
       rw[if_neg (jS (cW.trans (cg c1)))]at hk
       exact⟨k-1,by omega,.i (.swp hd (by rw[swp_size];exact a7) hk al),rfl,by omega⟩
      ·simp -implicitDefEqProofs (maxSteps:=1000000) (disch:=omega) only[aa,aD,aE,aF,aG,aH,aI,wA,a0,wS,aZ,wM,S2,op,ef,cl,sq,reduceIte,j4,j5,j6,j7,j8,j9,y1,y2,y3,S1,h0,h1,h2,h3,h9,aC,a6,om,hd,lc,c1]
       rw[if_pos (eZ (cW.trans (cf c1)))]at hk
       exact .i ⟨dx,hd,a7,hk,al⟩
     ·have Qw:k=0:=by omega
      subst Qw
      simp -implicitDefEqProofs only[op,ef,cl,sq,reduceIte,j4,j5,j6,j7,j8,j9,y1,y2,y3,S1,h0,h1,h2,h3,h9,aC,a6,om]
      rw[shiftDown]at hk
      exact .i ⟨dx,hd,a7,hk,al⟩
    ·rintro R H2⟨⟨dx,hd,oW,rfl,al⟩,h0,h1,h2,h3,h9,aC⟩
     have lc:=aW hd
     by_cases hB:2≤b-si
     ·simp -implicitDefEqProofs (maxSteps:=1000000) (disch:=omega) only[aa,aD,aE,aF,aG,aH,aI,wA,a0,wS,aZ,wM,S2,op,ef,cl,sq,reduceIte,j4,j5,j6,j7,j8,j9,y1,y2,y3,S1,h0,h1,h2,h3,h9,aC,hB]
      rw[if_pos hB]at rf
      refine W.cM 6 (fun (k:Nat) R H'=>At H' (fun H'=>gZ c n H (fun dx=>shiftUp strLt b k dx=d4) H')∧R 0=.ay c 0 n 1∧R 1=.int .i64 a∧R 2=.int .i64 b∧R 0=.ay c 0 n 1∧R 7=.int .i64 si∧R 8=.int .i64 j∧R 10=.int .i64 k∧1≤k∧k≤b) (fun k=>b-k) (si+1)
       (fun R H'=>At H' (fun H'=>gZ c n H (fun dx=>dx=d4) H')∧R 0=.ay c 0 n 1∧R 1=.int .i64 a∧R 2=.int .i64 b∧R 0=.ay c 0 n 1∧R 7=.int .i64 si∧R 8=.int .i64 j) ⟨.i ⟨dx,hd,oW,rf.symm,al⟩,?_,?_,?_,?_,?_,?_,?_,by omega,by omega⟩ ?_ ?_
      ·simp -implicitDefEqProofs only[op,ef,cl,sq,reduceIte,j4,j5,j6,j7,j8,j9,y1,y2,y3,S1,h0]
      ·simp -implicitDefEqProofs only[op,ef,cl,sq,reduceIte,j4,j5,j6,j7,j8,j9,y1,y2,y3,S1,h1]
      ·simp -implicitDefEqProofs only[op,ef,cl,sq,reduceIte,j4,j5,j6,j7,j8,j9,y1,y2,y3,S1,h2]
      ·simp -implicitDefEqProofs only[op,ef,cl,sq,reduceIte,j4,j5,j6,j7,j8,j9,y1,y2,y3,S1,h3]
      ·simp -implicitDefEqProofs only[op,ef,cl,sq,reduceIte,j4,j5,j6,j7,j8,j9,y1,y2,y3,S1,h9]
      ·simp -implicitDefEqProofs only[op,ef,cl,sq,reduceIte,j4,j5,j6,j7,j8,j9,y1,y2,y3,S1,aC]
      ·simp -implicitDefEqProofs only[op,ef,cl,sq,reduceIte,j4,j5,j6,j7,j8,j9,y1,y2,y3,S1]
      ·rintro k R H2⟨⟨dx,hd,a7,hk,al⟩,h0,h1,h2,h3,h9,aC,aB,om,Bj⟩
       have lc:=aW hd
       by_cases bO:k<b
       ·simp -implicitDefEqProofs (maxSteps:=1000000) (disch:=omega) only[aa,aD,aE,aF,aG,aH,aI,wA,a0,wS,aZ,wM,S2,op,ef,cl,sq,reduceIte,j4,j5,j6,j7,j8,j9,y1,y2,y3,S1,h0,h1,h2,h3,h9,aC,aB,bO,hd,lc]
        refine ae _ _ _ _ _ _ _ _ (dH dx[k]! dx[k-1]! _) ?_
        rintro u H3⟨hu,jr⟩
        cases hu
        have hx:Ext H2 H3:=by rw[jr];exact Ext.rfl'
        have hd:=hx.get hd
        have lc:=aW hd
        have al:=al.trans (aA (F:=fun _=>False) hx) (fun _ h=>h.elim)
        have cW:strLt dx[k]! dx[k-1]! = decide (strLt dx[k]! dx[k-1]! = true):=by simp
        rw[shiftUp,if_pos bO]at hk
        by_cases c1:strLt dx[k]! dx[k-1]! = true
        ·simp -implicitDefEqProofs (maxSteps:=1000000) (disch:=omega) only[aa,aD,aE,aF,aG,aH,aI,wA,a0,wS,aZ,wM,S2,op,ef,cl,sq,reduceIte,j4,j5,j6,j7,j8,j9,y1,y2,y3,S1,h0,h1,h2,h3,h9,aC,aB,bO,hd,lc,c1]
         rw[if_neg (jS (cW.trans (cg c1)))]at hk
         exact⟨k+1,by omega,.i (.swp hd (by rw[swp_size];exact a7) hk al),rfl,by omega,by omega⟩
        ·simp -implicitDefEqProofs (maxSteps:=1000000) (disch:=omega) only[aa,aD,aE,aF,aG,aH,aI,wA,a0,wS,aZ,wM,S2,op,ef,cl,sq,reduceIte,j4,j5,j6,j7,j8,j9,y1,y2,y3,S1,h0,h1,h2,h3,h9,aC,aB,bO,hd,lc,c1]
         rw[if_pos (eZ (cW.trans (cf c1)))]at hk
         exact .i ⟨dx,hd,a7,hk,al⟩
       ·simp -implicitDefEqProofs only[op,ef,cl,sq,reduceIte,j4,j5,j6,j7,j8,j9,y1,y2,y3,S1,h0,h1,h2,h3,h9,aC,aB,bO]
        rw[shiftUp,if_neg bO]at hk
        exact .i ⟨dx,hd,a7,hk,al⟩
      ·rintro R H2⟨⟨dx,hd,a7,rfl,al⟩,h0,h1,h2,h3,h9,aC⟩
       simp -implicitDefEqProofs (maxSteps:=1000000) (disch:=omega) only[aa,aD,aE,aF,aG,aH,aI,wA,a0,wS,aZ,wM,S2,op,ef,cl,sq,reduceIte,j4,j5,j6,j7,j8,j9,y1,y2,y3,S1,h0,h1,h2,h3,h9,aC]
       exact⟨j+1,by omega,.i ⟨si,rfl,by omega,by omega,dx,hd,a7,by rw[uP];exact hP,al⟩,rfl,by omega⟩
     ·rw[if_neg hB]at rf
      subst rf
      simp -implicitDefEqProofs (maxSteps:=1000000) (disch:=omega) only[aa,aD,aE,aF,aG,aH,aI,wA,a0,wS,aZ,wM,S2,op,ef,cl,sq,reduceIte,j4,j5,j6,j7,j8,j9,y1,y2,y3,S1,h0,h1,h2,h3,h9,aC,hB]
      exact⟨j+1,by omega,.i ⟨si,rfl,by omega,by omega,d4,hd,oW,by rw[uP];exact hP,al⟩,rfl,by omega⟩
   ·rw[if_neg hA]at nJ
    simp -implicitDefEqProofs (maxSteps:=1000000) (disch:=omega) only[aa,aD,aE,aF,aG,aH,aI,wA,a0,wS,aZ,wM,S2,op,ef,cl,sq,reduceIte,j4,j5,j6,j7,j8,j9,y1,y2,y3,S1,h0,h1,h2,h3,h9,aC,hA]
    have hd:=cr
    have oW:=gX
    have al:=dN
    rw[←nJ]at hd oW
    by_cases hB:2≤b-si
    ·simp -implicitDefEqProofs (maxSteps:=1000000) (disch:=omega) only[aa,aD,aE,aF,aG,aH,aI,wA,a0,wS,aZ,wM,S2,op,ef,cl,sq,reduceIte,j4,j5,j6,j7,j8,j9,y1,y2,y3,S1,h0,h1,h2,h3,h9,aC,hB]
     rw[if_pos hB]at rf
     refine W.cM 6 (fun (k:Nat) R H'=>At H' (fun H'=>gZ c n H (fun dx=>shiftUp strLt b k dx=d4) H')∧R 0=.ay c 0 n 1∧R 1=.int .i64 a∧R 2=.int .i64 b∧R 0=.ay c 0 n 1∧R 7=.int .i64 si∧R 8=.int .i64 j∧R 10=.int .i64 k∧1≤k∧k≤b) (fun k=>b-k) (si+1)
      (fun R H'=>At H' (fun H'=>gZ c n H (fun dx=>dx=d4) H')∧R 0=.ay c 0 n 1∧R 1=.int .i64 a∧R 2=.int .i64 b∧R 0=.ay c 0 n 1∧R 7=.int .i64 si∧R 8=.int .i64 j) ⟨.i ⟨d3,hd,oW,rf.symm,al⟩,?_,?_,?_,?_,?_,?_,?_,by omega,by omega⟩ ?_ ?_
     ·simp -implicitDefEqProofs only[op,ef,cl,sq,reduceIte,j4,j5,j6,j7,j8,j9,y1,y2,y3,S1,h0]
     ·simp -implicitDefEqProofs only[op,ef,cl,sq,reduceIte,j4,j5,j6,j7,j8,j9,y1,y2,y3,S1,h1]
     ·simp -implicitDefEqProofs only[op,ef,cl,sq,reduceIte,j4,j5,j6,j7,j8,j9,y1,y2,y3,S1,h2]
     ·simp -implicitDefEqProofs only[op,ef,cl,sq,reduceIte,j4,j5,j6,j7,j8,j9,y1,y2,y3,S1,h3]
     ·simp -implicitDefEqProofs only[op,ef,cl,sq,reduceIte,j4,j5,j6,j7,j8,j9,y1,y2,y3,S1,h9]
     ·simp -implicitDefEqProofs only[op,ef,cl,sq,reduceIte,j4,j5,j6,j7,j8,j9,y1,y2,y3,S1,aC]
     ·simp -implicitDefEqProofs only[op,ef,cl,sq,reduceIte,j4,j5,j6,j7,j8,j9,y1,y2,y3,S1]
     ·rintro k R H2⟨⟨dx,hd,a7,hk,al⟩,h0,h1,h2,h3,h9,aC,aB,om,Bj⟩
      have lc:=aW hd
      by_cases bO:k<b
      ·simp -implicitDefEqProofs (maxSteps:=1000000) (disch:=omega) only[aa,aD,aE,aF,aG,aH,aI,wA,a0,wS,aZ,wM,S2,op,ef,cl,sq,reduceIte,j4,j5,j6,j7,j8,j9,y1,y2,y3,S1,h0,h1,h2,h3,h9,aC,aB,bO,hd,lc]
       refine ae _ _ _ _ _ _ _ _ (dH dx[k]! dx[k-1]! _) ?_
       rintro u H3⟨hu,jr⟩
       cases hu
       have hx:Ext H2 H3:=by rw[jr];exact Ext.rfl'
       have hd:=hx.get hd
       have lc:=aW hd
       have al:=al.trans (aA (F:=fun _=>False) hx) (fun _ h=>h.elim)
       have cW:strLt dx[k]! dx[k-1]! = decide (strLt dx[k]! dx[k-1]! = true):=by simp
       rw[shiftUp,if_pos bO]at hk
       by_cases c1:strLt dx[k]! dx[k-1]! = true
       ·simp -implicitDefEqProofs (maxSteps:=1000000) (disch:=omega) only[aa,aD,aE,aF,aG,aH,aI,wA,a0,wS,aZ,wM,S2,op,ef,cl,sq,reduceIte,j4,j5,j6,j7,j8,j9,y1,y2,y3,S1,h0,h1,h2,h3,h9,aC,aB,bO,hd,lc,c1]
        rw[if_neg (jS (cW.trans (cg c1)))]at hk
        exact⟨k+1,by omega,.i (.swp hd (by rw[swp_size];exact a7) hk al),rfl,by omega,by omega⟩
       ·simp -implicitDefEqProofs (maxSteps:=1000000) (disch:=omega) only[aa,aD,aE,aF,aG,aH,aI,wA,a0,wS,aZ,wM,S2,op,ef,cl,sq,reduceIte,j4,j5,j6,j7,j8,j9,y1,y2,y3,S1,h0,h1,h2,h3,h9,aC,aB,bO,hd,lc,c1]
        rw[if_pos (eZ (cW.trans (cf c1)))]at hk
        exact .i ⟨dx,hd,a7,hk,al⟩
      ·simp -implicitDefEqProofs only[op,ef,cl,sq,reduceIte,j4,j5,j6,j7,j8,j9,y1,y2,y3,S1,h0,h1,h2,h3,h9,aC,aB,bO]
       rw[shiftUp,if_neg bO]at hk
       exact .i ⟨dx,hd,a7,hk,al⟩
     ·rintro R H2⟨⟨dx,hd,a7,rfl,al⟩,h0,h1,h2,h3,h9,aC⟩
      simp -implicitDefEqProofs (maxSteps:=1000000) (disch:=omega) only[aa,aD,aE,aF,aG,aH,aI,wA,a0,wS,aZ,wM,S2,op,ef,cl,sq,reduceIte,j4,j5,j6,j7,j8,j9,y1,y2,y3,S1,h0,h1,h2,h3,h9,aC]
      exact⟨j+1,by omega,.i ⟨si,rfl,by omega,by omega,dx,hd,a7,by rw[uP];exact hP,al⟩,rfl,by omega⟩
    ·rw[if_neg hB]at rf
     subst rf
     simp -implicitDefEqProofs (maxSteps:=1000000) (disch:=omega) only[aa,aD,aE,aF,aG,aH,aI,wA,a0,wS,aZ,wM,S2,op,ef,cl,sq,reduceIte,j4,j5,j6,j7,j8,j9,y1,y2,y3,S1,h0,h1,h2,h3,h9,aC,hB]
     exact⟨j+1,by omega,.i ⟨si,rfl,by omega,by omega,d4,hd,oW,by rw[uP];exact hP,al⟩,rfl,by omega⟩
 ·rintro R H1⟨di,hd,a7,hP,al⟩
  try simp -implicitDefEqProofs only[op,ef,cl,sq,reduceIte,j4,j5,j6,j7,j8,j9,y1,y2,y3,S1]
  rw[←hP]
  exact⟨rfl,di,hd,a7,rfl,al⟩
structure xn (R:ar)(c n a b b7:Nat)(wb wp:Bool):Prop where
 r0:R 0=.ay c 0 n 1
 r1:R 1=.int .i64 a
 r2:R 2=.int .i64 b
 r3:R 3=.int .i64 b7
 r4:R 0=.ay c 0 n 1
 Zl:R 8=.bool wb
 Zm:R 9=.bool wp
 Tm:R 10=.int .i64 (b-a:Nat)
open Go.Sort in
theorem Tw (A:C)(hA:(cX eu.body 1).map (eA · 3)=some A)(c n a b b7:Nat)(wb wp:Bool)(d:Array ByteArray)(R:ar)(H0 H:af)(K:Out→af→Prop)(hp:xn R c n a b b7 wb wp)(hd:gZ c n H0 (fun x=>x=d) H)(hb:b≤n)(fZ:a+12<b)(hs:n<16777216)(hl:1≤b7∧b7<1000)
  (rest:∀R' H',xn R' c n a b (if (!wb)=true then b7-1 else b7) wb wp→gZ c n H0 (fun x=>x=if (!wb)=true then breakPatterns d a b else d) H'→K (.ex .normal R') H'):eD env A R H K:=by
 simp[eu,cX,eA,sq]at hA
 subst hA
 obtain⟨h0,h1,h2,h3,h4,aC,a6,aB⟩:=hp
 obtain⟨di,hc,hn,rfl,al⟩:=hd
 cases wb with
 | true =>
  simp -implicitDefEqProofs (maxSteps:=1000000) (disch:=omega) only[op,ef,cl,sq,reduceIte,j4,j5,j6,j7,j8,j9,y1,y2,y3,S1,h0,h1,h2,h3,h4,aC,a6,aB]
  exact rest _ _ ⟨by simp -implicitDefEqProofs only[op,ef,cl,sq,reduceIte,j4,j5,j6,j7,j8,j9,y1,y2,y3,S1,h0],by simp -implicitDefEqProofs only[op,ef,cl,sq,reduceIte,j4,j5,j6,j7,j8,j9,y1,y2,y3,S1,h1],by simp -implicitDefEqProofs only[op,ef,cl,sq,reduceIte,j4,j5,j6,j7,j8,j9,y1,y2,y3,S1,h2],by simp -implicitDefEqProofs only[op,ef,cl,sq,reduceIte,j4,j5,j6,j7,j8,j9,y1,y2,y3,S1,h3],by simp -implicitDefEqProofs only[op,ef,cl,sq,reduceIte,j4,j5,j6,j7,j8,j9,y1,y2,y3,S1,h4],by simp -implicitDefEqProofs only[op,ef,cl,sq,reduceIte,j4,j5,j6,j7,j8,j9,y1,y2,y3,S1,aC],by simp -implicitDefEqProofs only[op,ef,cl,sq,reduceIte,j4,j5,j6,j7,j8,j9,y1,y2,y3,S1,a6],by simp -implicitDefEqProofs only[op,ef,cl,sq,reduceIte,j4,j5,j6,j7,j8,j9,y1,y2,y3,S1,aB]⟩ ⟨di,hc,hn,rfl,al⟩
 | false =>
  simp -implicitDefEqProofs (maxSteps:=1000000) (disch:=omega) only[op,ef,cl,sq,reduceIte,j4,j5,j6,j7,j8,j9,y1,y2,y3,S1,h0,h1,h2,h3,h4,aC,a6,aB]
  refine ae _ _ _ _ _ _ _ _ (J1 c n di a b _ hn hc hb fZ hs) ?_
  rintro u H2⟨hu,d2,cr,gX,e2,dN⟩
  cases hu
  simp -implicitDefEqProofs (maxSteps:=1000000) (disch:=omega) only[aa,aD,aE,aF,aG,aH,aI,wA,a0,wS,aZ,wM,S2,op,ef,cl,sq,reduceIte,j4,j5,j6,j7,j8,j9,y1,y2,y3,S1,h0,h1,h2,h3,h4,aC,a6,aB]
  exact rest _ _ ⟨by simp -implicitDefEqProofs only[op,ef,cl,sq,reduceIte,j4,j5,j6,j7,j8,j9,y1,y2,y3,S1,h0],by simp -implicitDefEqProofs only[op,ef,cl,sq,reduceIte,j4,j5,j6,j7,j8,j9,y1,y2,y3,S1,h1],by simp -implicitDefEqProofs only[op,ef,cl,sq,reduceIte,j4,j5,j6,j7,j8,j9,y1,y2,y3,S1,h2],by simp -implicitDefEqProofs only[op,ef,cl,sq,reduceIte,j4,j5,j6,j7,j8,j9,y1,y2,y3,S1],by simp -implicitDefEqProofs only[op,ef,cl,sq,reduceIte,j4,j5,j6,j7,j8,j9,y1,y2,y3,S1,h4],by simp -implicitDefEqProofs only[op,ef,cl,sq,reduceIte,j4,j5,j6,j7,j8,j9,y1,y2,y3,S1,aC],by simp -implicitDefEqProofs only[op,ef,cl,sq,reduceIte,j4,j5,j6,j7,j8,j9,y1,y2,y3,S1,a6],by simp -implicitDefEqProofs only[op,ef,cl,sq,reduceIte,j4,j5,j6,j7,j8,j9,y1,y2,y3,S1,aB]⟩ ⟨d2,cr,gX,e2,al.trans dN fun _ h=>.inl h⟩
open Go.Sort in
theorem Tx (A:C)(hA:(cX eu.body 1).map (eA · 5)=some A)(c n a b b7:Nat)(wb wp:Bool)(d:Array ByteArray)(pv:Nat)(hi:Hint)(R:ar)(H0 H:af)(K:Out→af→Prop)(hp:xn R c n a b b7 wb wp)(bj:R 11=.int .i64 pv)(mH:R 12=.int .i64 (gw hi))(hd:gZ c n H0 (fun x=>x=d) H)(hb:b≤n)(fZ:a+12<b)(hs:n<16777216)(lU:a≤pv∧pv<b)
  (rest:∀R' H',xn R' c n a b b7 wb wp→R' 11=.int .i64 (if hi=.decreasing then(b-1)-(pv-a)else pv:Nat)→R' 12=.int .i64 (gw (if hi=.decreasing then Hint.increasing else hi))→gZ c n H0 (fun x=>x=if hi=.decreasing then reverseRange d a b else d) H'→K (.ex .normal R') H'):eD env A R H K:=by
 simp[eu,cX,eA,sq]at hA
 subst hA
 obtain⟨h0,h1,h2,h3,h4,aC,a6,aB⟩:=hp
 obtain⟨di,hc,hn,rfl,al⟩:=hd
 have e:((gw hi)==2)=decide (hi=.decreasing):=by cases hi<;>decide
 by_cases hh:hi=.decreasing
 ·rw[decide_eq_true hh]at e
  simp -implicitDefEqProofs (maxSteps:=1000000) (disch:=omega) only[op,ef,cl,sq,reduceIte,j4,j5,j6,j7,j8,j9,y1,y2,y3,S1,h0,h1,h2,h3,h4,aC,a6,aB,bj,mH,e]
  refine ae _ _ _ _ _ _ _ _ (Tu c n di a b _ hn hc hb (by omega) (by omega)) ?_
  rintro u H2⟨hu,d2,cr,gX,e2,dN⟩
  cases hu
  simp -implicitDefEqProofs (maxSteps:=1000000) (disch:=omega) only[aa,aD,aE,aF,aG,aH,aI,wA,a0,wS,aZ,wM,S2,op,ef,cl,sq,reduceIte,j4,j5,j6,j7,j8,j9,y1,y2,y3,S1,h0,h1,h2,h3,h4,aC,a6,aB,bj,mH]
  refine rest _ _ ⟨?_,?_,?_,?_,?_,?_,?_,?_⟩ ?_ ?_ ⟨d2,cr,gX,?_,al.trans dN fun _ h=>.inl h⟩
  all_goals simp -implicitDefEqProofs only[op,ef,cl,sq,reduceIte,j4,j5,j6,j7,j8,j9,y1,y2,y3,S1,h0,h1,h2,h3,h4,aC,a6,aB,if_pos hh,gw]
  exact e2
 ·rw[decide_eq_false hh]at e
  simp -implicitDefEqProofs (maxSteps:=1000000) (disch:=omega) only[op,ef,cl,sq,reduceIte,j4,j5,j6,j7,j8,j9,y1,y2,y3,S1,h0,h1,h2,h3,h4,aC,a6,aB,bj,mH,e]
  refine rest _ _ ⟨?_,?_,?_,?_,?_,?_,?_,?_⟩ ?_ ?_ ⟨di,hc,hn,?_,al⟩
  all_goals simp -implicitDefEqProofs only[op,ef,cl,sq,reduceIte,j4,j5,j6,j7,j8,j9,y1,y2,y3,S1,h0,h1,h2,h3,h4,aC,a6,aB,bj,mH,if_neg hh]
open Go.Sort in
theorem Ty (A:C)(hA:(cX eu.body 1).map (eA · 6)=some A)(c n a b b7:Nat)(wb wp:Bool)(d:Array ByteArray)(pv:Nat)(hi:Hint)(R:ar)(H0 H:af)(K:Out→af→Prop)(hp:xn R c n a b b7 wb wp)(bj:R 11=.int .i64 pv)(mH:R 12=.int .i64 (gw hi))(hd:gZ c n H0 (fun x=>x=d) H)(hb:b≤n)(fZ:a+12<b)(hs:n<16777216)
  (pi:Array ByteArray×Bool) (F7:pi=if (wb&&wp&&hi=.increasing)=true then partialInsertionSort strLt d a b else(d,false))
  (gY:∀R' H',pi.2=true→gZ c n H0 (fun x=>x=pi.1) H'→K (.ex .ret R') H')
  (e9:∀R' H',pi.2=false→xn R' c n a b b7 wb wp→R' 11=.int .i64 pv→gZ c n H0 (fun x=>x=pi.1) H'→K (.ex .normal R') H'):eD env A R H K:=by
 simp[eu,cX,eA,sq]at hA
 subst hA
 obtain⟨h0,h1,h2,h3,h4,aC,a6,aB⟩:=hp
 obtain⟨di,hc,hn,rfl,al⟩:=hd
 have e:((gw hi)==1)=decide (hi=.increasing):=by cases hi<;>decide
 have no:(wb&&wp&&decide (hi=.increasing))=false→∀R',xn R' c n a b b7 wb wp→R' 11=.int .i64 pv→K (.ex .normal R') H:=fun h R' q q'=>e9 R' H (by rw[F7,h];rfl) q q' ⟨di,hc,hn,by rw[F7,h];rfl,al⟩
 cases wb with
 | false =>
  simp -implicitDefEqProofs only[op,ef,cl,sq,reduceIte,j4,j5,j6,j7,j8,j9,y1,y2,y3,S1,h0,h1,h2,h3,h4,aC,a6,aB,bj,mH]
  refine no rfl _ ⟨?_,?_,?_,?_,?_,?_,?_,?_⟩ ?_
  all_goals simp -implicitDefEqProofs only[op,ef,cl,sq,reduceIte,j4,j5,j6,j7,j8,j9,y1,y2,y3,S1,h0,h1,h2,h3,h4,aC,a6,aB,bj]
 | true =>
  cases wp with
  | false =>
   simp -implicitDefEqProofs only[op,ef,cl,sq,reduceIte,j4,j5,j6,j7,j8,j9,y1,y2,y3,S1,h0,h1,h2,h3,h4,aC,a6,aB,bj,mH]
   refine no rfl _ ⟨?_,?_,?_,?_,?_,?_,?_,?_⟩ ?_
   all_goals simp -implicitDefEqProofs only[op,ef,cl,sq,reduceIte,j4,j5,j6,j7,j8,j9,y1,y2,y3,S1,h0,h1,h2,h3,h4,aC,a6,aB,bj]
  | true =>
   by_cases hh:hi=.increasing
   ·rw[decide_eq_true hh]at e
    rw[decide_eq_true hh]at F7
    simp -implicitDefEqProofs only[op,ef,cl,sq,reduceIte,j4,j5,j6,j7,j8,j9,y1,y2,y3,S1,h0,h1,h2,h3,h4,aC,a6,aB,bj,mH,e]
    refine ae _ _ _ _ _ _ _ _ (OJ c n di a b _ hn hc hb (by omega) (by omega)) ?_
    rintro u H2⟨hu,d2,cr,gX,e2,dN⟩
    cases hu
    rw[if_pos (show(true&&true&&true)=true from rfl)]at F7
    rw[←F7]at e2 ⊢
    cases kc:pi.2 with
    | true =>
     try simp -implicitDefEqProofs only[op,ef,cl,sq,reduceIte,j4,j5,j6,j7,j8,j9,y1,y2,y3,S1]
     exact gY _ _ kc ⟨d2,cr,gX,e2,al.trans dN fun _ h=>.inl h⟩
    | false =>
     try simp -implicitDefEqProofs only[op,ef,cl,sq,reduceIte,j4,j5,j6,j7,j8,j9,y1,y2,y3,S1]
     refine e9 _ _ kc ⟨?_,?_,?_,?_,?_,?_,?_,?_⟩ ?_ ⟨d2,cr,gX,e2,al.trans dN fun _ h=>.inl h⟩
     all_goals simp -implicitDefEqProofs only[op,ef,cl,sq,reduceIte,j4,j5,j6,j7,j8,j9,y1,y2,y3,S1,h0,h1,h2,h3,h4,aC,a6,aB,bj]
   ·rw[decide_eq_false hh]at e
    simp -implicitDefEqProofs only[op,ef,cl,sq,reduceIte,j4,j5,j6,j7,j8,j9,y1,y2,y3,S1,h0,h1,h2,h3,h4,aC,a6,aB,bj,mH,e]
    refine no (by rw[decide_eq_false hh];rfl) _ ⟨?_,?_,?_,?_,?_,?_,?_,?_⟩ ?_
    all_goals simp -implicitDefEqProofs only[op,ef,cl,sq,reduceIte,j4,j5,j6,j7,j8,j9,y1,y2,y3,S1,h0,h1,h2,h3,h4,aC,a6,aB,bj]
open Go.Sort in
theorem Tz (A:C)(hA:(cX eu.body 1).map (eA · 7)=some A)(c n a b b7:Nat)(wb wp:Bool)(d:Array ByteArray)(pv:Nat)(R:ar)(H0 H:af)(K:Out→af→Prop)(hp:xn R c n a b b7 wb wp)(bj:R 11=.int .i64 pv)(hd:gZ c n H0 (fun x=>x=d) H)(hb:b≤n)(fZ:a+12<b)(hs:n<16777216)(lU:a≤pv∧pv<b)
  (gY:∀R' H',(a>0&&!strLt d[a-1]! d[pv]!)=true→R' 0=.ay c 0 n 1→R' 1=.int .i64 (partitionEqual strLt d a b pv).1→R' 2=.int .i64 b→R' 3=.int .i64 b7→R' 0=.ay c 0 n 1→R' 8=.bool wb→R' 9=.bool wp→gZ c n H0 (fun x=>x=(partitionEqual strLt d a b pv).2) H'→K (.ex (.exit 1) R') H')
  (e9:∀R' H',(a>0&&!strLt d[a-1]! d[pv]!)=false→xn R' c n a b b7 wb wp→R' 11=.int .i64 pv→gZ c n H0 (fun x=>x=d) H'→K (.ex .normal R') H'):eD env A R H K:=by
 simp[eu,cX,eA,sq]at hA
 subst hA
 obtain⟨h0,h1,h2,h3,h4,aC,a6,aB⟩:=hp
 obtain⟨di,hd,hn,rfl,al⟩:=hd
 have lc:=aW hd
 by_cases ha:0<a
 ·simp -implicitDefEqProofs (maxSteps:=1000000) (disch:=omega) only[aa,aD,aE,aF,aG,aH,aI,wA,a0,wS,aZ,wM,S2,op,ef,cl,sq,reduceIte,j4,j5,j6,j7,j8,j9,y1,y2,y3,S1,h0,h1,h2,h3,h4,aC,a6,aB,bj,ha,hd,lc]
  refine ae _ _ _ _ _ _ _ _ (dH di[a-1]! di[pv]! _) ?_
  rintro u H3⟨hu,jr⟩
  cases hu
  have hx:Ext H H3:=by rw[jr];exact Ext.rfl'
  have hd:=hx.get hd
  have lc:=aW hd
  have al:=al.trans (aA (F:=fun _=>False) hx) (fun _ h=>h.elim)
  have cW:strLt di[a-1]! di[pv]! = decide (strLt di[a-1]! di[pv]! = true):=by simp
  by_cases c1:strLt di[a-1]! di[pv]! = true
  ·simp -implicitDefEqProofs (maxSteps:=1000000) (disch:=omega) only[aa,aD,aE,aF,aG,aH,aI,wA,a0,wS,aZ,wM,S2,op,ef,cl,sq,reduceIte,j4,j5,j6,j7,j8,j9,y1,y2,y3,S1,h0,h1,h2,h3,h4,aC,a6,aB,bj,ha,hd,lc,c1]
   refine e9 _ _ (by rw[cW,cg c1];simp) ⟨?_,?_,?_,?_,?_,?_,?_,?_⟩ ?_ ⟨di,hd,hn,rfl,al⟩
   all_goals simp -implicitDefEqProofs only[op,ef,cl,sq,reduceIte,j4,j5,j6,j7,j8,j9,y1,y2,y3,S1,h0,h1,h2,h3,h4,aC,a6,aB,bj]
  ·simp -implicitDefEqProofs (maxSteps:=1000000) (disch:=omega) only[aa,aD,aE,aF,aG,aH,aI,wA,a0,wS,aZ,wM,S2,op,ef,cl,sq,reduceIte,j4,j5,j6,j7,j8,j9,y1,y2,y3,S1,h0,h1,h2,h3,h4,aC,a6,aB,bj,ha,hd,lc,c1]
   refine ae _ _ _ _ _ _ _ _ (Tv c n di a b pv _ hn hd hb (by omega) (by omega) (by omega)) ?_
   rintro u H4⟨hu,d2,cr,gX,e2,dN⟩
   cases hu
   try simp -implicitDefEqProofs only[op,ef,cl,sq,reduceIte,j4,j5,j6,j7,j8,j9,y1,y2,y3,S1]
   refine gY _ _ (by rw[cW,cf c1];simp;exact ha) ?_ ?_ ?_ ?_ ?_ ?_ ?_ ⟨d2,cr,gX,e2,al.trans dN fun _ h=>.inl h⟩
   all_goals simp -implicitDefEqProofs only[op,ef,cl,sq,reduceIte,j4,j5,j6,j7,j8,j9,y1,y2,y3,S1,h0,h1,h2,h3,h4,aC,a6,aB,bj]
 ·simp -implicitDefEqProofs only[op,ef,cl,sq,reduceIte,j4,j5,j6,j7,j8,j9,y1,y2,y3,S1,h0,h1,h2,h3,h4,aC,a6,aB,bj,ha]
  refine e9 _ _ (by rw[decide_eq_false ha];rfl) ⟨?_,?_,?_,?_,?_,?_,?_,?_⟩ ?_ ⟨di,hd,hn,rfl,al⟩
  all_goals simp -implicitDefEqProofs only[op,ef,cl,sq,reduceIte,j4,j5,j6,j7,j8,j9,y1,y2,y3,S1,h0,h1,h2,h3,h4,aC,a6,aB,bj]
open Go.Sort in
theorem B4 {d d1 d2:Array ByteArray}{a b b7 eC pv:Nat}{wb wp:Bool}{cp:Nat×Hint}{hi:Hint}{pi:Array ByteArray×Bool}(aB:¬b-a≤12)(hl:¬b7=0)
  (e1:d1=if (!wb)=true then breakPatterns d a b else d) (el:eC=if (!wb)=true then b7-1 else b7) (ec:cp=choosePivot strLt d1 a b) (e2:d2=if cp.2=.decreasing then reverseRange d1 a b else d1)
  (ep:pv=if cp.2=.decreasing then(b-1)-(cp.1-a)else cp.1) (eh:hi=if cp.2=.decreasing then .increasing else cp.2) (JT:pi=if (wb&&wp&&hi=.increasing)=true then partialInsertionSort strLt d2 a b else(d2,false)) :
  pdq strLt d a b b7 wb wp=if pi.2=true then pi.1 else if (a>0&&!strLt pi.1[a-1]! pi.1[pv]!)=true then(if a<(partitionEqual strLt pi.1 a b pv).1∧(partitionEqual strLt pi.1 a b pv).1≤b then pdq strLt (partitionEqual strLt pi.1 a b pv).2 (partitionEqual strLt pi.1 a b pv).1 b eC wb wp else(partitionEqual strLt pi.1 a b pv).2)
   else(if a≤(partition strLt pi.1 a b pv).1∧(partition strLt pi.1 a b pv).1<b then if (partition strLt pi.1 a b pv).1-a<b-(partition strLt pi.1 a b pv).1 then pdq strLt (pdq strLt (partition strLt pi.1 a b pv).2.2 a (partition strLt pi.1 a b pv).1 eC true true) ((partition strLt pi.1 a b pv).1+1) b eC (decide ((partition strLt pi.1 a b pv).1-a≥(b-a)/8)) (partition strLt pi.1 a b pv).2.1
    else pdq strLt (pdq strLt (partition strLt pi.1 a b pv).2.2 ((partition strLt pi.1 a b pv).1+1) b eC true true) a (partition strLt pi.1 a b pv).1 eC (decide (b-(partition strLt pi.1 a b pv).1≥(b-a)/8)) (partition strLt pi.1 a b pv).2.1 else(partition strLt pi.1 a b pv).2.2):=by
 subst JT eh ep e2 ec el e1
 rw[pdq,if_neg aB,if_neg hl]
 rfl
open Go.Sort in
theorem yP (d:Array ByteArray){a b pv:Nat}(h1:a≤pv)(h2:pv<b)(hb:b≤d.size):a<(partitionEqual strLt d a b pv).1∧(partitionEqual strLt d a b pv).1≤b:=by
 have:=partEqLoop_spec (lt:=strLt) a b b (a+1) (b-1) (swp d a pv) (by omega) (by omega) (by omega) (by omega) (by rw[swp_size];exact hb) (fun t h h'=>by omega) (fun t h h'=>by omega)
 exact⟨this.1,this.2.1⟩
open Go.Sort in
theorem TA (A:C)(hA:(cX eu.body 1).map (eA · 0)=some A)(c n a b b7:Nat)(wb wp:Bool)(R:ar)(H:af)(K:Out→af→Prop)(h0:R 0=.ay c 0 n 1)(h1:R 1=.int .i64 a)(h2:R 2=.int .i64 b)(h3:R 3=.int .i64 b7)(h4:R 0=.ay c 0 n 1)(aC:R 8=.bool wb)(a6:R 9=.bool wp)(fZ:a≤b)(hb:b<16777216)
  (rest:∀R',xn R' c n a b b7 wb wp→K (.ex .normal R') H):eD env A R H K:=by
 simp[eu,cX,eA,sq]at hA
 subst hA
 simp -implicitDefEqProofs (maxSteps:=1000000) (disch:=omega) only[aa,aD,aE,aF,aG,aH,aI,wA,a0,wS,aZ,wM,S2,op,ef,cl,sq,reduceIte,j4,j5,j6,j7,j8,j9,y1,y2,y3,S1,h0,h1,h2,h3,h4,aC,a6]
 refine rest _ ⟨?_,?_,?_,?_,?_,?_,?_,?_⟩
 all_goals simp -implicitDefEqProofs only[op,ef,cl,sq,reduceIte,j4,j5,j6,j7,j8,j9,y1,y2,y3,S1,h0,h1,h2,h3,h4,aC,a6]
open Go.Sort in
theorem TB (A:C)(hA:(cX eu.body 1).map (eA · 1)=some A)(c n a b b7:Nat)(wb wp:Bool)(d:Array ByteArray)(R:ar)(H0 H:af)(K:Out→af→Prop)(hp:xn R c n a b b7 wb wp)(hd:gZ c n H0 (fun x=>x=d) H)(hb:b≤n)(fZ:a≤b)(hs:n<16777216)
  (gY:∀R' H',b-a≤12→gZ c n H0 (fun x=>x=insertionSort strLt d a b) H'→K (.ex .ret R') H')
  (e9:∀R',¬b-a≤12→xn R' c n a b b7 wb wp→K (.ex .normal R') H):eD env A R H K:=by
 simp[eu,cX,eA,sq]at hA
 subst hA
 obtain⟨h0,h1,h2,h3,h4,aC,a6,aB⟩:=hp
 obtain⟨di,hc,hn,rfl,al⟩:=hd
 by_cases hle:b-a≤12
 ·simp -implicitDefEqProofs only[op,ef,cl,sq,reduceIte,j4,j5,j6,j7,j8,j9,y1,y2,y3,S1,h0,h1,h2,h3,h4,aC,a6,aB,hle]
  have hi:=Tt c di a b H hc (by omega) fZ (by omega)
  rw[hn]at hi
  refine ae _ _ _ _ _ _ _ _ hi ?_
  rintro u H2⟨hu,cr,dN⟩
  cases hu
  try simp -implicitDefEqProofs only[op,ef,cl,sq,reduceIte,j4,j5,j6,j7,j8,j9,y1,y2,y3,S1]
  exact gY _ _ hle ⟨_,cr,by rw[(insertionSort_holds lJ di a b fZ (by omega)).1.1];exact hn,rfl,al.trans dN fun _ h=>.inl h⟩
 ·simp -implicitDefEqProofs only[op,ef,cl,sq,reduceIte,j4,j5,j6,j7,j8,j9,y1,y2,y3,S1,h0,h1,h2,h3,h4,aC,a6,aB,hle]
  refine e9 _ hle ⟨?_,?_,?_,?_,?_,?_,?_,?_⟩
  all_goals simp -implicitDefEqProofs only[op,ef,cl,sq,reduceIte,j4,j5,j6,j7,j8,j9,y1,y2,y3,S1,h0,h1,h2,h3,h4,aC,a6,aB]
open Go.Sort in
theorem TC (A:C)(hA:(cX eu.body 1).map (eA · 2)=some A)(c n a b b7:Nat)(wb wp:Bool)(d:Array ByteArray)(R:ar)(H0 H:af)(K:Out→af→Prop)(hp:xn R c n a b b7 wb wp)(hd:gZ c n H0 (fun x=>x=d) H)(hb:b≤n)(fZ:a+12<b)(hs:n<16777216)
  (gY:∀R' H',b7=0→gZ c n H0 (fun x=>x=heapSort strLt d a b) H'→K (.ex .ret R') H')
  (e9:∀R',¬b7=0→xn R' c n a b b7 wb wp→K (.ex .normal R') H):eD env A R H K:=by
 simp[eu,cX,eA,sq]at hA
 subst hA
 obtain⟨h0,h1,h2,h3,h4,aC,a6,aB⟩:=hp
 obtain⟨di,hc,hn,rfl,al⟩:=hd
 by_cases hl:b7=0
 ·subst hl
  have e:(((0:Nat):Int)==0)=true:=rfl
  simp -implicitDefEqProofs only[op,ef,cl,sq,reduceIte,j4,j5,j6,j7,j8,j9,y1,y2,y3,S1,h0,h1,h2,h3,h4,aC,a6,aB,e]
  refine ae _ _ _ _ _ _ _ _ (OH c n di a b _ hn hc hb (by omega) (by omega)) ?_
  rintro u H2⟨hu,d2,cr,gX,e2,dN⟩
  cases hu
  try simp -implicitDefEqProofs only[op,ef,cl,sq,reduceIte,j4,j5,j6,j7,j8,j9,y1,y2,y3,S1]
  exact gY _ _ rfl ⟨_,cr,gX,e2,al.trans dN fun _ h=>.inl h⟩
 ·have e:((b7:Int)==0)=false:=by simp;omega
  simp -implicitDefEqProofs only[op,ef,cl,sq,reduceIte,j4,j5,j6,j7,j8,j9,y1,y2,y3,S1,h0,h1,h2,h3,h4,aC,a6,aB,e]
  refine e9 _ hl ⟨?_,?_,?_,?_,?_,?_,?_,?_⟩
  all_goals simp -implicitDefEqProofs only[op,ef,cl,sq,reduceIte,j4,j5,j6,j7,j8,j9,y1,y2,y3,S1,h0,h1,h2,h3,h4,aC,a6,aB]
open Go.Sort in
theorem TD (A:C)(hA:(cX eu.body 1).map (eA · 4)=some A)(c n a b b7:Nat)(wb wp:Bool)(d:Array ByteArray)(R:ar)(H0 H:af)(K:Out→af→Prop)(hp:xn R c n a b b7 wb wp)(hd:gZ c n H0 (fun x=>x=d) H)(hb:b≤n)(fZ:a+12<b)(hs:n<16777216)
  (rest:∀R' H',xn R' c n a b b7 wb wp→R' 11=.int .i64 (choosePivot strLt d a b).1→R' 12=.int .i64 (gw (choosePivot strLt d a b).2)→gZ c n H0 (fun x=>x=d) H'→K (.ex .normal R') H'):eD env A R H K:=by
 simp[eu,cX,eA,sq]at hA
 subst hA
 obtain⟨h0,h1,h2,h3,h4,aC,a6,aB⟩:=hp
 obtain⟨di,hc,hn,rfl,al⟩:=hd
 simp -implicitDefEqProofs only[op,ef,cl,sq,reduceIte,j4,j5,j6,j7,j8,j9,y1,y2,y3,S1,h0,h1,h2,h3,h4,aC,a6,aB]
 refine ae _ _ _ _ _ _ _ _ (Gc c n di a b _ hn hc hb fZ (by omega)) ?_
 rintro u H2⟨hu,hx⟩
 cases hu
 try simp -implicitDefEqProofs only[op,ef,cl,sq,reduceIte,j4,j5,j6,j7,j8,j9,y1,y2,y3,S1]
 refine rest _ _ ⟨?_,?_,?_,?_,?_,?_,?_,?_⟩ ?_ ?_ ⟨di,hx.get hc,hn,rfl,al.trans (aA (F:=fun _=>False) hx) (fun _ h=>h.elim)⟩
 all_goals simp -implicitDefEqProofs only[op,ef,cl,sq,reduceIte,j4,j5,j6,j7,j8,j9,y1,y2,y3,S1,h0,h1,h2,h3,h4,aC,a6,aB]
open Go.Sort in
theorem TE (A:C)(hA:(cX eu.body 1).map (F9 · 8)=some A)(c n a b b7:Nat)(wb wp:Bool)(d:Array ByteArray)(pv:Nat)(R:ar)(H0 H:af)(K:Out→af→Prop)(hp:xn R c n a b b7 wb wp)(bj:R 11=.int .i64 pv)(hd:gZ c n H0 (fun x=>x=d) H)(hb:b≤n)(fZ:a+12<b)(hs:n<16777216)(lU:a≤pv∧pv<b)
  (ih:∀a' b' (d':Array ByteArray) H',b'-a'<b-a→a'≤b'→b'≤n→d'.size=n→H'[c]?=some (.cells (aJ eS d'.toList))→W env (.call 122 [.ay c 0 n 1,.int .i64 a',.int .i64 b',.int .i64 b7]) H' (rl c n (pdq strLt d' a' b' b7 true true) H'))
  (rest:∀R' H' a' b' (d':Array ByteArray) (JU:Bool),a≤a'→a'≤b'→b'≤b→b'-a'<b-a→R' 0=.ay c 0 n 1→R' 1=.int .i64 (a':Nat)→R' 2=.int .i64 (b':Nat)→R' 3=.int .i64 b7→R' 0=.ay c 0 n 1→R' 8=.bool JU→R' 9=.bool (partition strLt d a b pv).2.1 →
   pdq strLt d' a' b' b7 JU (partition strLt d a b pv).2.1=(if (partition strLt d a b pv).1-a<b-(partition strLt d a b pv).1 then pdq strLt (pdq strLt (partition strLt d a b pv).2.2 a (partition strLt d a b pv).1 b7 true true) ((partition strLt d a b pv).1+1) b b7 (decide ((partition strLt d a b pv).1-a≥(b-a)/8)) (partition strLt d a b pv).2.1
    else pdq strLt (pdq strLt (partition strLt d a b pv).2.2 ((partition strLt d a b pv).1+1) b b7 true true) a (partition strLt d a b pv).1 b7 (decide (b-(partition strLt d a b pv).1≥(b-a)/8)) (partition strLt d a b pv).2.1) →
   gZ c n H0 (fun x=>x=d') H'→K (.ex .normal R') H'):eD env A R H K:=by
 simp[eu,cX,F9,sq]at hA
 subst hA
 obtain⟨h0,h1,h2,h3,h4,aC,a6,aB⟩:=hp
 obtain⟨di,hc,hn,rfl,al⟩:=hd
 have ph:=partition_holds strLt lJ di a b pv lU.1 lU.2 (by omega)
 simp -implicitDefEqProofs only[op,ef,cl,sq,reduceIte,j4,j5,j6,j7,j8,j9,y1,y2,y3,S1,h0,h1,h2,h3,h4,aC,a6,aB,bj]
 refine ae _ _ _ _ _ _ _ _ (OI c n di a b pv _ hn hc hb (by omega) (by omega) (by omega)) ?_
 rintro u H2⟨hu,d2,cr,gX,e2,dN⟩
 cases hu
 generalize partition strLt di a b pv=r at *
 obtain⟨mid,ap,d4⟩:=r
 simp only at ph e2 rest ⊢
 subst e2
 obtain⟨m1,m2,_⟩:=ph
 have jK:=al.trans dN fun _ h=>.inl h
 by_cases ax:mid-a<b-mid
 ·rw[if_pos ax]at rest
  simp -implicitDefEqProofs (maxSteps:=1000000) (disch:=omega) only[aa,aD,aE,aF,aG,aH,aI,wA,a0,wS,aZ,wM,S2,op,ef,cl,sq,reduceIte,j4,j5,j6,j7,j8,j9,y1,y2,y3,S1,Vs,h0,h1,h2,h3,h4,aC,a6,aB,bj,ax]
  refine ae _ _ _ _ _ _ _ _ (ih a mid d2 _ (by omega) m1 (by omega) gX cr) ?_
  rintro u H3⟨hu,d3,nJ,zi,e3,oT⟩
  cases hu
  simp -implicitDefEqProofs (maxSteps:=1000000) (disch:=omega) only[aa,aD,aE,aF,aG,aH,aI,wA,a0,wS,aZ,wM,S2,op,ef,cl,sq,reduceIte,j4,j5,j6,j7,j8,j9,y1,y2,y3,S1,h0,h1,h2,h3,h4,aC,a6,aB,bj]
  refine rest _ _ (mid+1) b d3 (decide ((b-a)/8≤mid-a)) (by omega) (by omega) (Nat.le_refl _) (by omega) ?_ ?_ ?_ ?_ ?_ ?_ ?_ (by rw[e3]) ⟨d3,nJ,zi,rfl,jK.trans oT fun _ h=>.inl h⟩
  all_goals simp -implicitDefEqProofs only[op,ef,cl,sq,reduceIte,j4,j5,j6,j7,j8,j9,y1,y2,y3,S1,h0,h1,h2,h3,h4,aC,a6,aB]
 ·rw[if_neg ax]at rest
  simp -implicitDefEqProofs (maxSteps:=1000000) (disch:=omega) only[aa,aD,aE,aF,aG,aH,aI,wA,a0,wS,aZ,wM,S2,op,ef,cl,sq,reduceIte,j4,j5,j6,j7,j8,j9,y1,y2,y3,S1,Vs,h0,h1,h2,h3,h4,aC,a6,aB,bj,ax]
  refine ae _ _ _ _ _ _ _ _ (ih (mid+1) b d2 _ (by omega) m2 (by omega) gX cr) ?_
  rintro u H3⟨hu,d3,nJ,zi,e3,oT⟩
  cases hu
  simp -implicitDefEqProofs (maxSteps:=1000000) (disch:=omega) only[aa,aD,aE,aF,aG,aH,aI,wA,a0,wS,aZ,wM,S2,op,ef,cl,sq,reduceIte,j4,j5,j6,j7,j8,j9,y1,y2,y3,S1,h0,h1,h2,h3,h4,aC,a6,aB,bj]
  refine rest _ _ a mid d3 (decide ((b-a)/8≤b-mid)) (by omega) (by omega) (by omega) (by omega) ?_ ?_ ?_ ?_ ?_ ?_ ?_ (by rw[e3]) ⟨d3,nJ,zi,rfl,jK.trans oT fun _ h=>.inl h⟩
  all_goals simp -implicitDefEqProofs only[op,ef,cl,sq,reduceIte,j4,j5,j6,j7,j8,j9,y1,y2,y3,S1,h0,h1,h2,h3,h4,aC,a6,aB]
open Go.Sort in
theorem TF (c n:Nat)(hs:n<16777216):∀m a b b7 (d:Array ByteArray) H,b-a=m→a≤b→b≤n→b7<1000→d.size=n→H[c]?=some (.cells (aJ eS d.toList)) →
  W env (.call 122 [.ay c 0 n 1,.int .i64 (a:Nat),.int .i64 (b:Nat),.int .i64 (b7:Nat)]) H (rl c n (pdq strLt d a b b7 true true) H):=by
 intro m
 induction m using Nat.strongRecOn with
 | _ m ih =>
 intro a b b7 d H hm fZ hb Zw hn hc
 subst hm
 refine W.bS rfl rfl rfl ?_
 simp -implicitDefEqProofs only[eu,op,ef,cl,sq,reduceIte,j4,j5,j6,j7,j8,j9,y1,y2,y3,S1]
 refine W.cF (fun (q:Nat×Nat×Nat×Bool×Bool) R H'=>At H' (fun H'=>gZ c n H (fun di=>pdq strLt di q.1 q.2.1 q.2.2.1 q.2.2.2.1 q.2.2.2.2=pdq strLt d a b b7 true true) H')∧R 0=.ay c 0 n 1∧R 1=.int .i64 q.1∧R 2=.int .i64 q.2.1∧R 3=.int .i64 q.2.2.1∧R 0=.ay c 0 n 1∧R 8=.bool q.2.2.2.1∧R 9=.bool q.2.2.2.2∧a≤q.1∧q.1≤q.2.1∧q.2.1≤b∧q.2.2.1≤b7) (fun q=>q.2.1-q.1) (a,b,b7,true,true) ⟨.i ⟨d,hc,hn,rfl,bl.refl _ _⟩,rfl,rfl,rfl,rfl,rfl,rfl,rfl,Nat.le_refl _,fZ,Nat.le_refl _,Nat.le_refl _⟩ ?_
 rintro⟨a1,b1,l1,wb,wp⟩ R H1 ⟨⟨di,hd,a7,hP,al⟩,h0,h1,h2,h3,h4,aC,a6,q1,q2,q3,q4⟩
 simp only at hP h1 h2 h3 aC a6 q1 q2 q3 q4 ⊢
 rw[pV,fy]
 refine TA _ rfl c n a1 b1 l1 wb wp R H1 _ h0 h1 h2 h3 h4 aC a6 q2 (by omega) ?_
 intro R1 p1
 rw[dG,cN,fy]
 refine TB _ rfl c n a1 b1 l1 wb wp di R1 H H1 _ p1 ⟨di,hd,a7,rfl,al⟩ (by omega) q2 hs ?_ ?_
 ·rintro R' H' hle⟨d',gz,fb,rfl,pP⟩
  rw[pdq,if_pos hle]at hP
  try simp -implicitDefEqProofs only[op,ef,cl,sq,reduceIte,j4,j5,j6,j7,j8,j9,y1,y2,y3,S1]
  exact⟨rfl,_,gz,fb,hP,pP⟩
 intro R2 aB p2
 rw[dG,cN,fy]
 refine TC _ rfl c n a1 b1 l1 wb wp di R2 H H1 _ p2 ⟨di,hd,a7,rfl,al⟩ (by omega) (by omega) hs ?_ ?_
 ·rintro R' H' xF⟨d',gz,fb,rfl,pP⟩
  rw[pdq,if_neg aB,if_pos xF]at hP
  try simp -implicitDefEqProofs only[op,ef,cl,sq,reduceIte,j4,j5,j6,j7,j8,j9,y1,y2,y3,S1]
  exact⟨rfl,_,gz,fb,hP,pP⟩
 intro R3 xF p3
 rw[dG,cN,fy]
 refine Tw _ rfl c n a1 b1 l1 wb wp di R3 H H1 _ p3 ⟨di,hd,a7,rfl,al⟩ (by omega) (by omega) hs (by omega) ?_
 rintro R4 H4 p4⟨d1,rf,Cn,e1,xJ⟩
 obtain⟨eC,el⟩:∃l,l=if (!wb)=true then l1-1 else l1:=⟨_,rfl⟩
 have rX:eC≤l1:=by rw[el];split<;>omega
 rw[←el]at p4
 rw[dG,cN,fy]
 refine TD _ rfl c n a1 b1 eC wb wp d1 R4 H H4 _ p4 ⟨d1,rf,Cn,rfl,xJ⟩ (by omega) (by omega) hs ?_
 rintro R5 H5 p5 bj mH⟨JV,Zx,Ou,Mf,To⟩
 subst Mf
 have Tp:=choosePivot_holds strLt JV a1 b1 (by omega)
 obtain⟨cp,ec⟩:∃x,x=choosePivot strLt JV a1 b1:=⟨_,rfl⟩
 rw[←ec]at bj mH Tp
 rw[dG,cN,fy]
 refine Tx _ rfl c n a1 b1 eC wb wp JV cp.1 cp.2 R5 H H5 _ p5 bj mH ⟨JV,Zx,Ou,rfl,To⟩ (by omega) (by omega) hs Tp ?_
 rintro R6 H6 p6 bj mH⟨d2,Zy,Zz,e2,ZA⟩
 obtain⟨pv,ep⟩:∃x,x=if cp.2=.decreasing then(b1-1)-(cp.1-a1)else cp.1:=⟨_,rfl⟩
 obtain⟨hi,eh⟩:∃x,x=if cp.2=.decreasing then Hint.increasing else cp.2:=⟨_,rfl⟩
 rw[←ep]at bj
 rw[←eh]at mH
 have lU:a1≤pv∧pv<b1:=by rw[ep];split<;>omega
 rw[dG,cN,fy]
 obtain⟨pi,JT⟩:∃x,x=if (wb&&wp&&hi=.increasing)=true then partialInsertionSort strLt d2 a1 b1 else(d2,false):=⟨_,rfl⟩
 rw[B4 aB xF e1 el ec e2 ep eh JT]at hP
 refine Ty _ rfl c n a1 b1 eC wb wp d2 pv hi R6 H H6 _ p6 bj mH ⟨d2,Zy,Zz,rfl,ZA⟩ (by omega) (by omega) hs pi JT ?_ ?_
 ·rintro R' H' uM⟨d',gz,fb,rfl,pP⟩
  rw[if_pos uM]at hP
  try simp -implicitDefEqProofs only[op,ef,cl,sq,reduceIte,j4,j5,j6,j7,j8,j9,y1,y2,y3,S1]
  exact⟨rfl,_,gz,fb,hP,pP⟩
 rintro R7 H7 FT p7 bj⟨d3,ZB,JW,e3,ZC⟩
 rw[if_neg (by rw[FT];simp),←e3]at hP
 rw[dG,cN,fy]
 refine Tz _ rfl c n a1 b1 eC wb wp d3 pv R7 H H7 _ p7 bj ⟨d3,ZB,JW,rfl,ZC⟩ (by omega) (by omega) hs lU ?_ ?_
 ·rintro R' H' jZ g0 g1 g2 g3 g4 Ox Hw⟨d',gz,fb,e',pP⟩
  have hr:=yP d3 lU.1 lU.2 (by omega)
  rw[if_pos jZ,if_pos hr,←e']at hP
  try simp -implicitDefEqProofs only[op,ef,cl,sq,reduceIte,j4,j5,j6,j7,j8,j9,y1,y2,y3,S1]
  exact⟨((partitionEqual strLt d3 a1 b1 pv).1,b1,eC,wb,wp),by simp only;omega,.i ⟨_,gz,fb,hP,pP⟩,g0,g1,g2,g3,g4,Ox,Hw,by simp only;omega,by simp only;omega,by simp only;omega,by simp only;omega⟩
 rintro R8 H8 jZ p8 bj⟨JX,QC,ZD,ZE,Hz⟩
 subst ZE
 have hr:=partition_holds strLt lJ JX a1 b1 pv lU.1 lU.2 (by omega)
 rw[if_neg (by rw[jZ];simp),if_pos ⟨hr.1,hr.2.1⟩]at hP
 rw[dG,cN]
 refine TE _ rfl c n a1 b1 eC wb wp JX pv R8 H H8 _ p8 bj ⟨JX,QC,ZD,rfl,Hz⟩ (by omega) (by omega) hs lU (fun a' b' d' H' ax Oy iW fb iv=>ih _ (by omega) a' b' eC d' H' rfl Oy iW (by omega) fb iv) ?_
 rintro R' H' a' b' d' JU Oy Oz iW ax g0 g1 g2 g3 g4 Ox Hw e'⟨d'',gz,fb,rfl,pP⟩
 try simp -implicitDefEqProofs only[op,ef,cl,sq,reduceIte,j4,j5,j6,j7,j8,j9,y1,y2,y3,S1]
 exact⟨(a',b',eC,JU,(partition strLt JX a1 b1 pv).2.1),by simp only;omega,.i ⟨_,gz,fb,by simp only;rw[e'];exact hP,pP⟩,g0,g1,g2,g3,g4,Ox,Hw,by simp only;omega,Oz,by simp only;omega,by simp only;omega⟩
open Go.Sort in
theorem J3 (c:Nat)(d:Array ByteArray)(H:af)(hc:H[c]?=some (.cells (aJ eS d.toList)))(hs:d.size<16777216) :
  W env (.call 99 [.ay c 0 d.size 1]) H (rl c d.size (sort strLt d) H):=by
 refine W.bS rfl rfl rfl ?_
 have w1:IntKind.u64.wrap (d.size:Int)=(d.size:Int):=pn (by omega)
 simp -implicitDefEqProofs only[Jy,op,ef,cl,sq,reduceIte,j4,j5,j6,j7,j8,j9,y1,y2,y3,S1,w1]
 refine ae _ _ _ _ _ _ _ _ (FZ d.size hs _) ?_
 rintro u H1⟨hu,rfl⟩
 cases hu
 have hb:=qa (n:=d.size) (k:=24) hs
 try simp -implicitDefEqProofs only[op,ef,cl,sq,reduceIte,j4,j5,j6,j7,j8,j9,y1,y2,y3,S1]
 refine ae _ _ _ _ _ _ _ _ (TF c d.size hs _ 0 d.size (bitsLen d.size) d _ rfl (Nat.zero_le _) (Nat.le_refl _) (by omega) rfl hc) ?_
 rintro u H2⟨hu,h2⟩
 cases hu
 try simp -implicitDefEqProofs only[op,ef,cl,sq,reduceIte,j4,j5,j6,j7,j8,j9,y1,y2,y3,S1]
 exact⟨rfl,h2⟩
theorem sB {d:Array ByteArray}(hn:d.toList.Nodup):(Go.Sort.sort strLt d).toList.Perm d.toList∧(Go.Sort.sort strLt d).toList.Pairwise (fun a b=>strLt a b=true):=by
 obtain⟨⟨hs,_,hp⟩,Gb⟩:=Go.Sort.sort_sorts strLt lJ d
 have e1:(Go.Sort.sort strLt d).extract 0 d.size=Go.Sort.sort strLt d:=by
  conv=>lhs;arg 3;rw[←hs]
  simp
 have fq:(Go.Sort.sort strLt d).toList.Perm d.toList:=by
  rw[e1]at hp
  simpa using hp
 refine⟨fq,?_⟩
 have IE:(Go.Sort.sort strLt d).toList.Nodup:=fq.nodup_iff.2 hn
 rw[List.pairwise_iff_getElem]
 intro i j hi hj qW
 have h1:=Gb i j (Nat.zero_le _) qW (by rw[←hs];simpa using hj)
 have gi:=iI (d:=Go.Sort.sort strLt d) (i:=i) (by simpa using hi)
 have gj:=iI (d:=Go.Sort.sort strLt d) (i:=j) (by simpa using hj)
 rw[List.getElem?_eq_getElem hi]at gi
 rw[List.getElem?_eq_getElem hj]at gj
 rw[Option.some.inj gi,Option.some.inj gj]
 cases h:strLt (Go.Sort.sort strLt d)[i]! (Go.Sort.sort strLt d)[j]! with
 | true=>rfl
 | false =>
  have e:=qO h h1
  rw[←Option.some.inj gi,←Option.some.inj gj]at e
  have:=(List.getElem_inj IE).1 e
  omega
theorem B5 (es:List (ByteArray×T))(c mb:Nat)(H:af)(fv:(es.map (·.1)).Nodup)(hJ:es.length≤8000000)(hc:H[c]?=some (.cells [.map mb]))(hm:H[mb]?=some (.map (ba T.str es))) :
  W env (.call 64 [.fn 100 [.ptr c 0]]) H (OF es H):=by
 refine W.bS rfl rfl rfl ?_
 simp -implicitDefEqProofs only[NP,op,ef,cl,sq,reduceIte,j4,j5,j6,j7,j8,j9,y1,y2,y3,S1]
 refine ae _ _ _ _ _ _ _ _ (Oh es c mb H fv (by omega) hc hm) ?_
 rintro u H1⟨hx,t,b0,hu,Ag,lG⟩
 cases hu
 have fq:b0.Perm (es.map (·.1)):=(List.perm_ext_iff_of_nodup lG.FR fv).2 fun k=>lG.BQ k
 have mR:b0.length=es.length:=by have:=lG.len;simpa using this
 rcases Ag with⟨rfl,rfl⟩|⟨d,rfl,hd,Hi⟩
 ·simp -implicitDefEqProofs only[op,ef,cl,sq,reduceIte,j4,j5,j6,j7,j8,j9,y1,y2,y3,S1]
  refine ae _ _ _ _ _ _ _ _ (J0 _) ?_
  rintro u H2⟨hu,rfl⟩
  cases hu
  simp -implicitDefEqProofs only[op,ef,cl,sq,reduceIte,j4,j5,j6,j7,j8,j9,y1,y2,y3,S1]
  exact⟨hx,_,[],rfl,nw _ _ _ _,fq,List.Pairwise.nil⟩
 ·simp -implicitDefEqProofs only[op,ef,cl,sq,reduceIte,j4,j5,j6,j7,j8,j9,y1,y2,y3,S1]
  have:=J3 d b0.toArray H1 (by simpa using hd) (by simpa using (by omega:b0.length<16777216))
  simp -implicitDefEqProofs only[List.size_toArray]at this
  refine ae _ _ _ _ _ _ _ _ this ?_
  rintro u H2⟨hu,d2,h2,a7,rfl,al⟩
  cases hu
  simp -implicitDefEqProofs only[op,ef,cl,sq,reduceIte,j4,j5,j6,j7,j8,j9,y1,y2,y3,S1]
  have hs:=sB (d:=b0.toArray) (by simpa using lG.FR)
  refine⟨mG fun a x Tq=>al.get (hx.get Tq) (by have:=aW Tq;omega),_,_,rfl,.inr ⟨d,?_,h2,Hi⟩,hs.1.trans fq,hs.2⟩
  rw[hs.1.length_eq]
theorem Gf (b:Bk)(s:dk)(F:Nat→Prop)(H:af)(hs:SH H b s F)(hi:fW s)(hn:s.ls.length≤8000000):W env (.call 20 [.ptr b.s 0]) H (OG s H):=by
 obtain⟨im,pm,sa⟩:=hs
 refine W.bS rfl rfl rfl ?_
 simp -implicitDefEqProofs only[No,op,ef,cl,sq,reduceIte,j4,j5,j6,j7,j8,j9,y1,y2,y3,S1,sa.hs]
 refine ae _ _ _ _ _ _ _ (fun o H'=>o=.val (.fn 100 [.ptr H.length 0])∧H'=H++[.cells [.map b.l]]) ?_ ?_
 ·refine W.bS rfl rfl rfl ?_
  simp -implicitDefEqProofs only[NQ,op,ef,cl,sq,reduceIte,j4,j5,j6,j7,j8,j9,y1,y2,y3,S1]
  exact rfl
 rintro u H1⟨hu,rfl⟩
 cases hu
 have ll:=aW sa.hl
 have xl:(jW s.ls).map (·.1)=s.ls.map (·.1):=by simp[jW]
 simp -implicitDefEqProofs only[op,ef,cl,sq,reduceIte,j4,j5,j6,j7,j8,j9,y1,y2,y3,S1]
 refine ae _ _ _ _ _ _ _ _ (B5 (jW s.ls) H.length b.l _ (by rw[xl];exact hi.yu) (by simpa[jW]using hn) (aX rfl) (by rw[aV ll];exact sa.hl)) ?_
 rintro t H2⟨xI,_,l,hu,Ag,fq,JZ⟩
 cases hu
 rw[xl]at fq
 have rX:l.length≤8000000:=by rw[fq.length_eq];simpa using hn
 have hlen:=Ag.len
 have jr:Ext H H2:=(Ext.rfl'.app _).trans xI
 simp -implicitDefEqProofs only[op,ef,cl,sq,reduceIte,j4,j5,j6,j7,j8,j9,y1,y2,y3,S1,hlen]
 refine W.cF (fun (i:Nat) R H'=>At H' (fun H'=>∃kw,R 3=.sl kw ((pq s (l.take i)).map eL)∧Ext H H'∧Ext H2 H'∧lC H2.length H' kw∧gx kw (l.take i))∧R 0=.ptr b.s 0∧R 11=t∧R 12=.int .i64 l.length∧R 13=.int .i64 i∧i≤l.length) (fun i=>l.length-i) 0 ⟨.i ⟨.nil,rfl,jr,Ext.rfl',iE _ _,fun _=>rfl⟩,rfl,rfl,rfl,rfl,Nat.zero_le _⟩ ?_
 rintro i R H3⟨⟨kw,h3,rN,yL,mD,mF⟩,h0,a6,aB,bj,kC⟩
 by_cases ax:i<l.length
 ·obtain⟨m,hm⟩:=cB ax
  have ws:=aU (show i<9223372036854775807 by omega)
  obtain⟨c,g1,g2,g3⟩:=LJ (enc:=eS) (n:=1) (fun _=>rfl) (by decide) (Ag.ext yL) hm
  have Ai:=sa.ma (aA (F:=fun _=>False) rN) (fun _ _ _ h=>h)
  have lT:=nH s m
  have cn:=all_map (enc:=eL) (n:=2) (fun _=>rfl) (pq s (l.take i))
  have U2:((pq s (l.take i)).map eL).length≤8000000:=by simp -implicitDefEqProofs only[pq,List.length_map,List.length_take];omega
  obtain⟨k',H5,ha,OB,dF⟩:=kR (bytes:=24) ((pq s (l.take i)).map eL) [[T.str m,.int .u64 (bJ s m)]] mD yL.len (by simp) (kS (by simp -implicitDefEqProofs only[List.length_cons,List.length_nil];omega))
  have ud:=uJ ha (by simp)
  simp -implicitDefEqProofs only[op,ef,cl,sq,reduceIte,j4,j5,j6,j7,j8,j9,y1,y2,y3,S1]at ha
  simp -implicitDefEqProofs only[op,ef,cl,sq,reduceIte,j4,j5,j6,j7,j8,j9,y1,y2,y3,S1,h0,h3,a6,aB,bj,ax,aa,g1,g2,g3,eS,Ai.hs,Ai.hl,fp,lT,cn,ha,ws]
  refine⟨i+1,by omega,.i ⟨k',?_,dF.ext H (by have:=jr.len;omega) rN,dF.ext H2 (Nat.le_refl _) yL,OB,fun h=>absurd h ud⟩,rfl,by omega⟩
  rw[cC hm]
  simp -implicitDefEqProofs only[pq,List.map_append,List.map_cons,List.map_nil,eL]
 ·have mE:i=l.length:=by omega
  subst mE
  rw[List.take_length]at h3 mF
  simp -implicitDefEqProofs only[op,ef,cl,sq,reduceIte,j4,j5,j6,j7,j8,j9,y1,y2,y3,S1,h3,aB,bj,ax]
  exact⟨rN,kw,l,mF,rfl,fq,JZ⟩
structure Vd where
 value:ByteArray
 keys:List ByteArray
 bf:Int
def Hd.vd (h:Hd):Vd:=⟨h.value,h.keys,h.bf⟩
structure Ab where
 v:Nm→Option Vd
 l:ByteArray→Option Nat
def Ab.last (a:Ab)(k:ByteArray):Nat:=(a.l k).getD 0
def Ab.has (a:Ab)(m:Nm):Bool:=(a.v m).isSome
def ea (s:dk):Ab:=⟨fun m=>(ah s.vs m).map Hd.vd,fun k=>ah s.ls k⟩
def Ab.emp:Ab:=⟨fun _=>none,fun _=>none⟩
def Ab.put (a:Ab)(n:Nat)(l:List (ByteArray×ByteArray))(ks:List ByteArray)(now:Int):Ab :=
 ⟨fun m=>match a.v m with
  | some h=>some h
  | none=>if m.2=n then(ah l m.1).map fun v=>⟨v,ks,if n<a.last m.1 then now else -1⟩else none,a.l⟩
def Ab.fresh (a:Ab)(n:Nat)(l:List (ByteArray×ByteArray)):Bool:=l.any fun p=>!a.has (p.1,n)
def Ab.n9 (a : Ab)(n : Nat)(now : Int) : Ab :=
  ⟨fun m => (a.v m).map fun h => if h.bf = -1 ∧ a.has (m.1, n) = true ∧ a.last m.1<n ∧ m.2<n then { h with bf := now } else h,
   fun k => if a.has (k, n) = true ∧ a.last k<n then some n else a.l k⟩
def Ab.cut (a:Ab)(m0:Nm):Ab:=⟨fun m=>if m=m0 then none else a.v m,a.l⟩
theorem gl {a b:Ab}(h1:∀m,a.v m=b.v m)(h2:∀k,a.l k=b.l k):a=b:=by
 cases a;cases b;simp -implicitDefEqProofs only[Ab.mk.injEq];exact⟨funext h1,funext h2⟩
theorem eF {α β:Type}[DecidableEq α]{es:List (α×β)}(hn:(es.map (·.1)).Nodup){p:α×β}(hp:p∈es):ah es p.1=some p.2:=by
 induction es with
 | nil=>cases hp
 | cons e es ih =>
  rw[List.map_cons,List.nodup_cons]at hn
  rw[bG]
  rcases List.mem_cons.1 hp with rfl|hp
  ·simp
  ·rw[if_neg,ih hn.2 hp]
   intro h
   exact hn.1 (h▸List.mem_map.2 ⟨p,hp,rfl⟩)
theorem jY.abs {s s':dk}{n:Nat}{l:List (ByteArray×ByteArray)}{ks:List ByteArray}{now:Int}{fr:Bool}(h:jY s s' n l ks now fr)(hn:(l.map (·.1)).Nodup):ea s'=(ea s).put n l ks now:=by
 refine gl (fun m=>?_) fun k=>by simp -implicitDefEqProofs only[ea,Ab.put,h.ls]
 simp -implicitDefEqProofs only[ea,Ab.put]
 by_cases hm:m.2=n∧m.1∈l.map (·.1)
 ·obtain⟨rfl,hm⟩:=hm
  obtain⟨p,hp,rY⟩:=List.mem_map.1 hm
  have e:m=(p.1,m.2):=by rw[rY]
  cases hl:ah s.vs m with
  | some x =>
   have:=h.jv p hp x (by rw[←e];exact hl)
   rw[←e]at this
   simp[this]
  | none =>
   obtain⟨kk,_,h2⟩:=h.new p hp (by rw[←e];exact hl)
   rw[←e]at h2
   have h3:=eF hn hp
   rw[rY]at h3 h2
   simp -implicitDefEqProofs only[h2,h3,Hd.vd,Option.map_some,Option.map_none,if_true];rfl
 ·have h1:=h.other m (by
   by_cases e:m.2=n
   ·exact .inr fun h=>hm ⟨e,h⟩
   ·exact .inl e)
  rw[h1]
  cases hl:ah s.vs m with
  | some x=>simp
  | none =>
   simp -implicitDefEqProofs only[Option.map_none]
   split
   ·rename_i e
    rw[cw.2 fun h=>hm ⟨e,h⟩];rfl
   ·rfl
theorem jY.fr {s s':dk}{n:Nat}{l:List (ByteArray×ByteArray)}{ks:List ByteArray}{now:Int}{fr:Bool}(h:jY s s' n l ks now fr):fr=(ea s).fresh n l:=by
 rw[Bool.eq_iff_iff,h.fresh]
 simp -implicitDefEqProofs only[Ab.fresh,List.any_eq_true,Ab.has,ea,Option.isSome_map,Bool.not_eq_true',Option.isSome_eq_false_iff,Option.isNone_iff_eq_none]
theorem sy.abs {s s':dk}{n:Nat}{now:Int}(hi:fW s)(h:sy s s' n now (s.dn n)):ea s'=(ea s).n9 n now:=by
 have hp:∀k,k∈s.dn n↔(ea s).has (k,n)=true:=fun k=>by rw[hi.JA];simp[Ab.has,ea]
 have gr:∀k,bJ s k=(ea s).last k:=fun _=>rfl
 have hv:∀m,(ea s).v m=(ah s.vs m).map Hd.vd:=fun _=>rfl
 have ym:∀k,(ea s).l k=ah s.ls k:=fun _=>rfl
 obtain⟨a,ha⟩:∃a,a=ea s:=⟨_,rfl⟩
 rw[←ha]at hp gr hv ym ⊢
 refine gl (fun m=>?_) fun k=>?_
 ·obtain⟨h1,h2⟩:=h.vs.2 m
  show(ah s'.vs m).map Hd.vd=(a.v m).map _
  rw[hv]
  cases hl:ah s.vs m with
  | none=>rw[h1 hl];rfl
  | some x =>
   obtain⟨h3,h4⟩:=h2 x hl
   by_cases hc:(m.1∈s.dn n∧bJ s m.1<n∧m.2<n)∧x.bf=-1
   ·rw[h3 hc]
    simp -implicitDefEqProofs only[Option.map_some,Option.some.injEq]
    rw[if_pos ⟨hc.2,(hp _).1 hc.1.1,gr _▸hc.1.2.1,hc.1.2.2⟩];rfl
   ·rw[h4 hc]
    simp -implicitDefEqProofs only[Option.map_some,Option.some.injEq]
    rw[if_neg]
    rintro⟨a,b,c,d⟩
    exact hc ⟨⟨(hp _).2 b,by rw[gr];exact c,d⟩,a⟩
 ·show ah s'.ls k=if _ then _ else a.l k
  rw[ym]
  by_cases hc:k∈s.dn n∧bJ s k<n
  ·rw[h.on k hc.1 hc.2,if_pos ⟨(hp _).1 hc.1,by rw[←gr];exact hc.2⟩]
  ·rw[h.off k hc,if_neg fun hh=>hc ⟨(hp _).2 hh.1,by rw[gr];exact hh.2⟩]
theorem Gg {s:dk}(hi:fW s)(k:ByteArray)(n:Nat):ea (s.drop k n)=(ea s).cut (k,n):=by
 refine gl (fun m=>?_) fun k=>rfl
 simp -implicitDefEqProofs only[ea,Ab.cut,dk.drop,jm hi.nd]
 split<;>rfl
theorem Am {α:Type}:∀{l l':List α},l.Nodup→(∀x∈l,x∈l')→l.length≤l'.length
 | [],_,_,_=>Nat.zero_le _
 | x :: l,l',hn,hs=>by
  obtain⟨a,b,rfl⟩:=List.append_of_mem (hs x List.mem_cons_self)
  rw[List.nodup_cons]at hn
  have:=Am (l:=l) (l':=a++b) hn.2 fun y hy=>by
   have h:=hs y (List.mem_cons_of_mem _ hy)
   rcases List.mem_append.1 h with h|h
   ·exact List.mem_append_left _ h
   ·rcases List.mem_cons.1 h with rfl|h
    ·exact absurd hy hn.1
    ·exact List.mem_append_right _ h
  simp -implicitDefEqProofs only[List.length_append,List.length_cons]at this ⊢
  omega
theorem jY.OK {s s':dk}{n:Nat}{l:List (ByteArray×ByteArray)}{ks:List ByteArray}{now:Int}{fr:Bool}(h:jY s s' n l ks now fr)(hi:fW s'):s'.vs.length≤s.vs.length+l.length:=by
 have:=Am (l:=s'.vs.map (·.1)) (l':=s.vs.map (·.1)++l.map fun p=>(p.1,n)) hi.nd fun m hm=>by
  rw[List.mem_append]
  by_cases hc:m.2=n∧m.1∈l.map (·.1)
  ·obtain⟨p,hp,e⟩:=List.mem_map.1 hc.2
   exact .inr (List.mem_map.2 ⟨p,hp,by rw[e,←hc.1]⟩)
  ·refine .inl ?_
   rw[mem_keys]at hm ⊢
   rwa[h.other m (by
    by_cases e:m.2=n
    ·exact .inr fun h=>hc ⟨e,h⟩
    ·exact .inl e)]at hm
 simpa using this
theorem VS.OK {v v':List (Nm×Hd)}{now:Int}{S:Nm→Prop}(h:VS v v' now S)(hn:(v.map (·.1)).Nodup):v'.length=v.length:=by
 have:=OC h.1 hn fun m=>by rw[mem_keys,mem_keys,h.some]
 simpa using this
def kd (H:af)(b:Bk)(a:Ab)(F:Nat→Prop)(n:Nat):Prop:=∃s,SH H b s F∧fW s∧ea s=a∧s.n≤n∧s.vs.length≤n
theorem kd.ext {H H':af}{b:Bk}{a:Ab}{F:Nat→Prop}{n:Nat}(h:kd H b a F n)(hx:Ext H H'):kd H' b a F n:=by
 obtain⟨s,h1,h2⟩:=h
 exact⟨s,h1.ext hx,h2⟩
theorem kd.le {H:af}{b:Bk}{a:Ab}{F:Nat→Prop}{n m:Nat}(h:kd H b a F n)(hm:n≤m):kd H b a F m:=by
 obtain⟨s,h1,h2,h3,h4,h5⟩:=h
 exact⟨s,h1,h2,h3,by omega,by omega⟩
def HA (F F':Nat→Prop)(H H':af):Prop:=∀c,F' c→F c∨(H.length≤c∧c<H'.length)
theorem TG (H:af):W env (.call 28 []) H (fun o H'=>Ext H H'∧∃b F,o=.val (.ptr b.s 0)∧kd H' b Ab.emp F 0∧∀c,F c→H.length≤c∧c<H'.length) :=
 W.use (YN H) fun o H' ⟨hx,b,F,hu,sh,hF⟩=>⟨hx,b,F,hu,⟨_,sh,fW.emp,rfl,Nat.le_refl _,Nat.le_refl _⟩,hF⟩
theorem Gh {n:Nat}{l:List (ByteArray×ByteArray)}{ks:List ByteArray}(h:lS n l ks):(l.map (·.1)).Nodup:=by
 refine List.pairwise_map.2 (List.pairwise_iff_getElem.2 fun i j hi hj qW e=>?_)
 have:=qY h i j _ _ qW (List.getElem?_eq_getElem hi) (List.getElem?_eq_getElem hj)
 rw[e,eX]at this;cases this
def TH (b:Bk)(a:Ab)(F:Nat→Prop)(m n:Nat)(l:List (ByteArray×ByteArray))(ks:List ByteArray)(now:Int)(H:af):Out→af→Prop:=fun o H' =>
 ∃F',o=.val (.bN [.bool (a.fresh n l),.int .i64 0])∧kd H' b (a.put n l ks now) F' (m+l.length)∧bl F H H'∧HA F F' H H'
theorem ZG {b:Bk}{a:Ab}{F:Nat→Prop}{m:Nat}(n:Nat)(k k':SK)(l:List (ByteArray×ByteArray))(ks:List ByteArray)(now:Int){H:af}(h:kd H b a F m)(hn:m+l.length≤8000000)(mF:gx k' ks)(hm:lS n l ks)(ht:bm now) :
  W env (.call 23 [.ptr b.s 0,.int .u64 n,.sl k (l.map eP),.sl k' (ks.map eS),.int .i64 now]) H (TH b a F m n l ks now H):=by
 obtain⟨s,sh,hi,rfl,h4,h5⟩:=h
 refine W.use (SN b s F n k k' l ks now H sh hi (by omega) mF hm ht) fun o H' ⟨s',F',fr,hu,OL,jU,hp,Ba,al,hg⟩=>⟨F',?_,⟨s',OL,jU,hp.abs (Gh hm),by omega,?_⟩,al,hg⟩
 ·rw[hu,hp.fr]
 ·have:=hp.OK jU;omega
def TI (b:Bk)(a:Ab)(F:Nat→Prop)(m n:Nat)(now:Int)(H:af):Out→af→Prop:=fun o H' =>
 ∃D:List ByteArray,D.Nodup∧(∀k,k∈D↔a.has (k,n)=true)∧o=.val (.bN [.int .i64 D.length,.int .i64 0])∧kd H' b (a.n9 n now) F m∧bl F H H'
theorem ZH {b:Bk}{a:Ab}{F:Nat→Prop}{m:Nat}(n:Nat)(now:Int){H:af}(h:kd H b a F m)(hn:m≤8000000)(SP:65536≤n)(ht:bm now):W env (.call 24 [.ptr b.s 0,.int .u64 n,.int .i64 now]) H (TI b a F m n now H):=by
 obtain⟨s,sh,hi,rfl,h4,h5⟩:=h
 refine W.use (FO b s F n now H sh hi (by omega) SP ht) fun o H' ⟨s',hu,OL,jU,hc,Ba,_,_,al⟩=>⟨s.dn n,hi.N8 n,fun k=>?_,hu,⟨s',OL,jU,hc.abs hi,by omega,?_⟩,al⟩
 ·rw[hi.JA];simp[Ab.has,ea]
 ·have:=hc.vs.OK hi.nd;omega
def OM (b:Bk)(a:Ab)(F:Nat→Prop)(m:Nat)(k:ByteArray)(n:Nat)(H:af):Out→af→Prop:=fun o H' =>
 (a.v (k,n)=none∧o=.val (.int .i64 110)∧Ext H H')∨(∃h,a.v (k,n)=some h∧h.bf=-1∧o=.val (.int .i64 1)∧Ext H H') ∨
 ∃h,a.v (k,n)=some h∧h.bf≠-1∧o=.val (.int .i64 0)∧kd H' b (a.cut (k,n)) F m∧bl F H H'
theorem Gi {α β:Type}[DecidableEq α](es:List (α×β))(k:α):(lR es k).length≤es.length:=by
 unfold lR;split
 ·exact List.length_eraseIdx_le es _
 ·exact Nat.le_refl _
theorem TJ {b:Bk}{a:Ab}{F:Nat→Prop}{m:Nat}(k:ByteArray)(n:Nat){H:af}(h:kd H b a F m)(hn:m≤8000000):W env (.call 25 [.ptr b.s 0,.str k,.int .u64 n]) H (OM b a F m k n H):=by
 obtain⟨s,sh,hi,rfl,h4,h5⟩:=h
 refine W.use (Oc b s F k n H sh hi (by omega)) fun o H' hq=>?_
 rcases hq with⟨h1,hu,hx⟩|⟨h,h1,h2,hu,hx⟩|⟨h,h1,h2,hu,OL,al⟩
 ·exact .inl ⟨by simp[ea,h1],hu,hx⟩
 ·exact .inr (.inl ⟨h.vd,by simp[ea,h1],h2,hu,hx⟩)
 ·exact .inr (.inr ⟨h.vd,by simp[ea,h1],h2,hu,⟨_,OL,hi.drop k n,Gg hi k n,by simpa[dk.drop]using h4,Nat.le_trans (Gi _ _) h5⟩,al⟩)
def g5 (o:Option Vd):Vd:=o.getD ⟨⟨#[]⟩,[],0⟩
theorem TK (o:Option Hd):(pA o).vd=g5 (o.map Hd.vd):=by cases o<;>rfl
def Names (a:Ab)(l:List Nm):Prop:=l.Pairwise (fun x y=>aY x y=true)∧∀m,m∈l↔a.has m=true
theorem Names.uniq {a:Ab}{l l':List Nm}(h:Names a l)(h':Names a l'):l=l':=tK l l' h.1 h'.1 fun m=>by rw[h.2,h'.2]
def Vt (a:Ab)(m:Nm):List T:=[.str m.1,.int .u64 m.2,.str (g5 (a.v m)).value,.sl .arg ((g5 (a.v m)).keys.map eS),.int .i64 (g5 (a.v m)).bf]
theorem Names.nd {a:Ab}{l:List Nm}(h:Names a l):l.Nodup:=h.1.imp fun {x y} Gj=>by rintro rfl;rw[lH]at Gj;cases Gj
theorem LK {b:Bk}{a:Ab}{F:Nat→Prop}{m:Nat}{H:af}(h:kd H b a F m)(hn:m≤8000000):W env (.call 18 [.ptr b.s 0]) H (fun o H'=>Ext H H'∧∃k l,gx k l∧Names a l∧l.length≤m∧o=.val (.sl k (l.map (Vt a)))):=by
 obtain⟨s,sh,hi,rfl,h4,h5⟩:=h
 refine W.use (OA b s F H sh hi (by omega)) fun o H' ⟨hx,k,l,mF,hu,hp,JZ⟩=>⟨hx,k,l,mF,⟨JZ,fun m=>?_⟩,?_,?_⟩
 ·rw[hp.mem_iff,mem_keys];simp[Ab.has,ea]
 ·rw[hp.length_eq];simpa using h5
 ·rw[hu]
  congr 2
  rw[po,List.map_map]
  refine List.map_congr_left fun m _=>?_
  have e:=TK (ah s.vs m)
  simp -implicitDefEqProofs only[Function.comp,eK,Vt,ea,←e,Hd.vd]
def eW (x:Nm):List T:=[.str x.1,.int .u64 x.2]
def dv (a:Ab)(l:List ByteArray):Prop:=l.Pairwise (fun x y=>strLt x y=true)∧∀k,k∈l↔(a.l k).isSome=true
def ik (a:Ab)(k:ByteArray):Nm:=(k,a.last k)
theorem rm:∀(l l':List ByteArray),l.Pairwise (fun a b=>strLt a b=true)→l'.Pairwise (fun a b=>strLt a b=true)→(∀x,x∈l↔x∈l')→l=l'
 | [],[],_,_,_=>rfl
 | [],b :: l',_,_,h=>by have:=(h b).2 (by simp);cases this
 | a :: l,[],_,_,h=>by have:=(h a).1 (by simp);cases this
 | a :: l,b :: l',h1,h2,h=>by
  rw[List.pairwise_cons]at h1 h2
  have fZ:a=b:=by
   rcases List.mem_cons.1 ((h a).1 (by simp))with e|ha
   ·exact e
   ·rcases List.mem_cons.1 ((h b).2 (by simp))with e|hb
    ·exact e.symm
    ·have x1:=h1.1 b hb
     have x2:=h2.1 a ha
     rw[lt_asymm x1]at x2;cases x2
  subst fZ
  congr 1
  refine rm l l' h1.2 h2.2 fun x=>⟨fun hx=>?_,fun hx=>?_⟩
  ·rcases List.mem_cons.1 ((h x).1 (by simp[hx]))with e|je
   ·subst e;have:=h1.1 x hx;rw[eX]at this;cases this
   ·exact je
  ·rcases List.mem_cons.1 ((h x).2 (by simp[hx]))with e|je
   ·subst e;have:=h2.1 x hx;rw[eX]at this;cases this
   ·exact je
theorem dv.uniq {a:Ab}{l l':List ByteArray}(h:dv a l)(h':dv a l'):l=l':=rm l l' h.1 h'.1 fun m=>by rw[h.2,h'.2]
theorem uS {a:Ab}{n:Nat}{l:List (ByteArray×ByteArray)}{ks:List ByteArray}{now:Int}{m:Nm}:(a.put n l ks now).has m=(a.has m||(decide (m.2=n)&&(ah l m.1).isSome)):=by
 simp -implicitDefEqProofs only[Ab.has,Ab.put]
 cases h:a.v m with
 | some x=>simp
 | none =>
  by_cases e:m.2=n
  ·simp[e]
  ·simp[e]
theorem Ao {a:Ab}{n:Nat}{now:Int}{m:Nm}:(a.n9 n now).has m=a.has m:=by
 simp -implicitDefEqProofs only[Ab.has,Ab.n9,Option.isSome_map]
theorem B6 {α β:Type}[DecidableEq α]{es:List (α×β)}{k:α}(h:(ah es k).isSome=true):k∈es.map (·.1):=by rw[mem_keys];exact h
structure mc (H0 H:af)(b:Bk)(a:Ab)(F:Nat→Prop)(m:Nat):Prop where
 at_:kd H b a F m
 ma:bl (fun _=>False) H0 H
 new:∀c,F c→H0.length≤c∧c<H.length
theorem mc.ext {H0 H H':af}{b:Bk}{a:Ab}{F:Nat→Prop}{m:Nat}(h:mc H0 H b a F m)(hx:Ext H H'):mc H0 H' b a F m:=⟨h.at_.ext hx,h.ma.ext hx,fun c hc=>by have:=h.new c hc;have:=hx.len;omega⟩
theorem mc.go {H0 H H':af}{b:Bk}{a a':Ab}{F F':Nat→Prop}{m m':Nat}(h:mc H0 H b a F m)(ha:kd H' b a' F' m')(hf:bl F H H')(hg:HA F F' H H'):mc H0 H' b a' F' m':=⟨ha,h.ma.more hf fun c hc=>(h.new c hc).1,fun c hc=>by
 have l1:=h.ma.1
 have l2:=hf.1
 rcases hg c hc with h'|h'
 ·have:=h.new c h';omega
 ·omega⟩
theorem mc.go' {H0 H H':af}{b:Bk}{a a':Ab}{F:Nat→Prop}{m m':Nat}(h:mc H0 H b a F m)(ha:kd H' b a' F m')(hf:bl F H H'):mc H0 H' b a' F m':=h.go ha hf fun _ h=>.inl h
theorem kd.keys {H:af}{b:Bk}{a:Ab}{F:Nat→Prop}{n:Nat}(h:kd H b a F n):∀m,(g5 (a.v m)).keys.length≤1024:=fun m=>by
 obtain⟨s,_,hi,rfl,_⟩:=h
 simp -implicitDefEqProofs only[ea]
 cases e:ah s.vs m with
 | none=>simp[g5]
 | some x=>exact(hi.SG m x e).2
theorem kd.names {H:af}{b:Bk}{a:Ab}{F:Nat→Prop}{n:Nat}(h:kd H b a F n):∃l,Names a l∧l.length≤n:=by
 obtain⟨s,_,hi,rfl,_,hv⟩:=h
 obtain⟨hp,JZ⟩:=nL (d:=(s.vs.map (·.1)).toArray) (by simpa using hi.nd)
 refine⟨_,⟨JZ,fun m=>?_⟩,?_⟩
 ·rw[hp.mem_iff]
  show m∈(s.vs.map (·.1)).toArray.toList↔_
  rw[List.toList_toArray,mem_keys];simp[Ab.has,ea]
 ·rw[hp.length_eq];simpa using hv
theorem TL {b:Bk}{a:Ab}{F:Nat→Prop}{m:Nat}(n:Nat)(k k':SK)(l:List (ByteArray×ByteArray))(ks:List ByteArray)(now:Int){H:af}(h:kd H b a F m)(hl:l.length≤8000000)(PA:ks.length≤8000000)(hm:¬(lS n l ks∧bm now)) :
  W env (.call 23 [.ptr b.s 0,.int .u64 n,.sl k (l.map eP),.sl k' (ks.map eS),.int .i64 now]) H (fun o H'=>o=.val (.bN [.bool false,.int .i64 1])∧Ext H H'):=by
 refine W.bS rfl rfl rfl ?_
 simp -implicitDefEqProofs only[Jr,op,ef,cl,sq,reduceIte,j4,j5,j6,j7,j8,j9,y1,y2,y3,S1]
 refine ae _ _ _ _ _ _ _ _ (LA n k k' l ks _ (by omega) (by omega)) ?_
 rintro u H1⟨ib,bb,hu,hb⟩
 cases hu
 cases bb
 ·simp -implicitDefEqProofs only[op,ef,cl,sq,reduceIte,j4,j5,j6,j7,j8,j9,y1,y2,y3,S1];exact ib
 ·simp -implicitDefEqProofs only[op,ef,cl,sq,reduceIte,j4,j5,j6,j7,j8,j9,y1,y2,y3,S1]
  refine ae _ _ _ _ _ _ _ _ (qV now _) ?_
  rintro u H2⟨hu,rfl⟩
  cases hu
  have hf:(decide (0≤now)&&decide (now≤1099511627776))=false:=by
   rw[Bool.and_eq_false_iff,decide_eq_false_iff_not,decide_eq_false_iff_not]
   have:¬bm now:=fun h=>hm ⟨hb.1 rfl,h⟩
   unfold bm at this;omega
  simp -implicitDefEqProofs only[op,ef,cl,sq,reduceIte,j4,j5,j6,j7,j8,j9,y1,y2,y3,S1,hf]
  exact ib
def HB (a:Ab):Prop:=∀m h,a.v m=some h→(h.bf=-1↔¬m.2<a.last m.1)
theorem HB.emp:HB Ab.emp:=fun m h e=>by cases e
theorem HB.put {a:Ab}(h:HB a){n:Nat}{l:List (ByteArray×ByteArray)}{ks:List ByteArray}{now:Int}(ht:0≤now):HB (a.put n l ks now):=fun m x e=>by
 have hl:(a.put n l ks now).last m.1=a.last m.1:=rfl
 rw[hl]
 simp -implicitDefEqProofs only[Ab.put]at e
 cases h1:a.v m with
 | some y=>rw[h1]at e;cases e;exact h m _ h1
 | none =>
  rw[h1]at e
  simp only at e
  split at e
  ·rename_i en
   cases h2:ah l m.1 with
   | none=>rw[h2]at e;cases e
   | some v =>
    rw[h2]at e;cases e
    simp only
    split
    ·rename_i ax;rw[en];constructor
     ·intro;omega
     ·intro hh;exact absurd ax hh
    ·rename_i ax;rw[en];simp[ax]
  ·cases e
theorem HB.n9 {a:Ab}(h:HB a){n:Nat}{now:Int}(ht:0≤now):HB (a.n9 n now):=fun m x e=>by
 have hl:(a.n9 n now).last m.1=if a.has (m.1,n)=true∧a.last m.1<n then n else a.last m.1:=by
  show(if _ then some n else a.l m.1).getD 0=_
  by_cases hc:a.has (m.1,n)=true∧a.last m.1<n
  ·rw[if_pos hc,if_pos hc];rfl
  ·rw[if_neg hc,if_neg hc];rfl
 rw[hl]
 simp -implicitDefEqProofs only[Ab.n9]at e
 cases h1:a.v m with
 | none=>rw[h1]at e;cases e
 | some y =>
  have hy:=h m y h1
  rw[h1]at e;simp -implicitDefEqProofs only[Option.map_some,Option.some.injEq]at e;subst e
  by_cases hc:a.has (m.1,n)=true∧a.last m.1<n
  ·rw[if_pos hc]
   by_cases hs:y.bf=-1
   ·by_cases hm:m.2<n
    ·rw[if_pos ⟨hs,hc.1,hc.2,hm⟩];simp only;constructor
     ·intro;omega
     ·intro hh;exact absurd hm hh
    ·rw[if_neg fun hh=>hm hh.2.2.2];exact⟨fun _=>hm,fun _=>hs⟩
   ·rw[if_neg fun hh=>hs hh.1]
    have:m.2<a.last m.1:=Decidable.of_not_not fun hh=>hs (hy.2 hh)
    constructor
    ·intro hh;exact absurd hh hs
    ·intro hh;omega
  ·rw[if_neg hc,if_neg fun hh=>hc ⟨hh.2.1,hh.2.2.1⟩];exact hy
theorem B7 {α β:Type}[DecidableEq α](es:List (α×β))(k k':α)(v:β):ah (es++[(k,v)]) k'=(ah es k').or (if k'=k then some v else none):=by
 induction es with
 | nil=>simp[bG,dC]
 | cons e es ih =>
  rw[List.cons_append,bG,bG,ih]
  split<;>simp
theorem Gk (a:Ab)(n:Nat)(l:List (ByteArray×ByteArray))(ks:List ByteArray)(now:Int)(m:Nm):(a.put n l ks now).v m=(a.v m).or (if m.2=n then(ah l m.1).map fun v=>⟨v,ks,if n<a.last m.1 then now else -1⟩else none):=by
 simp -implicitDefEqProofs only[Ab.put]
 cases a.v m<;>rfl
structure Kd where
 key:ByteArray
 id:Nat
 value:ByteArray
 kk:SK
 keys:List ByteArray
 bf:Int
def Kd.nm (x:Kd):Nm:=(x.key,x.id)
def Kd.vd (x:Kd):Vd:=⟨x.value,x.keys,x.bf⟩
def me (x:Kd):List T:=[.str x.key,.int .u64 x.id,.str x.value,.sl x.kk (x.keys.map eS),.int .i64 x.bf]
def TM (x:Kd):Prop:=gx x.kk x.keys∧x.keys.length≤8000000
def pD (a:Ab)(x:Kd):Prop:=65536≤x.id∧fV x.keys∧x.key∈x.keys∧x.value.size≤65535∧if x.id<a.last x.key then bm x.bf else x.bf=-1
set_option maxHeartbeats 8000000 in
theorem Ap {b:Bk}{a:Ab}{F:Nat→Prop}{m:Nat}(x:Kd)(hx:TM x){H:af}(h:kd H b a F m):W env (.call 91 [.ptr b.s 0,.agg (me x)]) H (fun o H'=>Ext H H'∧∃t,o=.val (.bool t)∧(t=true↔pD a x)):=by
 obtain⟨s,⟨im,pm,sa⟩,hi,rfl,h4,h5⟩:=h
 have l0:=aW sa.hs
 have ll:=aW sa.hl
 have LC:b.s<H.length+1:=by omega
 have Vg:b.s<H.length+2:=by omega
 have Vh:b.l<H.length+1:=by omega
 have Vi:b.l<H.length+2:=by omega
 have rX:=nH s x.key
 have gr:(ea s).last x.key=bJ s x.key:=rfl
 have CB:Ext H (H++[B.cells (me x)]++[B.cells [.str x.key,.int .u64 x.id,.str x.value,.sl x.kk (x.keys.map eS)]]):=(Ext.rfl'.app _).app _
 have no:¬pD (ea s) x→((false:Bool)=true↔pD (ea s) x):=fun h=>⟨fun e=>(by cases e),fun e=>absurd e h⟩
 have c0:(H++[B.cells (me x)]++[B.cells [.str x.key,.int .u64 x.id,.str x.value,.sl x.kk (x.keys.map eS)]])[H.length]?=some (.cells (me x)):=by rw[aV (by simp),aX rfl]
 simp -implicitDefEqProofs only[me]at CB c0
 refine W.bS rfl rfl rfl ?_
 by_cases SP:x.id<65536
 ·simp -implicitDefEqProofs only[Jw,me,op,ef,cl,sq,reduceIte,j4,j5,j6,j7,j8,j9,y1,y2,y3,S1,S2,SP]
  exact⟨CB,false,rfl,no fun h=>by have:=h.1;omega⟩
 simp -implicitDefEqProofs only[Jw,me,op,ef,cl,sq,reduceIte,j4,j5,j6,j7,j8,j9,y1,y2,y3,S1,S2,SP]
 refine ae _ _ _ _ _ _ _ _ (xa x.kk x.keys _ (by have:=hx.2;omega)) ?_
 rintro u H1⟨hu,rfl⟩
 cases hu
 cases hg:jR x.keys
 ·simp -implicitDefEqProofs only[op,ef,cl,sq,reduceIte,j4,j5,j6,j7,j8,j9,y1,y2,y3,S1,S2]
  exact⟨CB,false,rfl,no fun h=>by have:=dD.2 h.2.1;rw[hg]at this;cases this⟩
 have Ho:=dD.1 hg
 simp -implicitDefEqProofs only[op,ef,cl,sq,reduceIte,j4,j5,j6,j7,j8,j9,y1,y2,y3,S1,S2]
 refine ae _ _ _ _ _ _ _ _ (FL x.kk x.keys x.key _ (by have:=hx.2;omega) Ho.iG) ?_
 rintro u H1⟨hu,rfl⟩
 cases hu
 cases hm:nC x.keys x.key
 ·simp -implicitDefEqProofs only[op,ef,cl,sq,reduceIte,j4,j5,j6,j7,j8,j9,y1,y2,y3,S1,S2]
  exact⟨CB,false,rfl,no fun h=>pY.1 hm h.2.2.1⟩
 by_cases a7:65535<x.value.size
 ·simp -implicitDefEqProofs only[op,ef,cl,sq,reduceIte,j4,j5,j6,j7,j8,j9,y1,y2,y3,S1,S2,a7]
  exact⟨CB,false,rfl,no fun h=>by have:=h.2.2.2.1;omega⟩
 have ok:∀t:Bool,(t=true↔if x.id<bJ s x.key then bm x.bf else x.bf=-1)→(t=true↔pD (ea s) x):=fun t ht=>by
  rw[ht]
  exact⟨fun h=>⟨by omega,Ho,nD.1 hm,by omega,h⟩,fun h=>h.2.2.2.2⟩
 by_cases ax:x.id<bJ s x.key
 ·simp -implicitDefEqProofs only[op,ef,cl,sq,reduceIte,j4,j5,j6,j7,j8,j9,y1,y2,y3,S1,S2,a7,sa.hs,sa.hl,l0,LC,Vg,ll,Vh,Vi,fp,rX,ax,c0]
  refine ae _ _ _ _ _ _ _ _ (qV x.bf _) ?_
  rintro u H1⟨hu,rfl⟩
  cases hu
  simp -implicitDefEqProofs only[op,ef,cl,sq,reduceIte,j4,j5,j6,j7,j8,j9,y1,y2,y3,S1]
  exact⟨CB,_,rfl,ok _ (by rw[if_pos ax];simp[bm])⟩
 ·simp -implicitDefEqProofs only[op,ef,cl,sq,reduceIte,j4,j5,j6,j7,j8,j9,y1,y2,y3,S1,S2,a7,sa.hs,sa.hl,l0,LC,Vg,ll,Vh,Vi,fp,rX,ax,c0]
  exact⟨CB,_,rfl,ok _ (by rw[if_neg ax];simp)⟩
theorem tN {α:Type}{R:α→α→Prop}(tr:∀a b c,R a b→R b c→R a c){l:List α}{i:Nat}{x:α}(hx:l[i]?=some x):(l.take (i+1)).Pairwise R↔(l.take i).Pairwise R∧(0<i→∀y,l[i-1]?=some y→R y x):=by
 rw[cC hx,List.pairwise_append]
 constructor
 ·rintro⟨h1,_,h3⟩
  exact⟨h1,fun h0 y hy=>h3 y (List.mem_of_getElem? (i:=i-1) (by rw[List.getElem?_take,if_pos (by omega)];exact hy)) x (by simp)⟩
 ·rintro⟨h1,h2⟩
  refine⟨h1,by simp,fun a ha c hc=>?_⟩
  simp -implicitDefEqProofs only[List.mem_singleton]at hc;subst hc
  have hi:=(List.getElem?_eq_some_iff.1 hx).1
  by_cases h0:0<i
  ·obtain⟨y,hy⟩:=cB (l:=l) (i:=i-1) (by omega)
   have e:l.take i=l.take (i-1)++[y]:=by rw[←cC hy,Nat.sub_add_cancel h0]
   rw[e]at h1 ha
   rw[List.pairwise_append]at h1
   rcases List.mem_append.1 ha with ha|ha
   ·exact tr _ _ _ (h1.2.2 a ha y (by simp)) (h2 h0 y hy)
   ·simp -implicitDefEqProofs only[List.mem_singleton]at ha;subst ha;exact h2 h0 a hy
  ·have:i=0:=by omega
   subst this;simp at ha
def jM (ls:List Nm):Prop:=ls.Pairwise (fun a b=>strLt a.1 b.1=true)
def jN (l:List Kd):Prop:=l.Pairwise (fun x y=>aY x.nm y.nm=true)
def yQ (l:List Kd):List (Nm×Vd):=l.map fun x=>(x.nm,x.vd)
def ga (kept:List Kd)(bu:List Nm):Ab:=⟨fun m=>ah (yQ kept) m,fun k=>ah bu k⟩
def mI (kept:List Kd)(bu:List Nm):Prop:=jM bu∧jN kept∧(∀x∈kept,pD (ga [] bu) x)∧∀e∈bu,∃x∈kept,x.nm=e
theorem jM.nd {ls:List Nm}(h:jM ls):(ls.map (·.1)).Nodup:=List.pairwise_map.2 (h.imp fun {a b} fZ e=>by rw[e,eX]at fZ;cases fZ)
theorem uT (l:List Kd):(yQ l).map (·.1)=l.map Kd.nm:=by simp[yQ,Function.comp_def]
theorem jN.nd {l:List Kd}(h:jN l):(l.map Kd.nm).Nodup:=List.pairwise_map.2 (h.imp fun {a b} fZ e=>by rw[e,lH]at fZ;cases fZ)
theorem nO {α β:Type}[DecidableEq α]{es:List (α×β)}{k:α}{v:β}(h:ah es k=some v):(k,v)∈es:=by
 induction es with
 | nil=>cases h
 | cons e es ih =>
  rw[bG]at h
  split at h
  ·rename_i e2;cases h;rw[e2];exact List.mem_cons_self
  ·exact List.mem_cons_of_mem _ (ih h)
theorem Gl {a a':Ab}(h:a.l=a'.l)(x:Kd):pD a x↔pD a' x:=by
 have:a.last=a'.last:=by funext k;simp[Ab.last,h]
 unfold pD;rw[this]
theorem rn {α β:Type}[DecidableEq α](es:List (α×β))(e:α×β)(k':α):ah (es++[e]) k'=(ah es k').or (if k'=e.1 then some e.2 else none):=B7 es e.1 k' e.2
theorem kd.TN {H:af}{b:Bk}{a:Ab}{F:Nat→Prop}{m:Nat}(h:kd H b a F m)(k:ByteArray)(n:Nat):∃im,H[b.s]?=some (.cells [.map b.v,.map b.i,.map b.p,.map b.l])∧H[b.l]?=some (.map (ba T.str im))∧F b.l ∧
  kd (H.set b.l (.map (ba T.str (cq im k (.int .u64 n))))) b ⟨a.v,fun k'=>if k'=k then some n else a.l k'⟩ F m:=by
 obtain⟨s,⟨im,pm,sa⟩,hi,rfl,h4,h5⟩:=h
 refine⟨jW s.ls,sa.hs,sa.hl,sa.F0.2.2.2.2,{ s with ls:=cq s.ls k n },⟨im,pm,?_⟩,?_,?_,h4,h5⟩
 ·have e:cq (jW s.ls) k (T.int .u64 n)=jW (cq s.ls k n):=nE (fun n:Nat=>T.int .u64 n) s.ls k n
  rw[e];exact sa.SO _
 ·exact VS.inv (v':=s.vs) (now:=0) hi (VS.nil hi.nd) _ (cV hi.yu _ _)
 ·refine gl (fun m=>rfl) fun k'=>?_
  simp -implicitDefEqProofs only[ea,bn]
theorem TO {b:Bk}{a:Ab}{F:Nat→Prop}{m:Nat}(x:Kd)(kk:SK){H:af}(h:kd H b a F m)(hn:m+1≤8000000)(hk:gx kk x.keys)(hl:x.keys.length≤1024)(gB:a.v x.nm=none) :
  W env (.call 68 [.ptr b.s 0,.agg [.str x.key,.int .u64 x.id],.agg [.str x.value,.sl kk (x.keys.map eS),.int .i64 x.bf]]) H (fun o H'=>o=.val (.bN [])∧∃F',kd H' b ⟨fun m'=>if m'=x.nm then some x.vd else a.v m',a.l⟩ F' (m+1)∧bl F H H'∧HA F F' H H'):=by
 obtain⟨s,sh,hi,rfl,h4,h5⟩:=h
 have ZI:ah s.vs (x.key,x.id)=none:=by simpa[ea,Kd.nm]using gB
 refine W.use (LB b s F x.key x.id ⟨x.value,kk,x.keys,x.bf⟩ H sh hi ZI (by omega) ⟨hk,hl⟩) fun o H' ⟨hu,s',F',OL,jU,hY,Hr,Ba,al,hg⟩=>⟨hu,F',⟨s',OL,jU,?_,by omega,?_⟩,al,hg⟩
 ·refine gl (fun m'=>?_) fun k=>by simp -implicitDefEqProofs only[ea,Hr]
  have e0:(x.key,x.id)=x.nm:=rfl
  simp -implicitDefEqProofs only[ea,hY,bn,e0]
  by_cases e:m'=x.nm
  ·rw[if_pos e,if_pos e];rfl
  ·rw[if_neg e,if_neg e]
 ·rw[hY]
  have:∀(es:List (Nm×Hd)) k v,(cq es k v).length≤es.length+1:=fun es k v=>by unfold cq;split<;>simp
  have:=this s.vs (x.key,x.id) ⟨x.value,kk,x.keys,x.bf⟩
  omega
def TP (kept:List Kd)(bu:List Nm)(H:af):Out→af→Prop:=fun o H' =>
 (mI kept bu∧∃b F,o=.val (.bN [.ptr b.s 0,.int .i64 0])∧mc H H' b (ga kept bu) F kept.length)∨(¬mI kept bu∧o=.val (.bN [.bV,.int .i64 1])∧Ext H H')
set_option maxHeartbeats 2000000 in
theorem ON (k1 k2:SK)(kept:List Kd)(bu:List Nm)(U2:kept.length≤8000000)(rX:bu.length≤8000000)(mF:∀x∈kept,TM x)(H:af):W env (.call 58 [.sl k1 (kept.map me),.sl k2 (bu.map eW)]) H (TP kept bu H):=by
 refine W.bS rfl rfl rfl ?_
 simp -implicitDefEqProofs only[NK,op,ef,cl,sq,reduceIte,j4,j5,j6,j7,j8,j9,y1,y2,y3,S1]
 refine ae _ _ _ _ _ _ _ _ (TG _) ?_
 rintro u H1⟨ib,b,F,hu,v1,nF⟩
 cases hu
 have p1:mc H H1 b Ab.emp F 0:=⟨v1,aA ib,nF⟩
 simp -implicitDefEqProofs only[op,ef,cl,sq,reduceIte,j4,j5,j6,j7,j8,j9,y1,y2,y3,S1,List.length_map]
 refine W.gu 0 [(0,_),(1,_),(6,_),(17,_),(18,_)] (fun (i:Nat) R H'=>At H' (fun H'=>mc H H' b (ga [] (bu.take i)) F 0∧jM (bu.take i))∧R 19=.int .i64 i∧i≤bu.length) (fun i=>bu.length-i) 0
  (fun R H'=>At H' (fun H'=>mc H H' b (ga [] bu) F 0∧jM bu)) ⟨.i ⟨by rw[List.take_zero];exact p1,by rw[List.take_zero];exact List.Pairwise.nil⟩,rfl,Nat.zero_le _⟩ ?_ ?_
 ·rintro i R H2⟨⟨p2,Ah⟩,Vu,hi⟩
  by_cases ax:i<bu.length
  ·obtain⟨e,he⟩:=cB ax
   have ie:=iT (e:=eW) (n:=2) (fun _=>rfl) (by decide) (k:=k2) he
   have qc:=aU (show i<9223372036854775807 by omega)
   have dF:=tN (R:=fun a b:Nm=>strLt a.1 b.1=true) (fun a b c h1 h2=>eo h1 h2) he
   have TQ:Ext H2 (H2++[.cells [.str e.1,.int .u64 e.2]]):=⟨_,rfl⟩
   have oX:¬jM (bu.take (i+1))→¬mI kept bu:=fun h hl=>h (hl.1.sublist (List.take_sublist _ _))
   have go:(0<i→∀y,bu[i-1]?=some y→strLt y.1 e.1=true)→jM (bu.take (i+1)):=fun h=>dF.2 ⟨Ah,h⟩
   obtain⟨im,hs,hl,hF,KQ⟩:=(p2.at_.ext TQ).TN e.1 e.2
   have hk:(0<i→∀y,bu[i-1]?=some y→strLt y.1 e.1=true)→kd ((H2++[B.cells [.str e.1,.int .u64 e.2]]).set b.l (.map (ba T.str (cq im e.1 (.int .u64 e.2))))) b (ga [] (bu.take (i+1))) F 0:=fun h=>by
    have e1:ga [] (bu.take (i+1))=⟨(ga [] (bu.take i)).v,fun k'=>if k'=e.1 then some e.2 else(ga [] (bu.take i)).l k'⟩:=by
     refine gl (fun m=>rfl) fun k'=>?_
     have fv:=(go h).nd
     rw[cC he,List.map_append,List.nodup_append]at fv
     have gB:ah (bu.take i) e.1=none:=cw.2 fun hh=>fv.2.2 _ hh e.1 (by simp) rfl
     simp -implicitDefEqProofs only[ga,cC he,rn]
     by_cases e2:k'=e.1
     ·subst e2;simp[gB]
     ·simp -implicitDefEqProofs only[e2,if_false];cases ah (bu.take i) k'<;>rfl
    rw[e1];exact KQ
   have hZ:∀h,mc H ((H2++[B.cells [.str e.1,.int .u64 e.2]]).set b.l (.map (ba T.str (cq im e.1 (.int .u64 e.2))))) b (ga [] (bu.take (i+1))) F 0:=fun h=>(p2.ext TQ).go' (hk h) ((bl.refl F _).set (.inl hF) _)
   have lb:=aW hs
   have ZJ:=aW hl
   simp -implicitDefEqProofs only[List.length_append,List.length_cons,List.length_nil]at lb ZJ
   by_cases n6:0<i
   ·obtain⟨y,hy⟩:=cB (l:=bu) (i:=i-1) (by omega)
    have wp:=lB (show i<9223372036854775807 by omega) n6
    have iy:=iT (e:=eW) (n:=2) (fun _=>rfl) (by decide) (k:=k2) hy
    cases hc:strLt y.1 e.1
    ·simp -implicitDefEqProofs only[aq,aj,op,ef,cl,sq,reduceIte,j4,j5,j6,j7,j8,j9,y1,y2,y3,S1,S2,Vu,ax,aa,ie,iy,eW,n6,wp,hc]
     exact .inr ⟨oX fun h=>(by have:=(dF.1 h).2 n6 y hy;rw[hc]at this;cases this),rfl,gC (p2.ext TQ).ma⟩
    ·have cn:0<i→∀y,bu[i-1]?=some y→strLt y.1 e.1=true:=fun _ y' Hm=>by rw[hy]at Hm;cases Hm;exact hc
     simp -implicitDefEqProofs only[aq,aj,op,ef,cl,sq,reduceIte,j4,j5,j6,j7,j8,j9,y1,y2,y3,S1,S2,Vu,ax,aa,ie,iy,eW,n6,wp,hc,hs,hl,lb,ZJ,mC,qc]
     exact⟨i+1,by omega,.i ⟨hZ cn,go cn⟩,rfl,by omega⟩
   ·have cn:0<i→∀y,bu[i-1]?=some y→strLt y.1 e.1=true:=fun h=>absurd h n6
    simp -implicitDefEqProofs only[aq,aj,op,ef,cl,sq,reduceIte,j4,j5,j6,j7,j8,j9,y1,y2,y3,S1,S2,Vu,ax,aa,ie,eW,n6,hs,hl,lb,ZJ,mC,qc]
    exact⟨i+1,by omega,.i ⟨hZ cn,go cn⟩,rfl,by omega⟩
  ·have nk:i=bu.length:=by omega
   subst nk
   rw[List.take_length]at p2 Ah
   simp -implicitDefEqProofs only[aq,aj,op,ef,cl,sq,reduceIte,j4,j5,j6,j7,j8,j9,y1,y2,y3,S1,Vu,ax]
   exact .i ⟨p2,Ah⟩
 rintro R H2⟨p2,TR⟩
 simp -implicitDefEqProofs only[aq,aj,op,ef,cl,sq,reduceIte,j4,j5,j6,j7,j8,j9,y1,y2,y3,S1,List.length_map]
 refine W.gu 2 [(0,_),(6,_),(46,_),(47,_)] (fun (j:Nat) R H'=>At H' (fun H'=>∃F',mc H H' b (ga (kept.take j) bu) F' j∧jN (kept.take j)∧∀x∈kept.take j,pD (ga [] bu) x)∧R 48=.int .i64 j∧j≤kept.length) (fun j=>kept.length-j) 0
  (fun R H'=>At H' (fun H'=>∃F',mc H H' b (ga kept bu) F' kept.length∧jN kept∧∀x∈kept,pD (ga [] bu) x)) ⟨.i ⟨F,p2,by rw[List.take_zero];exact List.Pairwise.nil,by simp⟩,rfl,Nat.zero_le _⟩ ?_ ?_
 ·rintro j R H3⟨⟨F',p3,Ah,J4⟩,J5,hj⟩
  by_cases ax:j<kept.length
  ·obtain⟨x,hx⟩:=cB ax
   have ix:=iT (e:=me) (n:=5) (fun _=>rfl) (by decide) (k:=k1) hx
   have wsj:=aU (show j<9223372036854775807 by omega)
   have dF:=tN (R:=fun x y:Kd=>aY x.nm y.nm=true) (fun a b c h1 h2=>lI h1 h2) hx
   have J6:=mF x (List.mem_of_getElem? hx)
   have oX:¬(jN (kept.take (j+1))∧pD (ga [] bu) x)→¬mI kept bu:=fun h hl=>h ⟨hl.2.1.sublist (List.take_sublist _ _),hl.2.2.1 x (List.mem_of_getElem? hx)⟩
   have TQ:Ext H3 (H3++[.cells [.str x.key,.int .u64 x.id,.str x.value,.sl x.kk (x.keys.map eS),.int .i64 x.bf]]++[.cells [.str x.key,.int .u64 x.id]]):=(Ext.rfl'.app _).app _
   have c0:(H3++[B.cells [.str x.key,.int .u64 x.id,.str x.value,.sl x.kk (x.keys.map eS),.int .i64 x.bf]]++[B.cells [.str x.key,.int .u64 x.id]])[H3.length]?=some (.cells [.str x.key,.int .u64 x.id,.str x.value,.sl x.kk (x.keys.map eS),.int .i64 x.bf]):=by rw[aV (by simp),aX rfl]
   have c1:(H3++[B.cells [.str x.key,.int .u64 x.id,.str x.value,.sl x.kk (x.keys.map eS),.int .i64 x.bf]]++[B.cells [.str x.key,.int .u64 x.id]])[H3.length+1]?=some (.cells [.str x.key,.int .u64 x.id]):=aX (by simp)
   have p4:=p3.ext TQ
   have abj:(H3++[B.cells [.str x.key,.int .u64 x.id,.str x.value,.sl x.kk (x.keys.map eS),.int .i64 x.bf]]++[B.cells [.str x.key,.int .u64 x.id]]).length=H3.length+2:=by simp
   simp -implicitDefEqProofs only[aq,aj,op,ef,cl,sq,reduceIte,j4,j5,j6,j7,j8,j9,y1,y2,y3,S1,S2,S3,J5,ax,aa,ix,me]
   generalize H3++[B.cells [.str x.key,.int .u64 x.id,.str x.value,.sl x.kk (x.keys.map eS),.int .i64 x.bf]]++[B.cells [.str x.key,.int .u64 x.id]]=H4 at *
   have fin:∀H5,Ext H4 H5→jN (kept.take (j+1))→(ga (kept.take j) bu).v x.nm=none∧ga (kept.take (j+1)) bu=⟨fun m'=>if m'=x.nm then some x.vd else(ga (kept.take j) bu).v m',(ga (kept.take j) bu).l⟩:=fun H5 _ hu=>by
    have fv:=hu.nd
    rw[cC hx,List.map_append,List.nodup_append]at fv
    have gB:ah (yQ (kept.take j)) x.nm=none:=cw.2 fun hh=>by
     rw[uT]at hh
     exact fv.2.2 _ hh x.nm (by simp) rfl
    refine⟨gB,gl (fun m=>?_) fun _=>rfl⟩
    have:yQ (kept.take (j+1))=yQ (kept.take j)++[(x.nm,x.vd)]:=by rw[cC hx];simp[yQ]
    simp -implicitDefEqProofs only[ga,this,rn]
    by_cases e2:m=x.nm
    ·subst e2;simp[gB]
    ·simp -implicitDefEqProofs only[e2,if_false];cases ah (yQ (kept.take j)) m<;>rfl
   have lld:(ga (kept.take j) bu).l=(ga [] bu).l:=rfl
   by_cases TS:0<j
   ·obtain⟨y,hy⟩:=cB (l:=kept) (i:=j-1) (by omega)
    have wp:=lB (show j<9223372036854775807 by omega) TS
    have iy:=iT (e:=me) (n:=5) (fun _=>rfl) (by decide) (k:=k1) hy
    simp -implicitDefEqProofs only[aq,aj,op,ef,cl,sq,reduceIte,j4,j5,j6,j7,j8,j9,y1,y2,y3,S1,J5,aa,TS,wp,iy,me,c0,c1]
    refine ae _ _ _ _ _ _ _ _ (cd y.nm x.nm _) ?_
    rintro u H5⟨hu,oY⟩
    cases hu
    have oY:Ext H4 H5:=oY
    have p5:=p4.ext oY
    have TT:=oY.get c0
    have So:=oY.get c1
    have PB:decide (0≤dz y.nm x.nm)=!aY y.nm x.nm:=by
     unfold aY
     rw[Bool.eq_iff_iff];simp
    cases hc:aY y.nm x.nm
    ·rw[hc]at PB
     simp -implicitDefEqProofs only[aq,aj,op,ef,cl,sq,reduceIte,j4,j5,j6,j7,j8,j9,y1,y2,y3,S1,PB]
     exact .inr ⟨oX fun h=>(by have:=(dF.1 h.1).2 TS y hy;rw[hc]at this;cases this),rfl,gC p5.ma⟩
    ·rw[hc]at PB
     have Gm:jN (kept.take (j+1)):=dF.2 ⟨Ah,fun _ y' Hm=>by rw[hy]at Hm;cases Hm;exact hc⟩
     simp -implicitDefEqProofs only[aq,aj,op,ef,cl,sq,reduceIte,j4,j5,j6,j7,j8,j9,y1,y2,y3,S1,PB,J5,TT]
     refine ae _ _ _ _ _ _ _ _ (Ap x J6 p5.at_) ?_
     rintro u H6⟨xo,t,hu,ht⟩
     cases hu
     have yx:=ht.trans (Gl lld x)
     obtain⟨gB,CT⟩:=fin _ oY Gm
     cases t
     ·simp -implicitDefEqProofs only[aq,aj,op,ef,cl,sq,reduceIte,j4,j5,j6,j7,j8,j9,y1,y2,y3,S1]
      exact .inr ⟨oX fun h=>(by have:=yx.2 h.2;cases this),rfl,gC (p5.ext xo).ma⟩
     ·have TU:=xo.get TT
      have TV:=xo.get So
      have Ho:=(yx.1 rfl).2.1.2.2
      simp -implicitDefEqProofs only[aq,aj,op,ef,cl,sq,reduceIte,j4,j5,j6,j7,j8,j9,y1,y2,y3,S1,J5,TU,TV]
      refine ae _ _ _ _ _ _ _ _ (pZ x.kk x.keys _ J6.1 (by omega)) ?_
      rintro u H7⟨tO,kk,bO,hu⟩
      cases hu
      have p7:=(p5.ext xo).ext tO
      have ZK:=tO.get TU
      have Sp:=tO.get TV
      simp -implicitDefEqProofs only[aq,aj,op,ef,cl,sq,reduceIte,j4,j5,j6,j7,j8,j9,y1,y2,y3,S1,ZK,Sp]
      refine ae _ _ _ _ _ _ _ _ (TO x kk p7.at_ (by omega) bO Ho gB) ?_
      rintro u H8⟨hu,F8,a8,f8,g8⟩
      cases hu
      rw[←CT]at a8
      simp -implicitDefEqProofs only[aq,aj,op,ef,cl,sq,reduceIte,j4,j5,j6,j7,j8,j9,y1,y2,y3,S1,J5,wsj]
      refine⟨j+1,by omega,.i ⟨F8,p7.go a8 f8 g8,Gm,fun z hz=>?_⟩,rfl,by omega⟩
      rw[cC hx]at hz
      rcases List.mem_append.1 hz with hz|hz
      ·exact J4 z hz
      ·simp -implicitDefEqProofs only[List.mem_singleton]at hz;subst hz;exact yx.1 rfl
   ·have Gm:jN (kept.take (j+1)):=dF.2 ⟨Ah,fun h=>absurd h TS⟩
    have p5:=p4
    have TT:=c0
    have So:=c1
    have oY:Ext H4 H4:=Ext.rfl'
    simp -implicitDefEqProofs only[aq,aj,op,ef,cl,sq,reduceIte,j4,j5,j6,j7,j8,j9,y1,y2,y3,S1,TS,J5,TT]
    refine ae _ _ _ _ _ _ _ _ (Ap x J6 p5.at_) ?_
    rintro u H6⟨xo,t,hu,ht⟩
    cases hu
    have yx:=ht.trans (Gl lld x)
    obtain⟨gB,CT⟩:=fin _ oY Gm
    cases t
    ·simp -implicitDefEqProofs only[aq,aj,op,ef,cl,sq,reduceIte,j4,j5,j6,j7,j8,j9,y1,y2,y3,S1]
     exact .inr ⟨oX fun h=>(by have:=yx.2 h.2;cases this),rfl,gC (p5.ext xo).ma⟩
    ·have TU:=xo.get TT
     have TV:=xo.get So
     have Ho:=(yx.1 rfl).2.1.2.2
     simp -implicitDefEqProofs only[aq,aj,op,ef,cl,sq,reduceIte,j4,j5,j6,j7,j8,j9,y1,y2,y3,S1,J5,TU,TV]
     refine ae _ _ _ _ _ _ _ _ (pZ x.kk x.keys _ J6.1 (by omega)) ?_
     rintro u H7⟨tO,kk,bO,hu⟩
     cases hu
     have p7:=(p5.ext xo).ext tO
     have ZK:=tO.get TU
     have Sp:=tO.get TV
     simp -implicitDefEqProofs only[aq,aj,op,ef,cl,sq,reduceIte,j4,j5,j6,j7,j8,j9,y1,y2,y3,S1,ZK,Sp]
     refine ae _ _ _ _ _ _ _ _ (TO x kk p7.at_ (by omega) bO Ho gB) ?_
     rintro u H8⟨hu,F8,a8,f8,g8⟩
     cases hu
     rw[←CT]at a8
     simp -implicitDefEqProofs only[aq,aj,op,ef,cl,sq,reduceIte,j4,j5,j6,j7,j8,j9,y1,y2,y3,S1,J5,wsj]
     refine⟨j+1,by omega,.i ⟨F8,p7.go a8 f8 g8,Gm,fun z hz=>?_⟩,rfl,by omega⟩
     rw[cC hx]at hz
     rcases List.mem_append.1 hz with hz|hz
     ·exact J4 z hz
     ·simp -implicitDefEqProofs only[List.mem_singleton]at hz;subst hz;exact yx.1 rfl
  ·have Y0:j=kept.length:=by omega
   subst Y0
   rw[List.take_length]at p3 Ah J4
   simp -implicitDefEqProofs only[aq,aj,op,ef,cl,sq,reduceIte,j4,j5,j6,j7,j8,j9,y1,y2,y3,S1,J5,ax]
   exact .i ⟨F',p3,Ah,J4⟩
 rintro R H3⟨F',p3,ZL,J4⟩
 obtain⟨s,⟨im,pm,sa⟩,hi,OO,hn3,hv3⟩:=p3.at_
 have Hr:∀k,ah s.ls k=ah bu k:=fun k=>by have:=congrFun (congrArg Ab.l OO) k;exact this
 have hY:∀m,(ah s.vs m).isSome=(ah (yQ kept) m).isSome:=fun m=>by
  have:=congrFun (congrArg Ab.v OO) m
  have h2:(ah s.vs m).map Hd.vd=ah (yQ kept) m:=this
  rw[←h2];simp
 obtain⟨es,hJ⟩:∃es,es=jW s.ls:=⟨_,rfl⟩
 have Dd:(ba T.str es).length=es.length:=by simp[ba]
 have fv:(es.map (·.1)).Nodup:=by rw[hJ];simpa[jW,Function.comp_def]using hi.yu
 have l0:=aW sa.hs
 have ll:=aW sa.hl
 have lv:=aW sa.hv
 have ZM:=sa.hl
 rw[←hJ]at ZM
 have ZN:b.s≠b.l:=by rintro e;have:=sa.hs;rw[e,sa.hl]at this;cases this
 have UT:b.l≠H3.length:=by omega
 simp -implicitDefEqProofs only[aq,aj,op,ef,cl,sq,reduceIte,j4,j5,j6,j7,j8,j9,y1,y2,y3,S1,sa.hs,ZM]
 refine W.Lx [(6,_),(106,_)] (fun (b0:List ByteArray) R H'=>At H' (fun H'=>∃ix cur,RI es ix b0∧H'[b.l]?=some (.cP (ba T.str es) ix H3.length cur)∧H'[H3.length]?=some (.ua b.l)∧bl (fun c=>c=b.l) H3 H'∧∀e∈s.ls,e.1∈b0→(ah s.vs e).isSome=true)) (fun b0=>es.length-b0.length) [] ?_ ?_
 ·refine .i ⟨List.range (ba T.str es).length,none,by rw[Dd];exact RI.start es,?_,?_,?_,by simp⟩
  ·rw[aV (by simpa using ll),bT ll]
  ·rw[aX (by simp)]
  ·exact((bl.refl (fun c=>c=b.l) H3).set (.inl rfl) _).app _
 rintro b0 R H5⟨ix,cur,lG,hm,hit,al,CC⟩
 have lm:=aW hm
 have li:=aW hit
 simp -implicitDefEqProofs only[aq,aj,op,ef,cl,sq,reduceIte,j4,j5,j6,j7,j8,j9,y1,y2,y3,S1]
 refine yn _ _ _ _ _ _ _ (by simp -implicitDefEqProofs only[aq,aj,op,ef,cl,sq,reduceIte,j4,j5,j6,j7,j8,j9,y1,y2,y3,S1]) hm ?_
 rintro t H6 (⟨rfl,rfl,rfl⟩|⟨i,e,jU,he,rfl,rfl⟩)
 ·simp -implicitDefEqProofs only[aq,aj,op,ef,cl,sq,reduceIte,j4,j5,j6,j7,j8,j9,y1,y2,y3,S1]
  have cn:∀e∈s.ls,(ah s.vs e).isSome=true:=fun e he=>CC e he ((lG.BQ e.1).2 (by rw[hJ];exact List.mem_map.2 ⟨(e.1,T.int .u64 e.2),List.mem_map.2 ⟨e,he,rfl⟩,rfl⟩))
  have hF:bl (fun _=>False) H3 (H5.set b.l (.map (ba T.str es))):=by
   refine⟨by rw[List.length_set];exact al.1,fun c hc _=>?_⟩
   by_cases e:c=b.l
   ·subst e;rw[bT lm,ZM]
   ·rw[bh (Ne.symm e),al.2 c hc e]
  refine .inl ⟨⟨TR,ZL,J4,fun e he=>?_⟩,b,F',rfl,p3.go' ⟨s,⟨im,pm,sa.ma hF fun _ _ _ h=>h⟩,hi,OO,hn3,hv3⟩ (hF.mono fun _ h=>h.elim)⟩
  have h1:ah bu e.1=some e.2:=eF TR.nd he
  rw[←Hr]at h1
  have h2:=cn _ (nO h1)
  rw[hY]at h2
  have h3:e∈(yQ kept).map (·.1):=B6 h2
  rw[uT]at h3
  obtain⟨x,hx,ZO⟩:=List.mem_map.1 h3
  exact⟨x,hx,ZO⟩
 obtain⟨⟨k,n⟩,oO⟩:=cB (l:=s.ls) (i:=i) (by have:=lG.lt i jU;rw[hJ]at this;simpa[jW]using this)
 have LF:es[i]?=some (k,T.int .u64 n):=by rw[hJ,jW,List.getElem?_map,oO];rfl
 have Cr:e=(T.str k,T.int .u64 n):=by
  rw[ba,List.getElem?_map,LF]at he;exact(Option.some.inj he).symm
 subst Cr
 obtain⟨H6,J7⟩:∃H6,H6=H5.set b.l (.cP (ba T.str es) (ix.erase i) H3.length (some i)):=⟨_,rfl⟩
 have m6:H6[b.l]?=some (.cP (ba T.str es) (ix.erase i) H3.length (some i)):=by rw[J7];exact bT lm
 have i6:H6[H3.length]?=some (.ua b.l):=by rw[J7,bh UT];exact hit
 have f6:bl (fun c=>c=b.l) H3 H6:=by rw[J7];exact al.set (.inl rfl) _
 have s6:=f6.get sa.hs ZN
 have v6:=f6.get sa.hv sa.vl
 have l60:=aW s6
 have l6v:=aW v6
 have l6l:=aW m6
 have l6i:=aW i6
 rw[←J7]
 have oN:∀z,iS (ah (dM s.vs) (k,n)) z true=.bN [iS (ah (dM s.vs) (k,n)) z false,.bool (ah s.vs (k,n)).isSome]:=fun z=>by
  unfold dM;rw[fI]
  cases ah s.vs (k,n)<;>rfl
 have hz:∃cs,cs.length=3∧iS (ah (dM s.vs) (k,n)) (.agg [.str ⟨#[]⟩,.sl .nil [],.int .i64 0]) false=.agg cs:=by
  unfold dM;rw[fI]
  cases ah s.vs (k,n)with
  | none=>exact⟨_,rfl,rfl⟩
  | some x=>exact⟨_,rfl,rfl⟩
 obtain⟨cs,ug,hlz⟩:=hz
 have lT:=fun Hx z ok=>kM uK z ok Hx (dM s.vs) (k,n)
 simp -implicitDefEqProofs only[kN,eN]at lT
 have ky:∀(X:B),(H6++[X]).set H6.length (.cells cs)=H6++[.cells cs]:=fun X=>uA rfl
 have dF:∀X:List T,X.length=3→oJ (H6++[.cells X]) H6.length cs 0 (some (.cells X))=some (H6++[.cells cs]):=fun X hX=>by
  rw[gW,if_pos (by omega)]
  have e1:X.take 0++cs++X.drop (0+cs.length)=cs:=by rw[List.drop_eq_nil_of_le (by omega)];simp
  rw[e1,ky]
 have BU:=dF [.str ⟨#[]⟩,.sl .nil [],.int .i64 0] rfl
 cases OP:(ah s.vs (k,n)).isSome
 ·rw[OP]at oN
  simp -implicitDefEqProofs only[aq,aj,op,ef,cl,sq,reduceIte,j4,j5,j6,j7,j8,j9,y1,y2,y3,S1,S2,i6,m6,he,s6,v6,lT,oN,hlz,ug,BU,List.length_set]
  refine .inr ⟨fun hl=>?_,rfl,?_⟩
  ·have h1:ah s.ls k=some n:=eF hi.yu (List.mem_of_getElem? oO)
   rw[Hr]at h1
   obtain⟨x,hx,ZO⟩:=hl.2.2.2 (k,n) (nO h1)
   have:(ah (yQ kept) (k,n)).isSome=true:=by rw[←mem_keys,uT];exact List.mem_map.2 ⟨x,hx,ZO⟩
   rw[←hY,OP]at this;cases this
  ·exact gC (((p3.ma.more f6 fun c hc=>by rw[hc];exact(p3.new _ sa.F0.2.2.2.2).1)).app _)
 ·rw[OP]at oN
  simp -implicitDefEqProofs only[aq,aj,op,ef,cl,sq,reduceIte,j4,j5,j6,j7,j8,j9,y1,y2,y3,S1,S2,i6,m6,he,s6,v6,lT,oN,hlz,ug,BU,List.length_set]
  refine⟨b0++[k],?_,.i ⟨_,_,lG.step fv jU LF,by rw[aV l6l];exact m6,by rw[aV l6i];exact i6,f6.app _,fun e KZ Jb=>?_⟩⟩
  ·have:=lG.len;have:=List.length_pos_of_mem jU;rw[List.length_append,List.length_singleton];omega
  ·rcases List.mem_append.1 Jb with Jb|Jb
   ·exact CC e KZ Jb
   ·simp -implicitDefEqProofs only[List.mem_singleton]at Jb
    have h1:=eF hi.yu KZ
    have h2:ah s.ls k=some n:=eF hi.yu (List.mem_of_getElem? oO)
    rw[Jb,h2]at h1
    have:e=(k,n):=Prod.ext Jb (Option.some.inj h1).symm
    rw[this,OP]
def AbT (a:Ab):Prop:=∀m h,a.v m=some h→h.bf=-1∨bm h.bf
def AbG (a:Ab):Prop:=∀m h,a.v m=some h→65536≤m.2∧fV h.keys∧m.1∈h.keys∧h.value.size≤65535
structure tP (a:Ab):Prop where
 S:HB a
 T:AbT a
 G:AbG a
 L:∀k n,a.l k=some n→a.has (k,n)=true
theorem tP.emp:tP Ab.emp:=⟨HB.emp,fun m h e=>(by cases e),fun m h e=>(by cases e),fun k n e=>(by cases e)⟩
theorem xp {a:Ab}{n:Nat}{l:List (ByteArray×ByteArray)}{ks:List ByteArray}{now:Int}{m:Nm}{x:Vd}(h:(a.put n l ks now).v m=some x):a.v m=some x∨(m.2=n∧∃v,(m.1,v)∈l∧x=⟨v,ks,if n<a.last m.1 then now else -1⟩):=by
 rw[Gk]at h
 cases h1:a.v m with
 | some y=>rw[h1]at h;exact .inl h
 | none =>
  rw[h1]at h
  simp -implicitDefEqProofs only[Option.none_or]at h
  split at h
  ·rename_i e
   cases h2:ah l m.1 with
   | none=>rw[h2]at h;cases h
   | some v=>rw[h2]at h;cases h;exact .inr ⟨e,v,nO h2,rfl⟩
  ·cases h
theorem rp {a:Ab}{n:Nat}{now:Int}{m:Nm}{x:Vd}(h:(a.n9 n now).v m=some x):∃y,a.v m=some y∧x.value=y.value∧x.keys=y.keys∧(x.bf=y.bf∨x.bf=now):=by
 simp -implicitDefEqProofs only[Ab.n9]at h
 cases h1:a.v m with
 | none=>rw[h1]at h;cases h
 | some y =>
  rw[h1]at h;simp -implicitDefEqProofs only[Option.map_some,Option.some.injEq]at h;subst h
  refine⟨y,rfl,?_⟩
  split
  ·exact⟨rfl,rfl,.inr rfl⟩
  ·exact⟨rfl,rfl,.inl rfl⟩
theorem Aq {n:Nat}{l:List (ByteArray×ByteArray)}{ks:List ByteArray}(h:lS n l ks){p:ByteArray×ByteArray}(hp:p∈l):p.1∈ks∧p.2.size≤65535:=by
 obtain⟨i,hi,e⟩:=List.getElem_of_mem hp
 exact(h.2.2.2 i hi p (by rw[List.getElem?_eq_getElem hi,e])).2
theorem tP.put {a:Ab}(h:tP a){n:Nat}{l:List (ByteArray×ByteArray)}{ks:List ByteArray}{now:Int}(hm:lS n l ks)(ht:bm now):tP (a.put n l ks now):=by
 refine⟨h.S.put ht.1,fun m x e=>?_,fun m x e=>?_,fun k n' e=>?_⟩
 ·rcases xp e with e|⟨_,v,_,rfl⟩
  ·exact h.T m x e
  ·simp only;split
   ·exact .inr ht
   ·exact .inl rfl
 ·rcases xp e with e|⟨rfl,v,hv,rfl⟩
  ·exact h.G m x e
  ·have:=Aq hm hv
   exact⟨hm.1,hm.2.1,this.1,this.2⟩
 ·rw[uS,h.L k n' e];rfl
theorem tP.n9 {a:Ab}(h:tP a){n:Nat}{now:Int}(ht:bm now):tP (a.n9 n now):=by
 refine⟨h.S.n9 ht.1,fun m x e=>?_,fun m x e=>?_,fun k n' e=>?_⟩
 ·obtain⟨y,hy,_,_,hs⟩:=rp e
  rcases hs with hs|hs
  ·rw[hs];exact h.T m y hy
  ·rw[hs];exact .inr ht
 ·obtain⟨y,hy,h1,h2,_⟩:=rp e
  rw[h1,h2];exact h.G m y hy
 ·rw[Ao]
  simp -implicitDefEqProofs only[Ab.n9]at e
  split at e
  ·rename_i hc;cases e;exact hc.1
  ·exact h.L k n' e
def Ab.yR (a:Ab)(m:Nm):Ab:=match a.v m with
 | some h=>if h.bf=-1 then a else a.cut m
 | none=>a
theorem tP.yR {a:Ab}(h:tP a)(m:Nm):tP (a.yR m):=by
 unfold Ab.yR
 split
 ·rename_i x hx
  split
  ·exact h
  ·rename_i hs
   have cs:∀m' y,(a.cut m).v m'=some y→a.v m'=some y:=fun m' y e=>by
    simp -implicitDefEqProofs only[Ab.cut]at e;split at e
    ·cases e
    ·exact e
   refine⟨fun m' y e=>h.S m' y (cs m' y e),fun m' y e=>h.T m' y (cs m' y e),fun m' y e=>h.G m' y (cs m' y e),fun k n e=>?_⟩
   have e:a.l k=some n:=e
   have h1:=h.L k n e
   simp -implicitDefEqProofs only[Ab.has,Ab.cut]
   rw[if_neg]
   ·exact h1
   ·intro e2
    have h3:=h.S m x hx
    refine hs (h3.2 ?_)
    rw[←e2];simp[Ab.last,e]
 ·exact h
def cS (a:Ab)(m:Nm):Kd:=⟨m.1,m.2,(g5 (a.v m)).value,.arg,(g5 (a.v m)).keys,(g5 (a.v m)).bf⟩
theorem Gn {a:Ab}{l:List Nm}(h:Names a l)(m:Nm):ah (yQ (l.map (cS a))) m=a.v m:=by
 have hk:yQ (l.map (cS a))=l.map fun m=>(m,g5 (a.v m)):=by
  rw[yQ,List.map_map];rfl
 rw[hk]
 have hn:((l.map fun m=>(m,g5 (a.v m))).map (·.1)).Nodup:=by simpa[Function.comp_def]using h.nd
 cases hv:a.v m with
 | none =>
  refine cw.2 fun hh=>?_
  simp -implicitDefEqProofs only[List.map_map,List.mem_map,Function.comp]at hh
  obtain⟨x,hx,rfl⟩:=hh
  have:=(h.2 x).1 hx
  simp[Ab.has,hv]at this
 | some x =>
  have hm:m∈l:=(h.2 m).2 (by simp[Ab.has,hv])
  have:=eF hn (p:=(m,g5 (a.v m))) (List.mem_map.2 ⟨m,hm,rfl⟩)
  rw[this,hv];rfl
theorem tQ {a:Ab}{l:List ByteArray}(h:dv a l)(k:ByteArray):ah (l.map (ik a)) k=a.l k:=by
 have fv:l.Nodup:=h.1.imp fun {x y} Gj e=>by rw[e,eX]at Gj;cases Gj
 have hn:((l.map (ik a)).map (·.1)).Nodup:=by
  have:(l.map (ik a)).map (·.1)=l:=by simp[ik,Function.comp_def]
  rw[this];exact fv
 cases hv:a.l k with
 | none =>
  refine cw.2 fun hh=>?_
  simp -implicitDefEqProofs only[List.map_map,List.mem_map,Function.comp,ik]at hh
  obtain⟨x,hx,rfl⟩:=hh
  have:=(h.2 x).1 hx
  rw[hv]at this;cases this
 | some n =>
  have hm:k∈l:=(h.2 k).2 (by rw[hv];rfl)
  have:=eF hn (p:=ik a k) (List.mem_map.2 ⟨k,hm,rfl⟩)
  have h2:ah (l.map (ik a)) k=some (a.last k):=this
  rw[h2];simp[Ab.last,hv]
theorem B8 {a:Ab}{l:List Nm}{ls:List ByteArray}(h:Names a l)(hl:dv a ls):ga (l.map (cS a)) (ls.map (ik a))=a:=gl (fun m=>Gn h m) fun k=>tQ hl k
theorem tP.load {a:Ab}(h:tP a){l:List Nm}{ls:List ByteArray}(hN:Names a l)(hL:dv a ls):mI (l.map (cS a)) (ls.map (ik a)):=by
 refine⟨List.pairwise_map.2 hL.1,List.pairwise_map.2 hN.1,fun x hx=>?_,fun e he=>?_⟩
 ·obtain⟨m,hm,rfl⟩:=List.mem_map.1 hx
  obtain⟨y,hy⟩:=Option.isSome_iff_exists.1 ((hN.2 m).1 hm)
  have gr:(ga [] (ls.map (ik a))).last m.1=a.last m.1:=by simp -implicitDefEqProofs only[Ab.last,ga,tQ hL]
  have ZP:g5 (a.v m)=y:=by rw[hy];rfl
  obtain⟨g1,g2,g3,g4⟩:=h.G m y hy
  have hS:=h.S m y hy
  have hT:=h.T m y hy
  have e1:(cS a m).id=m.2:=rfl
  have e2:(cS a m).key=m.1:=rfl
  have e3:(cS a m).keys=y.keys:=by simp -implicitDefEqProofs only[cS,ZP]
  have e4:(cS a m).value=y.value:=by simp -implicitDefEqProofs only[cS,ZP]
  have e5:(cS a m).bf=y.bf:=by simp -implicitDefEqProofs only[cS,ZP]
  unfold pD
  rw[e1,e2,e3,e4,e5,gr]
  refine⟨g1,g2,g3,g4,?_⟩
  split
  ·rename_i ax
   rcases hT with hT|hT
   ·exact absurd ax (hS.1 hT)
   ·exact hT
  ·rename_i ax;exact hS.2 ax
 ·obtain⟨k,hk,rfl⟩:=List.mem_map.1 he
  obtain⟨n,hn⟩:=Option.isSome_iff_exists.1 ((hL.2 k).1 hk)
  have hla:a.last k=n:=by simp[Ab.last,hn]
  have:=h.L k n hn
  refine⟨cS a (k,n),List.mem_map.2 ⟨(k,n),(hN.2 _).2 this,rfl⟩,?_⟩
  show(k,n)=(k,a.last k)
  rw[hla]
theorem TW {b:Bk}{a:Ab}{F:Nat→Prop}{m:Nat}(k:ByteArray)(n:Nat){H:af}(h:kd H b a F m)(hn:m≤7000000):W env (.call 25 [.ptr b.s 0,.str k,.int .u64 n]) H (fun o H'=>∃e,o=.val (.int .i64 e)∧kd H' b (a.yR (k,n)) F m∧bl F H H'):=by
 refine W.use (TJ k n h (by omega)) fun o H' hq=>?_
 rcases hq with⟨h1,hu,hx⟩|⟨x,h1,h2,hu,hx⟩|⟨x,h1,h2,hu,h',al⟩
 ·exact⟨_,hu,by simp -implicitDefEqProofs only[Ab.yR,h1];exact h.ext hx,aA hx⟩
 ·exact⟨_,hu,by simp -implicitDefEqProofs only[Ab.yR,h1,if_pos h2];exact h.ext hx,aA hx⟩
 ·exact⟨_,hu,by simp -implicitDefEqProofs only[Ab.yR,h1,if_neg h2];exact h',al⟩
end Go.Proofs.YtdcpehdijdllpaaGreat.St
end

section
namespace Go.Proofs.YtdcpehdijdllpaaGreat.St
open Go.Rmp Go.Proofs.YtdcpehdijdllpaaGreat.Ir
set_option maxRecDepth 10000
theorem Ar {b:Bk}{a:Ab}{F:Nat→Prop}{m:Nat}{H:af}(h:kd H b a F m)(hn:m≤8000000)(QA:∀k n,a.l k=some n→a.has (k,n)=true):W env (.call 20 [.ptr b.s 0]) H (fun o H'=>Ext H H'∧∃k l,gx k l∧dv a l∧l.length≤m∧o=.val (.sl k ((l.map (ik a)).map eW))):=by
 obtain⟨s,sh,hi,rfl,h4,h5⟩:=h
 have hl:s.ls.length≤s.vs.length:=by
  have fv:s.ls.Nodup:=by
   have:=hi.yu
   exact(List.pairwise_map.1 this).imp fun {a b} h e=>h (by rw[e])
  have:=Am (l:=s.ls) (l':=s.vs.map (·.1)) fv fun e he=>by
   have h1:=eF hi.yu he
   have h2:=QA e.1 e.2 h1
   rw[mem_keys]
   simpa[Ab.has,ea]using h2
  simpa using this
 refine W.use (Gf b s F H sh hi (by omega)) fun o H' ⟨hx,k,l,mF,hu,hp,JZ⟩=>⟨hx,k,l,mF,⟨JZ,fun x=>?_⟩,?_,?_⟩
 ·rw[hp.mem_iff,mem_keys];rfl
 ·rw[hp.length_eq,List.length_map];omega
 ·rw[hu,pq,List.map_map,List.map_map];rfl
end Go.Proofs.YtdcpehdijdllpaaGreat.St
end

section
namespace Go.Proofs.YtdcpehdijdllpaaGreat.St
open Go.Rmp Go.Proofs.YtdcpehdijdllpaaGreat.Ir
set_option maxRecDepth 10000
theorem HA.refl (G:Nat→Prop)(H H':af):HA G G H H':=fun _ h=>.inl h
end Go.Proofs.YtdcpehdijdllpaaGreat.St
end

section
namespace Go.Proofs.YtdcpehdijdllpaaGreat.St
open Go.Rmp Go.Proofs.YtdcpehdijdllpaaGreat.Ir
set_option maxRecDepth 10000
theorem TX {p:Nat}(n:Nat)(now:Int){H:af}(hm:¬(65536≤n∧bm now)):W env (.call 24 [.ptr p 0,.int .u64 n,.int .i64 now]) H (fun o H'=>o=.val (.bN [.int .i64 0,.int .i64 1])∧H'=H):=by
 refine W.bS rfl rfl rfl ?_
 by_cases hn:n<65536
 ·simp -implicitDefEqProofs only[EV,op,ef,cl,sq,reduceIte,j4,j5,j6,j7,j8,j9,y1,y2,y3,S1,hn]
 ·simp -implicitDefEqProofs only[EV,op,ef,cl,sq,reduceIte,j4,j5,j6,j7,j8,j9,y1,y2,y3,S1,hn]
  refine ae _ _ _ _ _ _ _ _ (qV now _) ?_
  rintro u H2⟨hu,rfl⟩
  cases hu
  have hf:(decide (0≤now)&&decide (now≤1099511627776))=false:=by
   rw[Bool.and_eq_false_iff,decide_eq_false_iff_not,decide_eq_false_iff_not]
   have:¬bm now:=fun h=>hm ⟨by omega,h⟩
   unfold bm at this;omega
  simp -implicitDefEqProofs only[op,ef,cl,sq,reduceIte,j4,j5,j6,j7,j8,j9,y1,y2,y3,S1,hf]
end Go.Proofs.YtdcpehdijdllpaaGreat.St
end

section
namespace Go.Proofs.YtdcpehdijdllpaaGreat.St
open Go.Rmp
def mU (a:Nat)(l:List Nat):Nat:=l.foldl (fun v c=>v*256+c) a
def dh:Nat→Nat→List Nat
 | 0,_=>[]
 | k+1,v=>v/256^k%256 :: dh k v
def dt (l:List Nat):Prop:=∀x∈l,x<256
theorem dt.app {l m:List Nat}(h:dt l)(h':dt m):dt (l++m):=fun x hx=>(List.mem_append.1 hx).elim (h x) (h' x)
theorem dt.take {l:List Nat}(h:dt l)(n:Nat):dt (l.take n):=fun x hx=>h x (List.mem_of_mem_take hx)
theorem dt.drop {l:List Nat}(h:dt l)(n:Nat):dt (l.drop n):=fun x hx=>h x (List.mem_of_mem_drop hx)
theorem bg:∀k v,(dh k v).length=k
 | 0,_=>rfl
 | k+1,v=>by simp[dh,bg k v]
theorem eH:∀k v,dt (dh k v)
 | 0,_=>fun x hx=>by cases hx
 | k+1,v=>fun x hx=>by
  rcases List.mem_cons.1 hx with rfl|h
  ·exact Nat.mod_lt _ (by decide)
  ·exact eH k v x h
theorem yS:∀k a v,mU a (dh k v)=a*256^k+v%256^k
 | 0,a,v=>by simp[mU,dh,Nat.mod_one]
 | k+1,a,v=>by
  show mU (a*256+v/256^k%256) (dh k v)=_
  rw[yS k]
  have h1:v%256^(k+1)=v%256^k+256^k*(v/256^k%256):=Nat.mod_mul
  rw[h1,Nat.pow_succ,Nat.add_mul,Nat.mul_comm (256^k) (v/256^k%256),Nat.mul_assoc a,Nat.mul_comm 256 (256^k)]
  omega
theorem uU:∀(l:List Nat) (a:Nat),dt l→mU a l<(a+1)*256^l.length
 | [],a,_=>by simp[mU]
 | c :: l,a,h=>by
  have hc:=h c (by simp)
  have:=uU l (a*256+c) fun x hx=>h x (List.mem_cons_of_mem _ hx)
  show mU (a*256+c) l<_
  refine Nat.lt_of_lt_of_le this ?_
  rw[List.length_cons,Nat.pow_succ,Nat.mul_comm (256^l.length) 256,←Nat.mul_assoc]
  exact Nat.mul_le_mul_right _ (by omega)
theorem rq (a c:Nat)(l:List Nat):mU a (c :: l)=mU (a*256+c) l:=rfl
theorem yT:∀(l:List Nat) (a:Nat),mU a l=a*256^l.length+mU 0 l
 | [],a=>by simp[mU]
 | c :: l,a=>by
  rw[rq,rq,yT l (a*256+c),yT l (0*256+c),List.length_cons,Nat.pow_succ,Nat.add_mul,Nat.zero_mul,Nat.zero_add,Nat.mul_assoc,Nat.mul_comm 256]
  omega
theorem Gp:∀(l:List Nat),dt l→dh l.length (mU 0 l)=l
 | [],_=>rfl
 | c :: l,h=>by
  have hc:=h c (by simp)
  have hl:dt l:=fun x hx=>h x (List.mem_cons_of_mem _ hx)
  have h1:mU 0 (c :: l)=c*256^l.length+mU 0 l:=by rw[rq,yT];simp
  have h2:mU 0 l<256^l.length:=by have:=uU l 0 hl;simpa using this
  have h3:0<256^l.length:=Nat.pow_pos (by decide)
  rw[h1]
  show(c*256^l.length+mU 0 l)/256^l.length%256 :: dh l.length (c*256^l.length+mU 0 l)=_
  have e1:(c*256^l.length+mU 0 l)/256^l.length=c:=by
   rw[Nat.mul_comm,Nat.mul_add_div h3,Nat.div_eq_of_lt h2];rfl
  have e2:∀k v w m,k≤m→dh k (w*256^m+v)=dh k v:=by
   intro k
   induction k with
   | zero=>intros;rfl
   | succ k ih =>
    intro v w m hm
    have hp:0<256^k:=Nat.pow_pos (by decide)
    obtain⟨d,rfl⟩:∃d,m=k+1+d:=⟨m-(k+1),by omega⟩
    have e:w*256^(k+1+d)=256^k*(256*(w*256^d)):=by
     rw[Nat.pow_add,Nat.pow_succ]
     rw[Nat.mul_comm w,Nat.mul_assoc,Nat.mul_assoc,Nat.mul_comm (256^d) w]
    show(w*256^(k+1+d)+v)/256^k%256 :: dh k (w*256^(k+1+d)+v)=v/256^k%256 :: dh k v
    rw[ih v w _ (by omega),e,Nat.mul_add_div hp,Nat.mul_add_mod]
  rw[e1,e2 _ _ _ _ (Nat.le_refl _),Gp l hl,Nat.mod_eq_of_lt hc]
def tL (s:ByteArray):List Nat:=s.data.toList.map UInt8.toNat
def xq (l:List Nat):ByteArray:=⟨(l.map UInt8.ofNat).toArray⟩
theorem ru (s:ByteArray):(tL s).length=s.size:=by simp[tL]
theorem OQ (s:ByteArray):dt (tL s):=fun x hx=>by
 obtain⟨c,_,rfl⟩:=List.mem_map.1 hx
 exact UInt8.toNat_lt c
theorem TY (s:ByteArray):xq (tL s)=s:=by
 obtain⟨⟨l⟩⟩:=s
 unfold xq tL
 congr 2
 simp -implicitDefEqProofs only[List.map_map]
 refine(List.map_congr_left fun c _=>?_).trans (List.map_id _)
 simp
theorem Gq {l:List Nat}(h:dt l):tL (xq l)=l:=by
 unfold xq tL
 simp -implicitDefEqProofs only[List.map_map]
 refine(List.map_congr_left fun c hc=>?_).trans (List.map_id _)
 have:=h c hc
 simp[Function.comp,UInt8.toNat_ofNat',Nat.mod_eq_of_lt this]
theorem Gr (l:List Nat):(xq l).size=l.length:=by
 show(l.map UInt8.ofNat).toArray.size=_
 simp
def pN (k:Nat)(l:List Nat):Option (Nat×List Nat):=if l.length<k then none else some (mU 0 (l.take k),l.drop k)
def pT (m:Nat)(l:List Nat):Option (ByteArray×List Nat):=match pN 4 l with
 | none=>none
 | some (n,r)=>if m<n then none else if r.length<n then none else some (xq (r.take n),r.drop n)
def pM {α:Type}(p:List Nat→Option (α×List Nat))(l:List Nat):Nat→Option (List α×List Nat)
 | 0=>some ([],l)
 | n+1=>match pM p l n with
  | none=>none
  | some (xs,r)=>match p r with
   | none=>none
   | some (x,r')=>some (xs++[x],r')
theorem As {α : Type}{p : List Nat → Option (α×List Nat)}{l : List Nat}{i n : Nat}(h : pM p l i = none)(hi : i ≤ n) : pM p l n = none := by
  induction n with
  | zero => obtain rfl : i = 0 := by omega
            exact h
  | succ n ih =>
    by_cases e : i = n + 1
    · rw[←e]; exact h
    · have := ih (by omega)
      simp -implicitDefEqProofs only[pM, this]
theorem iJ {α:Type}{p:List Nat→Option (α×List Nat)}{l r:List Nat}{n:Nat}{xs:List α}(h:pM p l n=some (xs,r)):pM p l (n+1)=match p r with
  | none=>none
  | some (x,r')=>some (xs++[x],r'):=by simp -implicitDefEqProofs only[pM,h]
theorem uV {α:Type}{p:List Nat→Option (α×List Nat)}{l r:List Nat}:∀{n:Nat} {xs:List α},pM p l n=some (xs,r)→xs.length=n
 | 0,xs,h=>by simp -implicitDefEqProofs only[pM,Option.some.injEq,Prod.mk.injEq]at h;rw[←h.1];rfl
 | n+1,xs,h=>by
  cases h1:pM p l n with
  | none=>simp -implicitDefEqProofs only[pM,h1]at h;cases h
  | some y =>
   obtain⟨ys,r1⟩:=y
   rw[iJ h1]at h
   cases h2:p r1 with
   | none=>rw[h2]at h;cases h
   | some z =>
    obtain⟨z,r2⟩:=z
    rw[h2]at h
    simp -implicitDefEqProofs only[Option.some.injEq,Prod.mk.injEq]at h
    rw[←h.1,List.length_append,uV h1];rfl
def eT (s:ByteArray):List Nat:=dh 4 s.size++tL s
theorem uW (s:ByteArray):dt (eT s):=(eH _ _).app (OQ s)
theorem g7 (s:ByteArray):(eT s).length=4+s.size:=by simp[eT,bg,ru]
theorem yU {k v:Nat}(r:List Nat)(h:v<256^k):pN k (dh k v++r)=some (v,r):=by
 unfold pN
 rw[if_neg (by simp[bg]),List.take_left' (bg k v),List.drop_left' (bg k v),yS,Nat.mod_eq_of_lt h]
 simp
theorem iV {k v:Nat}{l r:List Nat}(hb:dt l)(h:pN k l=some (v,r)):l=dh k v++r∧v<256^k∧dt r:=by
 unfold pN at h
 split at h
 ·cases h
 ·rename_i hl
  simp -implicitDefEqProofs only[Option.some.injEq,Prod.mk.injEq]at h
  obtain⟨rfl,rfl⟩:=h
  have hk:(l.take k).length=k:=by rw[List.length_take];omega
  have e:=Gp (l.take k) (hb.take k)
  rw[hk]at e
  refine⟨by rw[e,List.take_append_drop],?_,hb.drop k⟩
  have:=uU (l.take k) 0 (hb.take k)
  rw[hk]at this;simpa using this
theorem J8 {m:Nat}{s:ByteArray}(r:List Nat)(h:s.size≤m)(h4:s.size<4294967296):pT m (eT s++r)=some (s,r):=by
 unfold pT eT
 rw[List.append_assoc,yU _ h4]
 simp only
 rw[if_neg (by omega),if_neg (by simp[ru]),List.take_left' (ru s),List.drop_left' (ru s),TY]
theorem uX {m:Nat}{s:ByteArray}{l r:List Nat}(hb:dt l)(h:pT m l=some (s,r)):l=eT s++r∧s.size≤m∧s.size<4294967296∧dt r:=by
 unfold pT at h
 cases h1:pN 4 l with
 | none=>rw[h1]at h;cases h
 | some x =>
  obtain⟨n,r1⟩:=x
  rw[h1]at h
  simp only at h
  obtain⟨e1,e2,e3⟩:=iV hb h1
  split at h
  ·cases h
  ·split at h
   ·cases h
   ·rename_i h2 h3
    simp -implicitDefEqProofs only[Option.some.injEq,Prod.mk.injEq]at h
    obtain⟨rfl,rfl⟩:=h
    have hs:(xq (r1.take n)).size=n:=by rw[Gr,List.length_take];omega
    refine⟨?_,by rw[hs];omega,by rw[hs];exact e2,e3.drop n⟩
    unfold eT
    rw[hs,Gq (e3.take n),List.append_assoc,List.take_append_drop]
    exact e1
theorem TZ {α:Type}{p:List Nat→Option (α×List Nat)}{e:α→List Nat}(r:List Nat):∀(n:Nat) (xs:List α) (l:List Nat),(∀x∈xs,∀r,p (e x++r)=some (x,r))→n≤xs.length→l=xs.flatMap e++r→pM p l n=some (xs.take n,(xs.drop n).flatMap e++r)
 | 0,xs,l,_,_,hl=>by simp[pM,hl]
 | n+1,xs,l,hx,hn,hl=>by
  rw[iJ (TZ r n xs l hx (by omega) hl)]
  have ax:n<xs.length:=by omega
  rw[List.drop_eq_getElem_cons ax,List.flatMap_cons,List.append_assoc,hx _ (List.getElem_mem ax)]
  simp -implicitDefEqProofs only[Option.some.injEq,Prod.mk.injEq,and_true]
  rw[List.take_succ_eq_append_getElem ax]
theorem Gs {α:Type}{p:List Nat→Option (α×List Nat)}{e:α→List Nat}(xs:List α)(r:List Nat)(hx:∀x∈xs,∀r,p (e x++r)=some (x,r)):pM p (xs.flatMap e++r) xs.length=some (xs,r):=by
 have:=TZ r xs.length xs _ hx (Nat.le_refl _) rfl
 simpa using this
theorem yV {α:Type}{p:List Nat→Option (α×List Nat)}{e:α→List Nat}{Q:α→Prop}{l:List Nat}(hb:dt l)(hp:∀l x r,dt l→p l=some (x,r)→l=e x++r∧Q x∧dt r):∀{n:Nat} {xs:List α} {r:List Nat},pM p l n=some (xs,r)→l=xs.flatMap e++r∧(∀x∈xs,Q x)∧dt r
 | 0,xs,r,h=>by
  simp -implicitDefEqProofs only[pM,Option.some.injEq,Prod.mk.injEq]at h
  obtain⟨rfl,rfl⟩:=h
  exact⟨rfl,(fun x hx=>by simp at hx),hb⟩
 | n+1,xs,r,h=>by
  cases h1:pM p l n with
  | none=>simp -implicitDefEqProofs only[pM,h1]at h;cases h
  | some y =>
   obtain⟨ys,r1⟩:=y
   obtain⟨i1,i2,i3⟩:=yV hb hp h1
   rw[iJ h1]at h
   cases h2:p r1 with
   | none=>rw[h2]at h;cases h
   | some z =>
    obtain⟨z,r2⟩:=z
    rw[h2]at h
    simp -implicitDefEqProofs only[Option.some.injEq,Prod.mk.injEq]at h
    obtain⟨rfl,rfl⟩:=h
    obtain⟨j1,j2,j3⟩:=hp _ _ _ i3 h2
    refine⟨by rw[List.flatMap_append,List.append_assoc];simp -implicitDefEqProofs only[List.flatMap_cons,List.flatMap_nil,List.append_nil];rw[←j1];exact i1,fun x hx=>?_,j3⟩
    rcases List.mem_append.1 hx with hx|hx
    ·exact i2 x hx
    ·simp at hx;subst hx;exact j2
def J9:Nat:=3988292384
def rv (w:Nat):Nat:=w/2 ^^^ (if w%2=1 then J9 else 0)
def cO:Nat→Nat→Nat
 | 0,w=>w
 | n+1,w=>cO n (rv w)
theorem kW (n m w:Nat):cO (n+m) w=cO m (cO n w):=by
 induction n generalizing w with
 | zero=>simp[cO]
 | succ n ih=>rw[Nat.succ_add];exact ih _
theorem Gt {w:Nat}(h:w<4294967296):rv w<4294967296:=by
 unfold rv
 refine Nat.xor_lt_two_pow (n:=32) (by omega) ?_
 split
 ·decide
 ·decide
theorem lK:∀n {w:Nat},w<4294967296→cO n w<4294967296
 | 0,_,h=>h
 | n+1,_,h=>lK n (Gt h)
theorem Gu (a b:Nat):(a ^^^ b)/2=a/2 ^^^ b/2:=by
 have:=Nat.shiftRight_xor_distrib (a:=a) (b:=b) (i:=1)
 simpa[Nat.shiftRight_succ]using this
theorem Ka (a b:Nat):(a ^^^ b)%2=(a%2+b%2)%2:=by
 have h1:(a ^^^ b).testBit 0=(a.testBit 0 ^^ b.testBit 0):=Nat.testBit_xor ..
 simp -implicitDefEqProofs only[Nat.testBit_zero]at h1
 have ha:=Nat.mod_two_eq_zero_or_one a
 have hb:=Nat.mod_two_eq_zero_or_one b
 have hc:=Nat.mod_two_eq_zero_or_one (a ^^^ b)
 rcases ha with ha|ha<;>rcases hb with hb|hb<;>rcases hc with hc|hc<;>simp_all
theorem Kb (a b:Nat):rv (a ^^^ b)=rv a ^^^ rv b:=by
 unfold rv
 rw[Gu,Ka]
 have ha:=Nat.mod_two_eq_zero_or_one a
 have hb:=Nat.mod_two_eq_zero_or_one b
 rcases ha with ha|ha<;>rcases hb with hb|hb<;>simp[ha,hb]
 ·rw[Nat.xor_assoc]
 ·rw[Nat.xor_assoc,Nat.xor_assoc,Nat.xor_comm J9]
 ·rw[Nat.xor_assoc,Nat.xor_comm J9,Nat.xor_assoc,Nat.xor_self,Nat.xor_zero]
theorem nP:∀n a b,cO n (a ^^^ b)=cO n a ^^^ cO n b
 | 0,_,_=>rfl
 | n+1,a,b=>by
  show cO n (rv (a ^^^ b))=_
  rw[Kb,nP n];rfl
theorem kX (x:Nat):rv (2*x)=x:=by unfold rv;simp
theorem yW (q:Nat):cO 4 (16*q)=q:=by
 have e:16*q=2*(2*(2*(2*q))):=by omega
 rw[e]
 show rv (rv (rv (rv (2*(2*(2*(2*q)))))))=q
 rw[kX,kX,kX,kX]
theorem Kc (w:Nat):w=16*(w/16) ^^^ w%16:=by
 refine Nat.eq_of_testBit_eq fun i=>?_
 have e1:16*(w/16)=2^4*(w/2^4):=rfl
 have e2:w%16=w%2^4:=rfl
 rw[Nat.testBit_xor,e1,e2,Nat.testBit_two_pow_mul,Nat.testBit_mod_two_pow,Nat.testBit_div_two_pow]
 by_cases h:4≤i
 ·have:i-4+4=i:=by omega
  have h':¬i<4:=by omega
  simp[h,h',this]
 ·have h':i<4:=by omega
  simp[h,h']
theorem B9 (w:Nat):cO 4 w=w/16 ^^^ cO 4 (w%16):=by
 have h:=Kc w
 have e:cO 4 w=cO 4 (16*(w/16) ^^^ w%16):=by rw[←h]
 rw[e,nP,yW]
def yX (w c:Nat):Nat:=cO 8 (w ^^^ c)
def mJ (w:Nat)(l:List Nat):Nat:=l.foldl yX w
def gb (l:List Nat):Nat:=4294967295-mJ 4294967295 l
theorem Ke {w c:Nat}(h:w<4294967296)(hc:c<256):yX w c<4294967296:=lK 8 (Nat.xor_lt_two_pow (n:=32) h (by omega))
theorem nQ:∀(l:List Nat) {w:Nat},w<4294967296→dt l→mJ w l<4294967296
 | [],_,h,_=>h
 | c :: l,w,h,hb=>nQ l (Ke h (hb c (by simp))) fun x hx=>hb x (List.mem_cons_of_mem _ hx)
theorem Ca (w:Nat)(l:List Nat)(c:Nat):mJ w (l++[c])=yX (mJ w l) c:=by simp[mJ]
theorem Kf (l:List Nat):gb l<4294967296:=by unfold gb;omega
end Go.Proofs.YtdcpehdijdllpaaGreat.St
end

section
namespace Go.Proofs.YtdcpehdijdllpaaGreat.St
open Go.Rmp Go.Proofs.YtdcpehdijdllpaaGreat.Ir
set_option maxRecDepth 10000
theorem wrap32 {n:Nat}(h:n<4294967296):IntKind.u32.wrap (n:Int)=(n:Int):=by
 unfold IntKind.wrap
 simp -implicitDefEqProofs only[IntKind.signed,IntKind.bits]
 simp
 omega
theorem fN {n:Nat}(h:n<18446744073709551616):IntKind.u64.wrap (n:Int)=(n:Int):=uz (by omega)
theorem ry (n:Nat):IntKind.u8.wrap (n:Int)=((n%256:Nat):Int):=by
 unfold IntKind.wrap
 simp -implicitDefEqProofs only[IntKind.signed,IntKind.bits]
 simp
theorem T0 (n m:Nat):(n:Int).fdiv (2^m)=((n/2^m:Nat):Int):=by
 rw[Int.fdiv_eq_ediv_of_nonneg _ (Int.le_of_lt (Int.pow_pos (by decide)))]
 simp
theorem LL (w a b:Nat)(ha:a<2^w)(hb:b<2^w):(BitVec.ofInt w (a:Int) &&& BitVec.ofInt w (b:Int)).toNat=a &&& b:=by
 simp[Nat.mod_eq_of_lt ha,Nat.mod_eq_of_lt hb]
theorem T1 (w a b:Nat)(ha:a<2^w)(hb:b<2^w):(BitVec.ofInt w (a:Int) ||| BitVec.ofInt w (b:Int)).toNat=a ||| b:=by
 simp[Nat.mod_eq_of_lt ha,Nat.mod_eq_of_lt hb]
theorem Gv (w a b:Nat)(ha:a<2^w)(hb:b<2^w):(BitVec.ofInt w (a:Int) ^^^ BitVec.ofInt w (b:Int)).toNat=a ^^^ b:=by
 simp[Nat.mod_eq_of_lt ha,Nat.mod_eq_of_lt hb]
theorem Au {a b:Nat}(ha:a<4294967296)(hb:b<4294967296):IntKind.u32.wrap ((BitVec.ofInt IntKind.u32.bits (a:Int) ^^^ BitVec.ofInt IntKind.u32.bits (b:Int)).toNat:Nat)=((a ^^^ b:Nat):Int):=by
 have e:(BitVec.ofInt IntKind.u32.bits (a:Int) ^^^ BitVec.ofInt IntKind.u32.bits (b:Int)).toNat=a ^^^ b:=Gv 32 a b ha hb
 rw[e,wrap32 (Nat.xor_lt_two_pow (n:=32) ha hb)]
theorem LM {a:Nat}(ha:a<4294967296):IntKind.u32.wrap ((BitVec.ofInt IntKind.u32.bits (a:Int) &&& BitVec.ofInt IntKind.u32.bits 1).toNat:Nat)=((a%2:Nat):Int):=by
 have e:(BitVec.ofInt IntKind.u32.bits (a:Int) &&& BitVec.ofInt IntKind.u32.bits 1).toNat=a &&& 1:=LL 32 a 1 ha (by decide)
 rw[e,Nat.and_one_is_mod,wrap32 (by omega)]
theorem Gw {a:Nat}(ha:a<4294967296):IntKind.u32.wrap ((BitVec.ofInt IntKind.u32.bits (a:Int) &&& BitVec.ofInt IntKind.u32.bits 15).toNat:Nat)=((a%16:Nat):Int):=by
 have e:(BitVec.ofInt IntKind.u32.bits (a:Int) &&& BitVec.ofInt IntKind.u32.bits 15).toNat=a &&& 15:=LL 32 a 15 ha (by decide)
 have e2:a &&& 15=a%16:=Nat.and_two_pow_sub_one_eq_mod a 4
 rw[e,e2,wrap32 (by omega)]
theorem T2 (a:Nat):(a:Int).fdiv (2^(min (1:Int).toNat IntKind.u32.bits))=((a/2:Nat):Int):=T0 a 1
theorem LN (a:Nat):(a:Int).fdiv (2^(min (4:Int).toNat IntKind.u32.bits))=((a/16:Nat):Int):=T0 a 4
theorem LO {a:Nat}(ha:a<4294967296):IntKind.u32.wrap ((BitVec.ofInt IntKind.u32.bits (if IntKind.u32.signed then -1 else IntKind.u32.max) ^^^ BitVec.ofInt IntKind.u32.bits (a:Int)).toNat:Nat)=((4294967295-a:Nat):Int):=by
 have e:(BitVec.ofInt IntKind.u32.bits (if IntKind.u32.signed then -1 else IntKind.u32.max) ^^^ BitVec.ofInt IntKind.u32.bits (a:Int)).toNat=4294967295 ^^^ a:=Gv 32 4294967295 a (by decide) ha
 have e2:(4294967295 ^^^ a:Nat)=4294967295-a:=by
  have:=BitVec.toNat_not (x:=BitVec.ofNat 32 a)
  have h3 : ~~~ (BitVec.ofNat 32 a)=BitVec.allOnes 32 ^^^ BitVec.ofNat 32 a:=by rw[BitVec.allOnes_xor]
  rw[h3,BitVec.toNat_xor,BitVec.toNat_allOnes,BitVec.toNat_ofNat,Nat.mod_eq_of_lt ha]at this
  exact this
 rw[e,e2,wrap32 (by omega)]
theorem Kg (w:Nat)(hw:w<4294967296)(H:af):W env (.call 113 [.int .u32 w]) H (py (.int .u32 (rv w)) H):=by
 have h1:=LM hw
 have h2:=T2 w
 have h3:IntKind.u32.wrap ((BitVec.ofInt IntKind.u32.bits ((w/2:Nat):Int) ^^^ BitVec.ofInt IntKind.u32.bits 3988292384).toNat:Nat)=((w/2 ^^^ 3988292384:Nat):Int):=Au (a:=w/2) (b:=3988292384) (by omega) (by decide)
 have e1:(((w%2:Nat):Int)==1)=decide (w%2=1):=by
  rcases Nat.mod_two_eq_zero_or_one w with h|h<;>rw[h]<;>rfl
 refine W.bS rfl rfl rfl ?_
 by_cases ho:w%2=1
 ·have e:rv w=w/2 ^^^ 3988292384:=by unfold rv;rw[if_pos ho];rfl
  simp -implicitDefEqProofs only[zZ,op,ef,cl,sq,reduceIte,j4,j5,j6,j7,j8,j9,y1,y2,y3,S1,h1,h2,h3,e1,ho,e]
 ·have e:rv w=w/2:=by unfold rv;rw[if_neg ho];simp
  simp -implicitDefEqProofs only[zZ,op,ef,cl,sq,reduceIte,j4,j5,j6,j7,j8,j9,y1,y2,y3,S1,h1,h2,h3,e1,ho,e]
theorem Cb (k w:Nat):cO (k+1) w=rv (cO k w):=by rw[kW];rfl
def eb (i:Nat):List T:=(List.range 16).map fun j=>T.int .u32 (if j<i then cO 4 j else 0:Nat)
theorem nR (i:Nat):(eb i).length=16:=rfl
theorem Gx {i:Nat}(h:i<16):(eb i).set i (.int .u32 (cO 4 i))=eb (i+1):=by
 refine List.ext_getElem? fun j=>?_
 rw[List.getElem?_set,nR]
 unfold eb
 rw[List.getElem?_map,List.getElem?_map]
 by_cases e:i=j
 ·subst e
  rw[if_pos rfl,if_pos h]
  simp[h]
 ·rw[if_neg e]
  by_cases hj:j<16
  ·simp -implicitDefEqProofs only[List.getElem?_range hj,Option.map_some]
   by_cases h1:j<i
   ·have:j<i+1:=by omega
    simp[h1,this]
   ·have:¬j<i+1:=by omega
    simp[h1,this]
  ·simp[hj]
theorem Gy (H:af):W env (.call 83 []) H (fun o H'=>Ext H H'∧o=.val (.agg (eb 16))):=by
 refine W.bS rfl rfl rfl ?_
 obtain⟨H1,vB⟩:∃H1,H1=H++[B.cells (eb 0)]:=⟨_,rfl⟩
 obtain⟨H2,LP⟩:∃H2,H2=H1++[B.cells (eb 0)]:=⟨_,rfl⟩
 have z:[T.int .u32 0,T.int .u32 0,T.int .u32 0,T.int .u32 0,T.int .u32 0,T.int .u32 0,T.int .u32 0,T.int .u32 0,T.int .u32 0,T.int .u32 0,T.int .u32 0,T.int .u32 0,T.int .u32 0,T.int .u32 0,T.int .u32 0,T.int .u32 0]=eb 0:=rfl
 simp -implicitDefEqProofs only[NW,op,ef,cl,sq,reduceIte,j4,j5,j6,j7,j8,j9,y1,y2,y3,S1,S2]
 rw[z,←vB,←LP]
 have l1:H1.length=H.length+1:=by rw[vB];simp
 refine W.gu 0 [(0,_),(1,_)] (fun (i:Nat) R H'=>At H' (fun H'=>∃c0,H'[H.length]?=some (.cells c0)∧c0.length=16∧H'[H1.length]?=some (.cells (eb i))∧Ext H H')∧R 4=.int .i64 i∧i≤16) (fun i=>16-i) 0
  (fun R H'=>At H' (fun H'=>∃c0,H'[H.length]?=some (.cells c0)∧c0.length=16∧H'[H1.length]?=some (.cells (eb 16))∧Ext H H')) ⟨.i ⟨eb 0,by rw[LP,vB];rw[List.append_assoc];exact aX rfl,rfl,by rw[LP];exact aX rfl,by rw[LP,vB];exact(Ext.rfl'.app _).app _⟩,rfl,Nat.zero_le _⟩ ?_ ?_
 ·rintro i R H3⟨⟨c0,d0,dl,d1,hx⟩,g4,hi⟩
  by_cases ax:i<16
  rotate_left
  ·have nk:i=16:=by omega
   subst nk
   have e:decide (((16:Nat):Int)<16)=false:=by decide
   simp -implicitDefEqProofs only[aq,aj,op,ef,cl,sq,reduceIte,j4,j5,j6,j7,j8,j9,y1,y2,y3,S1,g4,e,dr]
   exact .i ⟨c0,d0,dl,d1,hx⟩
  have e:decide ((i:Int)<16)=true:=by simp;omega
  have wc:=wrap32 (n:=i) (by omega)
  simp -implicitDefEqProofs only[aq,aj,op,ef,cl,sq,reduceIte,j4,j5,j6,j7,j8,j9,y1,y2,y3,S1,g4,e,wc]
  refine W.gu 2 [(0,_),(1,_),(2,_),(4,_)] (fun (k:Nat) R H'=>H'=H3∧R 3=.int .u32 (cO k i:Nat)∧R 9=.int .i64 k∧k≤4) (fun k=>4-k) 0
   (fun R H'=>H'=H3∧R 3=.int .u32 (cO 4 i:Nat)) ⟨rfl,rfl,rfl,Nat.zero_le _⟩ ?_ ?_
  ·rintro k R H4⟨rfl,g3,g9,hk⟩
   by_cases lT:k<4
   rotate_left
   ·have KR:k=4:=by omega
    subst KR
    have e:decide (((4:Nat):Int)<4)=false:=by decide
    simp -implicitDefEqProofs only[aq,aj,op,ef,cl,sq,reduceIte,j4,j5,j6,j7,j8,j9,y1,y2,y3,S1,g3,g9,e,dr]
   have e:decide ((k:Int)<4)=true:=by simp;omega
   have wk:=aU (show k<9223372036854775807 by omega)
   simp -implicitDefEqProofs only[aq,aj,op,ef,cl,sq,reduceIte,j4,j5,j6,j7,j8,j9,y1,y2,y3,S1,g3,g9,e]
   refine ae _ _ _ _ _ _ _ _ (Kg (cO k i) (lK k (by omega)) _) ?_
   rintro u H5⟨hu,rfl⟩
   cases hu
   simp -implicitDefEqProofs only[op,ef,cl,sq,reduceIte,j4,j5,j6,j7,j8,j9,y1,y2,y3,S1,g9,wk]
   exact⟨k+1,by omega,by rw[Cb],rfl,lT⟩
  rintro R H4⟨rfl,g3⟩
  have wi:=aU (show i<9223372036854775807 by omega)
  have Sx:=aW d1
  have dF:oJ H4 H1.length [.int .u32 (cO 4 i:Nat)] (i*1) (some (.cells (eb i)))=some (H4.set H1.length (.cells (eb (i+1)))):=by
   have e:(eb i).set i (.int .u32 (cO 4 i))=(eb i).take i++.int .u32 (cO 4 i) :: (eb i).drop (i+1):=by rw[List.set_eq_take_append_cons_drop,if_pos (by rw[nR];exact ax)]
   rw[←Gx ax,e,Nat.mul_one,gW,if_pos (by rw[nR];simp;omega)]
   simp
  have jf:H1.length≠H.length:=by omega
  simp -implicitDefEqProofs only[aq,aj,op,ef,cl,sq,reduceIte,j4,j5,j6,j7,j8,j9,y1,y2,y3,S1,g3,g4,aa,ax,d1,wi,dF]
  exact⟨i+1,by omega,.i ⟨c0,by rw[bh jf];exact d0,dl,bT Sx,hx.set (by omega) _⟩,rfl,ax⟩
 rintro R H3⟨c0,d0,dl,d1,hx⟩
 have t1:(eb 16).length=16:=rfl
 have t2:List.take 16 (eb 16)=eb 16:=rfl
 have l0:=aW d0
 have t3:oJ H3 H.length (eb 16) 0 (some (.cells c0))=some (H3.set H.length (.cells (eb 16))):=by
  rw[gW,if_pos (by rw[t1,dl];decide),List.take_zero,List.nil_append,List.drop_of_length_le (by rw[t1,dl];decide),List.append_nil]
 have t4:(H3.set H.length (.cells (eb 16)))[H.length]?=some (.cells (eb 16)):=bT l0
 have t5:qP 16 0 (some (.cells (eb 16)))=some (eb 16):=rfl
 simp -implicitDefEqProofs only[aq,aj,op,ef,cl,sq,reduceIte,j4,j5,j6,j7,j8,j9,y1,y2,y3,S1,d1,d0,t1,t2,t3,t4,t5,l0]
 exact hx.set (Nat.le_refl _) _
theorem drop_cons {α:Type}{l:List α}{i:Nat}{x:α}(h:l[i]?=some x):l.drop i=x :: l.drop (i+1):=by
 obtain⟨hi,he⟩:=List.getElem?_eq_some_iff.1 h
 rw[List.drop_eq_getElem_cons hi,he]
theorem fJ {α:Type}{l:List α}{i:Nat}{x:α}(hx:l[i]?=some x):l.take (i+1)=l.take i++[x]:=by rw[List.take_add_one,hx];rfl
theorem Av {i:Nat}(h:i<16):qP 1 (i*1) (some (.cells (eb 16)))=some [.int .u32 (cO 4 i:Nat)]:=by
 have hg:(eb 16)[i]?=some (.int .u32 (cO 4 i:Nat)):=by
  unfold eb
  rw[List.getElem?_map,List.getElem?_range h,Option.map_some,if_pos h]
 rw[mB,if_pos (by rw[nR];omega),Nat.mul_one,drop_cons hg];rfl
theorem LQ {w:Nat}:w/16 ^^^ cO 4 (w%16)=cO 4 w:=(B9 w).symm
theorem T3 (k:SK)(l:List Nat)(hb:dt l)(hl:l.length≤4294967296)(H:af):W env (.call 46 [.int .u32 0,.sl k (l.map fun n=>[T.int .u8 (n:Nat)])]) H (fun o H'=>Ext H H'∧o=.val (.int .u32 (gb l:Nat))):=by
 refine W.bS rfl rfl rfl ?_
 simp -implicitDefEqProofs only[NA,op,ef,cl,sq,reduceIte,j4,j5,j6,j7,j8,j9,y1,y2,y3,S1]
 refine ae _ _ _ _ _ _ _ _ (Gy _) ?_
 rintro u H1⟨ib,hu⟩
 cases hu
 have ib:Ext H H1:=ib
 have n0:=LO (a:=0) (by decide)
 have z:[T.int .u32 0,T.int .u32 0,T.int .u32 0,T.int .u32 0,T.int .u32 0,T.int .u32 0,T.int .u32 0,T.int .u32 0,T.int .u32 0,T.int .u32 0,T.int .u32 0,T.int .u32 0,T.int .u32 0,T.int .u32 0,T.int .u32 0,T.int .u32 0]=eb 0:=rfl
 obtain⟨H2,LP⟩:∃H2,H2=H1++[B.cells (eb 16)]:=⟨_,rfl⟩
 have xI:Ext H H2:=by rw[LP];exact ib.app _
 have d2:H2[H1.length]?=some (.cells (eb 16)):=by rw[LP];exact aX rfl
 have t1:(eb 16).length=16:=rfl
 have t6:oJ (H1++[B.cells (eb 0)]) H1.length (eb 16) 0 (some (.cells (eb 0)))=some H2:=by
  rw[gW,if_pos (by decide),oK,LP];rfl
 have u0:KM UnOp.xor (T.int .u32 0)=some (.int .u32 4294967295):=rfl
 simp -implicitDefEqProofs only[op,ef,cl,sq,reduceIte,j4,j5,j6,j7,j8,j9,y1,y2,y3,S1,z,S2,t1,t6,u0]
 refine W.gu 0 [(5,_),(12,_),(13,_)] (fun (i:Nat) R H'=>H'=H2∧R 6=.int .u32 (mJ 4294967295 (l.take i):Nat)∧R 14=.int .i64 i∧i≤l.length) (fun i=>l.length-i) 0
  (fun R H'=>H'=H2∧R 6=.int .u32 (mJ 4294967295 l:Nat)) ⟨rfl,rfl,rfl,Nat.zero_le _⟩ ?_ ?_
 ·rintro i R H3⟨rfl,g6,sC,hi⟩
  by_cases ax:i<l.length
  rotate_left
  ·have nk:i=l.length:=by omega
   subst nk
   rw[List.take_length]at g6
   simp -implicitDefEqProofs only[aq,aj,op,ef,cl,sq,reduceIte,j4,j5,j6,j7,j8,j9,y1,y2,y3,S1,List.length_map,g6,sC,ax,dr]
  obtain⟨c,hc⟩:=cB ax
  have abn:c<256:=hb c (List.mem_of_getElem? hc)
  have ic:=iT (e:=fun n:Nat=>[T.int .u8 (n:Nat)]) (n:=1) (fun _=>rfl) (by decide) (k:=k) hc
  have qc:=aU (show i<9223372036854775807 by omega)
  obtain⟨w,hw⟩:∃w,w=mJ 4294967295 (l.take i):=⟨_,rfl⟩
  have xc:w<4294967296:=by rw[hw];exact nQ _ (by decide) (hb.take i)
  rw[←hw]at g6
  have x1:=Au (a:=w) (b:=c) xc (by omega)
  have w1:=wrap32 (n:=c) (by omega)
  obtain⟨a,ha⟩:∃a,a=w ^^^ c:=⟨_,rfl⟩
  have MU:a<4294967296:=by rw[ha];exact Nat.xor_lt_two_pow (n:=32) xc (by omega)
  have jV:=lK 4 MU
  rw[←ha]at x1
  have s1:=LN a
  have m1:=Gw MU
  have k1:a%16<16:=Nat.mod_lt _ (by decide)
  have g1:=Av k1
  have x2:=Au (a:=a/16) (b:=cO 4 (a%16)) (by omega) (lK 4 (by omega))
  rw[LQ]at x2
  have s2:=LN (cO 4 a)
  have m2:=Gw jV
  have k2:cO 4 a%16<16:=Nat.mod_lt _ (by decide)
  have g2:=Av k2
  have x3:=Au (a:=cO 4 a/16) (b:=cO 4 (cO 4 a%16)) (by omega) (lK 4 (by omega))
  rw[LQ]at x3
  simp -implicitDefEqProofs only[aq,aj,op,ef,cl,sq,reduceIte,j4,j5,j6,j7,j8,j9,y1,y2,y3,S1,List.length_map,g6,sC,ax,aa,ic,fo,w1,x1,s1,m1,k1,d2,g1,x2,s2,m2,k2,g2,x3,qc]
  refine⟨i+1,by omega,?_,rfl,ax⟩
  rw[fJ hc,Ca,←hw]
  unfold yX
  rw[←ha,show(8:Nat)=4+4 from rfl,kW]
 rintro R H3⟨rfl,g6⟩
 have xc:mJ 4294967295 l<4294967296:=nQ _ (by decide) hb
 have u1:KM UnOp.xor (T.int .u32 (mJ 4294967295 l:Nat))=some (.int .u32 (gb l:Nat)):=by
  have:=LO xc
  simp -implicitDefEqProofs only[KM]
  rw[this];rfl
 simp -implicitDefEqProofs only[aq,aj,op,ef,cl,sq,reduceIte,j4,j5,j6,j7,j8,j9,y1,y2,y3,S1,g6,u1]
 exact xI
def eB (n:Nat):List T:=[.int .u8 n]
theorem LR (k:SK)(l:List Nat)(hb:dt l)(hl:l.length≤4294967296)(H:af):W env (.call 14 [.sl k (l.map eB)]) H (fun o H'=>Ext H H'∧o=.val (.int .u32 (gb l:Nat))):=by
 refine W.bS rfl rfl rfl ?_
 simp -implicitDefEqProofs only[Nk,op,ef,cl,sq,reduceIte,j4,j5,j6,j7,j8,j9,y1,y2,y3,S1]
 refine ae _ _ _ _ _ _ _ _ (T3 k l hb hl _) ?_
 rintro u H1⟨ib,hu⟩
 cases hu
 simp -implicitDefEqProofs only[op,ef,cl,sq,reduceIte,j4,j5,j6,j7,j8,j9,y1,y2,y3,S1]
 exact ib
theorem Gz {l:List Nat}:∀c∈l.map eB,c.map T.erase=c:=fun c hc=>by
 obtain⟨x,_,rfl⟩:=List.mem_map.1 hc;rfl
structure Kp (n0:Nat)(C:Nat→Prop)(H H':af):Prop where
 len:H.length≤H'.length
 get:∀b x,H[b]?=some x→(∀e,x≠.tok e)→¬C b→H'[b]?=some x
 ext:∀H0:af,H0.length≤n0→Ext H0 H→Ext H0 H'
theorem Kp.rfl' {n0:Nat}{C:Nat→Prop}{H:af}:Kp n0 C H H:=⟨Nat.le_refl _,fun _ _ h _ _=>h,fun _ _ h=>h⟩
theorem Kp.trans {n0:Nat}{C:Nat→Prop}{H H' vI:af}(h:Kp n0 C H H')(h':Kp n0 C H' vI):Kp n0 C H vI :=
 ⟨Nat.le_trans h.len h'.len,fun b x hx ht hc=>h'.get b x (h.get b x hx ht hc) ht hc,fun H0 h0 hx=>h'.ext H0 h0 (h.ext H0 h0 hx)⟩
theorem Kp.set {n0 c:Nat}{C:Nat→Prop}{H H':af}(h:Kp n0 C H H')(hc:C c)(h0:n0≤c)(x:B):Kp n0 C H (H'.set c x) :=
 ⟨by simpa using h.len,fun b y hy ht hb=>by rw[bh (fun e=>hb (by subst e;exact hc))];exact h.get b y hy ht hb,fun H0 hl hx=>(h.ext H0 hl hx).set (by omega) x⟩
theorem OS {n0:Nat}{H:af}{k:SK}(bs new:List Nat)(hk:lC n0 H k)(jf:n0≤H.length)(hl:bs.length+new.length≤4294967296) :
  ∃k' H',gK H 1 k (bs.map eB) (new.map eB)=some (.sl k' ((bs++new).map eB),H')∧lC n0 H' k'∧(∀C,Kp n0 C H H')∧(gx k bs→gx k' (bs++new)):=by
 cases new with
 | nil=>exact⟨k,H,by simp[gK],hk,fun C=>Kp.rfl',fun h=>by rw[List.append_nil];exact h⟩
 | cons c new =>
  obtain⟨k',H',h1,h2,h3⟩:=kR (bytes:=1) (bs.map eB) ((c :: new).map eB) hk jf (by simp) (kS (by simp -implicitDefEqProofs only[List.length_map];omega))
  refine⟨k',H',?_,h2,fun C=>⟨h3.len,fun b x hx ht _=>h3.cells hk hx ht,h3.ext⟩,fun _ e=>absurd e (uJ h1 (by simp))⟩
  rw[h1,List.map_append]
  have:((c :: new).map eB).map (fun c=>c.map T.erase)=(c :: new).map eB:=by rw[List.map_map];rfl
  rw[this]
theorem xu (l:List Nat):(l.map eB).all (fun c=>c.length==1)=true:=all_map (enc:=eB) (n:=1) (fun _=>rfl) l
theorem T4 (s:ByteArray):(s.data.toList.map fun c=>[T.int .u8 c.toNat])=(tL s).map eB:=by unfold tL eB;rw[List.map_map];rfl
theorem elS (s:ByteArray):∀Hx,bK Hx 1 (T.str s)=some ((tL s).map eB):=fun Hx=>by rw[←T4];rfl
theorem Aw:∀(n v m:Nat),m<n→(dh n v)[n-(m+1)]?=some (v/256^m%256)
 | 0,v,m,h=>by omega
 | n+1,v,m,h=>by
  by_cases e:m=n
  ·subst e;simp[dh]
  ·have e1:n+1-(m+1)=(n-(m+1))+1:=by omega
   rw[e1]
   show(dh n v)[n-(m+1)]?=_
   exact Aw n v m (by omega)
theorem GA {n v m:Nat}(h:m<n):(dh n v).take (n-m)=(dh n v).take (n-(m+1))++[v/256^m%256]:=by
 have e:n-m=n-(m+1)+1:=by omega
 rw[e,fJ (Aw n v m h)]
theorem ZQ (m:Nat):2^(8*m)=256^m:=by rw[Nat.pow_mul]
theorem ZR {m:Nat}(v:Nat)(h:m≤7):(v:Int).fdiv (2^(min ((8*m:Nat):Int).toNat IntKind.u64.bits))=((v/256^m:Nat):Int):=by
 have e:min ((8*m:Nat):Int).toNat IntKind.u64.bits=8*m:=by
  show min (8*m) 64=8*m
  omega
 rw[e,T0,ZQ]
structure PW (n0:Nat)(H:af)(c:Nat)(out:List Nat):Prop where
 at_:∃k,H[c]?=some (.cells [.int .i64 2147483647,.sl k (out.map eB),.int .i64 0])∧lC n0 H k∧gx k out
 lo:n0≤c
theorem PW.ext {n0:Nat}{H H':af}{c:Nat}{out:List Nat}(h:PW n0 H c out)(hx:Ext H H'):PW n0 H' c out:=by
 obtain⟨⟨k,h1,h2,h4⟩,h3⟩:=h
 exact⟨⟨k,hx.get h1,h2.ext hx,h4⟩,h3⟩
def LS (n0:Nat)(c:Nat)(out:List Nat)(H:af):Out→af→Prop:=fun o H'=>o=.val (.bN [])∧PW n0 H' c out∧Kp n0 (fun b=>b=c) H H'
theorem rz {n0:Nat}{H:af}{c:Nat}{out:List Nat}(h:PW n0 H c out)(n:Nat)(hn:out.length+n≤2147483647):W env (.call 72 [.ptr c 0,.int .i64 n]) H (py (.bool true) H):=by
 obtain⟨⟨k,h1,h2,h4⟩,h3⟩:=h
 refine W.bS rfl rfl rfl ?_
 have w0:IntKind.i64.wrap (2147483647-(out.length:Int))=((2147483647-out.length:Nat):Int):=by rw[wrap64 (by omega)];omega
 have w1:decide ((n:Int)>((2147483647-out.length:Nat):Int))=false:=by simp;omega
 simp -implicitDefEqProofs only[NU,op,ef,cl,sq,reduceIte,j4,j5,j6,j7,j8,j9,y1,y2,y3,S1,h1,List.length_map,w0,w1]
theorem T5 (H:af):W env (.call 29 [.int .i64 2147483647]) H (fun o H'=>Ext H H'∧o=.val (.ptr H.length 0)∧PW H.length H' H.length []):=by
 refine W.bS rfl rfl rfl ?_
 have e:(if (0:Int)>2147483647 then(0:Int)else 2147483647)=2147483647:=by decide
 simp -implicitDefEqProofs only[Ns,op,ef,cl,sq,reduceIte,j4,j5,j6,j7,j8,j9,y1,y2,y3,S1,e]
 exact⟨Ext.rfl'.app _,⟨.nil,aX rfl,iE _ _,fun _=>rfl⟩,Nat.le_refl _⟩
theorem xv {n0:Nat}{H:af}{c:Nat}{out:List Nat}(h:PW n0 H c out)(jf:n0≤H.length)(v n:Nat)(hn:n≤8)(hl:out.length+n≤4294967296) :
  W env (.call 73 [.ptr c 0,.int .u64 v,.int .i64 n]) H (LS n0 c (out++dh n v) H):=by
 refine W.bS rfl rfl rfl ?_
 have w0:IntKind.i64.wrap ((n:Int)-1)=(n:Int)-1:=wrap64 (by omega)
 simp -implicitDefEqProofs only[NV,op,ef,cl,sq,reduceIte,j4,j5,j6,j7,j8,j9,y1,y2,y3,S1,w0]
 refine W.gu 0 [(0,_),(1,_)] (fun (m:Nat) R H'=>At H' (fun H'=>PW n0 H' c (out++(dh n v).take (n-m))∧n0≤H'.length∧Kp n0 (fun b=>b=c) H H')∧R 6=.int .i64 ((m:Int)-1)∧m≤n) (fun m=>m) n
  (fun R H'=>At H' (fun H'=>PW n0 H' c (out++dh n v)∧Kp n0 (fun b=>b=c) H H')) ⟨.i ⟨by rw[Nat.sub_self,List.take_zero,List.append_nil];exact h,jf,Kp.rfl'⟩,rfl,Nat.le_refl _⟩ ?_ ?_
 ·rintro m R H1⟨⟨hp,Ba,rO⟩,g6,hm⟩
  cases m with
  | zero =>
   have e:decide ((((0:Nat):Int)-1)≥0)=false:=by decide
   rw[Nat.sub_zero,List.take_of_length_le (by rw[bg];omega)]at hp
   simp -implicitDefEqProofs only[aq,aj,op,ef,cl,sq,reduceIte,j4,j5,j6,j7,j8,j9,y1,y2,y3,S1,g6,e,dr]
   exact .i ⟨hp,rO⟩
  | succ m =>
   obtain⟨⟨k,d,hk,mF⟩,nZ⟩:=hp
   have e7:(((m+1:Nat):Int)-1)=((m:Nat):Int):=by omega
   have e:decide (((m:Nat):Int)≥0)=true:=by simp
   have w8:IntKind.i64.wrap (8*((m:Nat):Int))=((8*m:Nat):Int):=by rw[wrap64 (by omega)];simp
   have s8:=ZR (m:=m) v (by omega)
   have n8:¬(((8*m:Nat):Int)<0):=by omega
   have w1:IntKind.i64.wrap ((m:Int)-1)=(m:Int)-1:=wrap64 (by omega)
   obtain⟨k2,H2,ha,xW,lA,yY⟩:=OS (out++(dh n v).take (n-(m+1))) [v/256^m%256] hk Ba (by simp -implicitDefEqProofs only[List.length_append,List.length_take,bg,List.length_cons,List.length_nil];omega)
   rw[List.append_assoc,←GA (show m<n by omega)]at ha yY
   have hB:=xu (out++(dh n v).take (n-(m+1)))
   have A8:gK H1 1 k ((out++(dh n v).take (n-(m+1))).map eB) [[.int .u8 ((v/256^m%256:Nat):Int)]]=some (.sl k2 ((out++(dh n v).take (n-m)).map eB),H2):=ha
   rw[e7]at g6
   have m8:=ry (v/256^m)
   have d2:=(lA fun _=>False).get c _ d (by simp) (fun h=>h)
   have l2:=aW d2
   simp -implicitDefEqProofs only[aq,aj,op,ef,cl,sq,reduceIte,j4,j5,j6,j7,j8,j9,y1,y2,y3,S1,g6,e,w8,n8,s8,m8,hB,A8,w1,d,d2,l2]
   exact⟨m,by omega,.i ⟨⟨⟨k2,bT l2,xW.set d2 (by simp) _,yY mF⟩,nZ⟩,by have:=(lA fun _=>False).len;simp;omega,(rO.trans (lA _)).set rfl nZ _⟩,rfl,by omega⟩
 rintro R H1⟨hp,rO⟩
 simp -implicitDefEqProofs only[aq,aj,op,ef,cl,sq,reduceIte,j4,j5,j6,j7,j8,j9,y1,y2,y3,S1]
 exact⟨rfl,hp,rO⟩
theorem ZS {n0:Nat}{H:af}{c:Nat}{out:List Nat}(h:PW n0 H c out)(jf:n0≤H.length)(v:Nat)(hv:v<4294967296)(hl:out.length+4≤2147483647) :
  W env (.call 30 [.ptr c 0,.int .u32 v]) H (LS n0 c (out++dh 4 v) H):=by
 refine W.bS rfl rfl rfl ?_
 have w0:=fN (n:=v) (by omega)
 simp -implicitDefEqProofs only[Nt,op,ef,cl,sq,reduceIte,j4,j5,j6,j7,j8,j9,y1,y2,y3,S1]
 refine ae _ _ _ _ _ _ _ _ (rz h 4 hl) ?_
 rintro u H1⟨hu,rfl⟩
 cases hu
 simp -implicitDefEqProofs only[op,ef,cl,sq,reduceIte,j4,j5,j6,j7,j8,j9,y1,y2,y3,S1,w0]
 refine ae _ _ _ _ _ _ _ _ (xv h jf v 4 (by decide) (by omega)) ?_
 rintro u H1⟨hu,h1⟩
 cases hu
 simp -implicitDefEqProofs only[op,ef,cl,sq,reduceIte,j4,j5,j6,j7,j8,j9,y1,y2,y3,S1]
 exact⟨rfl,h1⟩
theorem u31 {n0:Nat}{H:af}{c:Nat}{out:List Nat}(h:PW n0 H c out)(jf:n0≤H.length)(v:Nat)(hv:v<256)(hl:out.length+1≤2147483647) :
  W env (.call 31 [.ptr c 0,.int .u8 v]) H (LS n0 c (out++dh 1 v) H):=by
 refine W.bS rfl rfl rfl ?_
 have w0:=fN (n:=v) (by omega)
 simp -implicitDefEqProofs only[Nu,op,ef,cl,sq,reduceIte,j4,j5,j6,j7,j8,j9,y1,y2,y3,S1]
 refine ae _ _ _ _ _ _ _ _ (rz h 1 hl) ?_
 rintro u H1⟨hu,rfl⟩
 cases hu
 simp -implicitDefEqProofs only[op,ef,cl,sq,reduceIte,j4,j5,j6,j7,j8,j9,y1,y2,y3,S1,w0]
 refine ae _ _ _ _ _ _ _ _ (xv h jf v 1 (by decide) (by omega)) ?_
 rintro u H1⟨hu,h1⟩
 cases hu
 simp -implicitDefEqProofs only[op,ef,cl,sq,reduceIte,j4,j5,j6,j7,j8,j9,y1,y2,y3,S1]
 exact⟨rfl,h1⟩
theorem u32 {n0:Nat}{H:af}{c:Nat}{out:List Nat}(h:PW n0 H c out)(jf:n0≤H.length)(v:Nat)(hl:out.length+8≤2147483647) :
  W env (.call 32 [.ptr c 0,.int .u64 v]) H (LS n0 c (out++dh 8 v) H):=by
 refine W.bS rfl rfl rfl ?_
 simp -implicitDefEqProofs only[Nv,op,ef,cl,sq,reduceIte,j4,j5,j6,j7,j8,j9,y1,y2,y3,S1]
 refine ae _ _ _ _ _ _ _ _ (rz h 8 hl) ?_
 rintro u H1⟨hu,rfl⟩
 cases hu
 simp -implicitDefEqProofs only[op,ef,cl,sq,reduceIte,j4,j5,j6,j7,j8,j9,y1,y2,y3,S1]
 refine ae _ _ _ _ _ _ _ _ (xv h jf v 8 (by decide) (by omega)) ?_
 rintro u H1⟨hu,h1⟩
 cases hu
 simp -implicitDefEqProofs only[op,ef,cl,sq,reduceIte,j4,j5,j6,j7,j8,j9,y1,y2,y3,S1]
 exact⟨rfl,h1⟩
theorem uY {n0:Nat}{H:af}{c:Nat}{out:List Nat}(h:PW n0 H c out)(jf:n0≤H.length)(s:ByteArray)(hl:out.length+(4+s.size)≤2147483647) :
  W env (.call 33 [.ptr c 0,.str s]) H (LS n0 c (out++eT s) H):=by
 refine W.bS rfl rfl rfl ?_
 have w0:=fN (n:=s.size) (by omega)
 have w4:IntKind.i64.wrap (4+(s.size:Int))=((4+s.size:Nat):Int):=by rw[wrap64 (by omega)];simp
 simp -implicitDefEqProofs only[Nw,op,ef,cl,sq,reduceIte,j4,j5,j6,j7,j8,j9,y1,y2,y3,S1,w4]
 refine ae _ _ _ _ _ _ _ _ (rz h (4+s.size) hl) ?_
 rintro u H1⟨hu,rfl⟩
 cases hu
 simp -implicitDefEqProofs only[op,ef,cl,sq,reduceIte,j4,j5,j6,j7,j8,j9,y1,y2,y3,S1,w0]
 refine ae _ _ _ _ _ _ _ _ (xv h jf s.size 4 (by decide) (by omega)) ?_
 rintro u H1⟨hu,⟨⟨k,d,hk,mF⟩,nZ⟩,rO⟩
 cases hu
 obtain⟨k2,H2,ha,xW,lA,yY⟩:=OS (out++dh 4 s.size) (tL s) hk (Nat.le_trans jf rO.len) (by simp -implicitDefEqProofs only[List.length_append,bg,ru];omega)
 rw[List.append_assoc]at ha yY
 have hB:=xu (out++dh 4 s.size)
 have hs:=elS s
 have d2:=(lA fun _=>False).get c _ d (by simp) (fun h=>h)
 have l2:=aW d2
 simp -implicitDefEqProofs only[op,ef,cl,sq,reduceIte,j4,j5,j6,j7,j8,j9,y1,y2,y3,S1,d,hB,hs,ha,d2,l2]
 exact⟨rfl,⟨⟨k2,bT l2,xW.set d2 (by simp) _,yY mF⟩,nZ⟩,(rO.trans (lA _)).set rfl nZ _⟩
def Ax (l:List ByteArray):List Nat:=dh 4 l.length++l.flatMap eT
theorem Ay (l:List ByteArray):(Ax l).length=4+(l.flatMap eT).length:=by simp[Ax,bg]
theorem lL {α:Type}{e:α→List Nat}{l:List α}{i:Nat}{x:α}(h:l[i]?=some x):(l.take (i+1)).flatMap e=(l.take i).flatMap e++e x:=by
 rw[fJ h,List.flatMap_append];simp
theorem lM {α:Type}{e:α→List Nat}(l:List α)(i:Nat):((l.take i).flatMap e).length≤(l.flatMap e).length:=by
 have h:l.flatMap e=(l.take i).flatMap e++(l.drop i).flatMap e:=by rw[←List.flatMap_append,List.take_append_drop]
 rw[h,List.length_append];omega
theorem Kh {n0:Nat}{H:af}{c:Nat}{out:List Nat}(h:PW n0 H c out)(jf:n0≤H.length)(kl:SK)(l:List ByteArray)(hl:out.length+(Ax l).length≤2147483647)(rX:l.length<4294967296) :
  W env (.call 34 [.ptr c 0,.sl kl (l.map eS)]) H (LS n0 c (out++Ax l) H):=by
 rw[Ay]at hl
 refine W.bS rfl rfl rfl ?_
 simp -implicitDefEqProofs only[Nx,op,ef,cl,sq,reduceIte,j4,j5,j6,j7,j8,j9,y1,y2,y3,S1]
 refine W.gu 0 [(0,_),(1,_),(9,_),(10,_)] (fun (i:Nat) R H'=>H'=H∧R 4=.int .i64 ((4+((l.take i).flatMap eT).length:Nat):Int)∧R 11=.int .i64 i∧i≤l.length) (fun i=>l.length-i) 0
  (fun R H'=>H'=H∧R 4=.int .i64 ((4+(l.flatMap eT).length:Nat):Int)) ⟨rfl,rfl,rfl,Nat.zero_le _⟩ ?_ ?_
 ·rintro i R H1⟨rfl,g4,Hw,hi⟩
  by_cases ax:i<l.length
  rotate_left
  ·have nk:i=l.length:=by omega
   subst nk
   rw[List.take_length]at g4
   simp -implicitDefEqProofs only[aq,aj,op,ef,cl,sq,reduceIte,j4,j5,j6,j7,j8,j9,y1,y2,y3,S1,List.length_map,g4,Hw,ax,dr]
  obtain⟨s,hs⟩:=cB ax
  have is:=iT (e:=eS) (n:=1) (fun _=>rfl) (by decide) (k:=kl) hs
  have qc:=aU (show i<9223372036854775807 by omega)
  have hf:=lL (e:=eT) hs
  have hle:=lM (e:=eT) l (i+1)
  have yq:((l.take (i+1)).flatMap eT).length=((l.take i).flatMap eT).length+(4+s.size):=by rw[hf,List.length_append,g7]
  have w4:IntKind.i64.wrap (4+(s.size:Int))=((4+s.size:Nat):Int):=by rw[wrap64 (by omega)];simp
  have w5:IntKind.i64.wrap (((4+((l.take i).flatMap eT).length:Nat):Int)+((4+s.size:Nat):Int))=((4+((l.take (i+1)).flatMap eT).length:Nat):Int):=by rw[wrap64 (by omega),yq];omega
  simp -implicitDefEqProofs only[aq,aj,op,ef,cl,sq,reduceIte,j4,j5,j6,j7,j8,j9,y1,y2,y3,S1,List.length_map,g4,Hw,ax,aa,is,eS,fo,w4,w5,qc]
  exact⟨i+1,by omega,rfl,rfl,ax⟩
 rintro R H1⟨rfl,g4⟩
 have w0:=fN (n:=l.length) (by omega)
 simp -implicitDefEqProofs only[aq,aj,op,ef,cl,sq,reduceIte,j4,j5,j6,j7,j8,j9,y1,y2,y3,S1,g4]
 refine ae _ _ _ _ _ _ _ _ (rz h (4+(l.flatMap eT).length) hl) ?_
 rintro u H2⟨hu,rfl⟩
 cases hu
 simp -implicitDefEqProofs only[op,ef,cl,sq,reduceIte,j4,j5,j6,j7,j8,j9,y1,y2,y3,S1,List.length_map,w0]
 refine ae _ _ _ _ _ _ _ _ (xv h jf l.length 4 (by decide) (by omega)) ?_
 rintro u H3⟨hu,hp,rO⟩
 cases hu
 simp -implicitDefEqProofs only[op,ef,cl,sq,reduceIte,j4,j5,j6,j7,j8,j9,y1,y2,y3,S1,List.length_map]
 refine W.gu 2 [(0,_),(30,_),(31,_)] (fun (i:Nat) R H'=>At H' (fun H'=>PW n0 H' c (out++dh 4 l.length++(l.take i).flatMap eT)∧n0≤H'.length∧Kp n0 (fun b=>b=c) H2 H')∧R 32=.int .i64 i∧i≤l.length) (fun i=>l.length-i) 0
  (fun R H'=>At H' (fun H'=>PW n0 H' c (out++Ax l)∧Kp n0 (fun b=>b=c) H2 H')) ⟨.i ⟨by simpa using hp,Nat.le_trans jf rO.len,rO⟩,rfl,Nat.zero_le _⟩ ?_ ?_
 ·rintro i R H4⟨⟨hp,Ba,rO⟩,ZT,hi⟩
  by_cases ax:i<l.length
  rotate_left
  ·have nk:i=l.length:=by omega
   subst nk
   rw[List.take_length,List.append_assoc]at hp
   simp -implicitDefEqProofs only[aq,aj,op,ef,cl,sq,reduceIte,j4,j5,j6,j7,j8,j9,y1,y2,y3,S1,List.length_map,ZT,ax,dr]
   exact .i ⟨hp,rO⟩
  obtain⟨s,hs⟩:=cB ax
  have is:=iT (e:=eS) (n:=1) (fun _=>rfl) (by decide) (k:=kl) hs
  have qc:=aU (show i<9223372036854775807 by omega)
  have hf:=lL (e:=eT) hs
  have hle:=lM (e:=eT) l (i+1)
  have yq:((l.take (i+1)).flatMap eT).length=((l.take i).flatMap eT).length+(4+s.size):=by rw[hf,List.length_append,g7]
  simp -implicitDefEqProofs only[aq,aj,op,ef,cl,sq,reduceIte,j4,j5,j6,j7,j8,j9,y1,y2,y3,S1,List.length_map,ZT,ax,aa,is,eS,fo]
  refine ae _ _ _ _ _ _ _ _ (uY hp Ba s (by simp -implicitDefEqProofs only[List.length_append,bg];omega)) ?_
  rintro u H5⟨hu,hp5,T6⟩
  cases hu
  rw[List.append_assoc,←hf]at hp5
  simp -implicitDefEqProofs only[op,ef,cl,sq,reduceIte,j4,j5,j6,j7,j8,j9,y1,y2,y3,S1,ZT,qc]
  exact⟨i+1,by omega,.i ⟨hp5,Nat.le_trans Ba T6.len,rO.trans T6⟩,rfl,ax⟩
 rintro R H4⟨hp,rO⟩
 simp -implicitDefEqProofs only[aq,aj,op,ef,cl,sq,reduceIte,j4,j5,j6,j7,j8,j9,y1,y2,y3,S1]
 exact⟨rfl,hp,rO⟩
theorem oZ {H:af}{bytes:Nat}(new:List (List T))(hr:da new.length bytes=true)(he:∀c∈new,c.map T.erase=c):∃k' H',gK H bytes .full [] new=some (.sl k' new,H')∧Ext H H'∧lC H.length H' k'∧k'≠.nil:=by
 cases new with
 | nil=>exact⟨.full,H,by simp[gK],Ext.rfl',.inr (.inl rfl),by simp⟩
 | cons c new =>
  refine⟨.own H.length (c :: new).length,H++[.tok (c :: new).length],?_,Ext.rfl'.app _,.inr (.inr ⟨_,_,rfl,Nat.le_refl _,aX rfl⟩),by simp⟩
  unfold gK
  simp -implicitDefEqProofs only[List.length_nil,Nat.zero_add,hr,if_true,List.nil_append]
  have e:(c :: new).map (fun x=>x.map T.erase)=c :: new:=(List.map_congr_left he).trans (List.map_id _)
  rw[e]
theorem Az (k:SK)(l:List Nat)(hk:gx k l)(hl:l.length≤4294967296)(H:af):W env (.call 74 [.sl k (l.map eB)]) H (fun o H'=>Ext H H'∧∃k',lC H.length H' k'∧gx k' l∧o=.val (.sl k' (l.map eB))):=by
 refine W.bS rfl rfl rfl ?_
 obtain⟨k',H1,ha,hx,mD,kg⟩:=oZ (H:=H) (bytes:=1) (l.map eB) (kS (by simp -implicitDefEqProofs only[List.length_map];omega)) Gz
 have cn:=all_map (enc:=eB) (n:=1) (fun _=>rfl) l
 by_cases hn:k=.nil
 ·subst hn
  have:=hk rfl
  subst this
  have e0:dR .slice (.sl .nil []) (.sl .nil [])=some true:=rfl
  simp -implicitDefEqProofs only[EY,op,ef,cl,sq,reduceIte,j4,j5,j6,j7,j8,j9,y1,y2,y3,S1,List.map_nil,e0,Option.map_some]
  exact⟨Ext.rfl',.nil,iE _ _,fun _=>rfl,rfl⟩
 by_cases he:k=.arg∧l=[]
 ·obtain⟨rfl,rfl⟩:=he
  have e0:dR .slice (.sl .arg []) (.sl .nil [])=none:=rfl
  simp -implicitDefEqProofs only[EY,op,ef,cl,sq,reduceIte,j4,j5,j6,j7,j8,j9,y1,y2,y3,S1,List.map_nil,e0,Option.map_none]
  intro t
  cases t
  ·rw[List.map_nil]at ha
   simp -implicitDefEqProofs only[op,ef,cl,sq,reduceIte,j4,j5,j6,j7,j8,j9,y1,y2,y3,S1]
   simp -implicitDefEqProofs only[op,ef,cl,sq,reduceIte,j4,j5,j6,j7,j8,j9,y1,y2,y3,S1,ha]
   exact⟨hx,k',mD,(fun h=>absurd h kg),rfl⟩
  ·simp -implicitDefEqProofs only[op,ef,cl,sq,reduceIte,j4,j5,j6,j7,j8,j9,y1,y2,y3,S1]
   exact⟨Ext.rfl',.nil,iE _ _,fun _=>rfl,rfl⟩
 have gB:dR .slice (.sl k (l.map eB)) (.sl .nil [])=some false:=by
  cases k with
  | nil=>exact absurd rfl hn
  | arg=>cases l with
   | nil=>exact absurd ⟨rfl,rfl⟩ he
   | cons a l=>rfl
  | full=>rfl
  | own t e=>rfl
 simp -implicitDefEqProofs only[EY,op,ef,cl,sq,reduceIte,j4,j5,j6,j7,j8,j9,y1,y2,y3,S1,gB,cn,ha]
 exact⟨hx,k',mD,(fun h=>absurd h kg),rfl⟩
theorem T7 {n0:Nat}{H:af}{c:Nat}{out:List Nat}(h:PW n0 H c out)(hl:out.length≤2147483647):W env (.call 35 [.ptr c 0]) H (fun o H'=>Ext H H'∧∃k',lC H.length H' k'∧gx k' out∧o=.val (.bN [.sl k' (out.map eB),.int .i64 0])):=by
 obtain⟨⟨k,h1,h2,h4⟩,h3⟩:=h
 refine W.bS rfl rfl rfl ?_
 simp -implicitDefEqProofs only[Ny,op,ef,cl,sq,reduceIte,j4,j5,j6,j7,j8,j9,y1,y2,y3,S1,h1]
 refine ae _ _ _ _ _ _ _ _ (Az k out h4 (by omega) _) ?_
 rintro u H1⟨hx,k',mD,mF,hu⟩
 cases hu
 simp -implicitDefEqProofs only[op,ef,cl,sq,reduceIte,j4,j5,j6,j7,j8,j9,y1,y2,y3,S1]
 exact⟨hx,k',mD,mF,rfl⟩
theorem OT (n m:Nat):IntKind.u8.wrap ((n:Int).fdiv (2^m))=((n/2^m%256:Nat):Int):=by rw[T0,ry]
theorem s24 (n:Nat):IntKind.u8.wrap ((n:Int).fdiv (2^(min (24:Int).toNat IntKind.u32.bits)))=((n/16777216%256:Nat):Int):=OT n 24
theorem s16 (n:Nat):IntKind.u8.wrap ((n:Int).fdiv (2^(min (16:Int).toNat IntKind.u32.bits)))=((n/65536%256:Nat):Int):=OT n 16
theorem s08 (n:Nat):IntKind.u8.wrap ((n:Int).fdiv (2^(min (8:Int).toNat IntKind.u32.bits)))=((n/256%256:Nat):Int):=OT n 8
theorem nm4 (n:Nat):(dh 4 n).map eB=[[T.int .u8 ((n/16777216%256:Nat):Int)],[T.int .u8 ((n/65536%256:Nat):Int)],[T.int .u8 ((n/256%256:Nat):Int)],[T.int .u8 ((n%256:Nat):Int)]]:=by
 simp[dh,eB]
theorem GB (k:SK)(l:List Nat)(hb:dt l)(hl:l.length≤4294967296)(H:af):W env (.call 36 [.sl k (l.map eB)]) H (fun o H'=>Ext H H'∧o=.val (.sl .full ((dh 4 (gb l)).map eB))):=by
 refine W.bS rfl rfl rfl ?_
 simp -implicitDefEqProofs only[Nz,op,ef,cl,sq,reduceIte,j4,j5,j6,j7,j8,j9,y1,y2,y3,S1]
 refine ae _ _ _ _ _ _ _ _ (LR k l hb hl _) ?_
 rintro u H1⟨ib,hu⟩
 cases hu
 have a1:=s24 (gb l)
 have a2:=s16 (gb l)
 have a3:=s08 (gb l)
 have a4:=ry (gb l)
 rw[nm4]
 simp -implicitDefEqProofs only[op,ef,cl,sq,reduceIte,j4,j5,j6,j7,j8,j9,y1,y2,y3,S1,a1,a2,a3,a4]
 exact ib
def rP (x:Nm):List Nat:=eT x.1++dh 8 x.2
def mV (x:Kd):List Nat:=eT x.key++(dh 8 x.id++(eT x.value++Ax x.keys))
def body (gen:Nat)(L:List Nm)(K:List Kd):List Nat:=dh 4 1918987632++(dh 1 1++(dh 8 gen++(dh 4 L.length++(L.flatMap rP++(dh 4 K.length++K.flatMap mV)))))
def whole (b:List Nat):List Nat:=b++dh 4 (gb b)
theorem Ki (l:List ByteArray):dt (Ax l):=(eH _ _).app fun x hx=>by
 obtain⟨s,_,h⟩:=List.mem_flatMap.1 hx;exact uW s x h
theorem Kj (x:Nm):dt (rP x):=(uW _).app (eH _ _)
theorem Kk (x:Kd):dt (mV x):=(uW _).app ((eH _ _).app ((uW _).app (Ki _)))
theorem xw {α:Type}{e:α→List Nat}(h:∀x,dt (e x))(l:List α):dt (l.flatMap e):=fun x hx=>by
 obtain⟨s,_,h'⟩:=List.mem_flatMap.1 hx;exact h s x h'
theorem jo (gen:Nat)(L:List Nm)(K:List Kd):dt (body gen L K) :=
 (eH _ _).app ((eH _ _).app ((eH _ _).app ((eH _ _).app ((xw Kj _).app ((eH _ _).app (xw Kk _))))))
theorem nT (gen:Nat)(L:List Nm)(K:List Kd):(body gen L K).length=21+(L.flatMap rP).length+(K.flatMap mV).length:=by
 simp -implicitDefEqProofs only[body,List.length_append,bg];omega
theorem LS.go {H0 H H':af}{c:Nat}{out:List Nat}{u:Out}(hx:Ext H0 H)(h:LS H0.length c out H u H'):u=.val (.bN [])∧PW H0.length H' c out∧Ext H0 H' :=
 ⟨h.1,h.2.1,h.2.2.ext H0 (Nat.le_refl _) hx⟩
set_option maxHeartbeats 4000000 in
theorem uZ {b:Bk}{a:Ab}{F:Nat→Prop}{m:Nat}{H:af}(h:kd H b a F m)(hm:m≤8000000)(QA:∀k n,a.l k=some n→a.has (k,n)=true){N:List Nm}(hN:Names a N){ls:List ByteArray}(hL:dv a ls)(gen:Int)(hg:1≤gen∧gen<9223372036854775808)
  (a7:(body gen.toNat (ls.map (ik a)) (N.map (cS a))).length≤2147483647) :
  W env (.call 10 [.int .i64 gen,.ptr b.s 0]) H (fun o H'=>Ext H H'∧∃k,k≠.nil∧o=.val (.bN [.sl k ((whole (body gen.toNat (ls.map (ik a)) (N.map (cS a)))).map eB),.int .i64 0])):=by
 obtain⟨g,rfl⟩:∃g:Nat,gen=(g:Int):=⟨gen.toNat,by omega⟩
 rw[Int.toNat_natCast]at a7 ⊢
 have jV:=nT g (ls.map (ik a)) (N.map (cS a))
 have e0:dR .ptr (.ptr b.s 0) .bV=some false:=rfl
 have e1:¬((g:Int)<1):=by omega
 have wg:=fN (n:=g) (by omega)
 obtain⟨L,MW⟩:∃L,L=ls.map (ik a):=⟨_,rfl⟩
 obtain⟨K,T8⟩:∃K,K=N.map (cS a):=⟨_,rfl⟩
 rw[←MW,←T8]at jV a7 ⊢
 refine W.bS rfl rfl rfl ?_
 simp -implicitDefEqProofs only[Nj,op,ef,cl,sq,reduceIte,j4,j5,j6,j7,j8,j9,y1,y2,y3,S1,e0,e1]
 refine ae _ _ _ _ _ _ _ _ (T5 _) ?_
 rintro u H1⟨ib,hu,p1⟩
 cases hu
 have ib:Ext H H1:=ib
 simp -implicitDefEqProofs only[op,ef,cl,sq,reduceIte,j4,j5,j6,j7,j8,j9,y1,y2,y3,S1]
 refine ae _ _ _ _ _ _ _ _ (ZS p1 ib.len 1918987632 (by decide) (by simp)) ?_
 intro u H2 hq
 obtain⟨hu,p2,xI⟩:=hq.go ib
 cases hu
 simp -implicitDefEqProofs only[op,ef,cl,sq,reduceIte,j4,j5,j6,j7,j8,j9,y1,y2,y3,S1]
 refine ae _ _ _ _ _ _ _ _ (u31 p2 xI.len 1 (by decide) (by simp[bg])) ?_
 intro u H3 hq
 obtain⟨hu,p3,rN⟩:=hq.go xI
 cases hu
 simp -implicitDefEqProofs only[op,ef,cl,sq,reduceIte,j4,j5,j6,j7,j8,j9,y1,y2,y3,S1,wg]
 refine ae _ _ _ _ _ _ _ _ (u32 p3 rN.len g (by simp[bg])) ?_
 intro u H4 hq
 obtain⟨hu,p4,xK⟩:=hq.go rN
 cases hu
 simp -implicitDefEqProofs only[op,ef,cl,sq,reduceIte,j4,j5,j6,j7,j8,j9,y1,y2,y3,S1]
 refine ae _ _ _ _ _ _ _ _ (Ar (h.ext xK) hm QA) ?_
 rintro u H5⟨oY,kL,ls',_,hL',hlen,hu⟩
 cases hu
 have oY:Ext H4 H5:=oY
 have els:=hL'.uniq hL
 subst els
 rw[←MW]
 have Vv:L.length≤8000000:=by rw[MW,List.length_map];omega
 have p5:=p4.ext oY
 have T9:=xK.trans oY
 have wL:=wrap32 (n:=L.length) (by omega)
 obtain⟨o4,ZU⟩:∃o4,o4=dh 4 1918987632++(dh 1 1++dh 8 g):=⟨_,rfl⟩
 have eo4:[]++dh 4 1918987632++dh 1 1++dh 8 g=o4:=by rw[ZU];simp -implicitDefEqProofs only[List.nil_append,List.append_assoc]
 rw[eo4]at p5
 have lo4:o4.length=13:=by rw[ZU];simp -implicitDefEqProofs only[List.length_append,bg]
 simp -implicitDefEqProofs only[op,ef,cl,sq,reduceIte,j4,j5,j6,j7,j8,j9,y1,y2,y3,S1,List.length_map,wL]
 refine ae _ _ _ _ _ _ _ _ (ZS p5 T9.len L.length (by omega) (by omega)) ?_
 intro u H6 hq
 obtain⟨hu,p6,xo⟩:=hq.go T9
 cases hu
 have hc6:=p6.lo
 simp -implicitDefEqProofs only[op,ef,cl,sq,reduceIte,j4,j5,j6,j7,j8,j9,y1,y2,y3,S1,List.length_map]
 refine W.gu 0 [(1,_),(6,_),(37,_),(38,_)] (fun (i:Nat) R H'=>At H' (fun H'=>PW H.length H' H.length (o4++dh 4 L.length++(L.take i).flatMap rP)∧Ext H H')∧R 39=.int .i64 i∧i≤L.length) (fun i=>L.length-i) 0
  (fun R H'=>At H' (fun H'=>PW H.length H' H.length (o4++dh 4 L.length++L.flatMap rP)∧Ext H H')) ⟨.i ⟨by simpa using p6,xo⟩,rfl,Nat.zero_le _⟩ ?_ ?_
 ·rintro i R H7⟨⟨p7,tO⟩,ZV,hi⟩
  by_cases ax:i<L.length
  rotate_left
  ·have nk:i=L.length:=by omega
   subst nk
   rw[List.take_length]at p7
   simp -implicitDefEqProofs only[aq,aj,op,ef,cl,sq,reduceIte,j4,j5,j6,j7,j8,j9,y1,y2,y3,S1,ZV,ax,dr]
   exact .i ⟨p7,tO⟩
  obtain⟨x,hx⟩:=cB ax
  have ix:=iT (e:=eW) (n:=2) (fun _=>rfl) (by decide) (k:=kL) hx
  have qc:=aU (show i<9223372036854775807 by omega)
  have Ua:∀Hx,pr Hx 2 (.dL (eW x))=some (eW x):=fun _=>rfl
  have hf:=lL (e:=rP) hx
  have hle:=lM (e:=rP) L (i+1)
  have yq:((L.take (i+1)).flatMap rP).length=((L.take i).flatMap rP).length+(4+x.1.size+8):=by
   rw[hf,List.length_append]
   show _+(eT x.1++dh 8 x.2).length=_
   rw[List.length_append,g7,bg]
  obtain⟨H8,GC⟩:∃H8,H8=H7++[B.cells (eW x)]:=⟨_,rfl⟩
  have xy:Ext H7 H8:=⟨_,GC⟩
  have d8:H8[H7.length]?=some (.cells (eW x)):=by rw[GC];exact aX rfl
  have bF:H7.length≠H.length:=by
   obtain⟨⟨_,d,_⟩,_⟩:=p7;have:=aW d;omega
  have p8:=p7.ext xy
  have GD:=tO.trans xy
  simp -implicitDefEqProofs only[eW]at GC d8 Ua ix
  simp -implicitDefEqProofs only[aq,aj,op,ef,cl,sq,reduceIte,j4,j5,j6,j7,j8,j9,y1,y2,y3,S1,ZV,ax,aa,eW,ix,Ua,S2]
  rw[←GC]
  refine ae _ _ _ _ _ _ _ _ (uY p8 GD.len x.1 (by simp -implicitDefEqProofs only[List.length_append,bg];omega)) ?_
  intro u H9 hq
  have d9:=hq.2.2.get _ _ d8 (by simp) bF
  obtain⟨hu,p9,LU⟩:=hq.go GD
  cases hu
  simp -implicitDefEqProofs only[op,ef,cl,sq,reduceIte,j4,j5,j6,j7,j8,j9,y1,y2,y3,S1,d9]
  refine ae _ _ _ _ _ _ _ _ (u32 p9 LU.len x.2 (by simp -implicitDefEqProofs only[List.length_append,bg,g7];omega)) ?_
  intro u yZ hq
  obtain⟨hu,HC,o3⟩:=hq.go LU
  cases hu
  rw[List.append_assoc,List.append_assoc]at HC
  have ZW:PW H.length yZ H.length (o4++dh 4 L.length++(L.take (i+1)).flatMap rP):=by
   rw[hf,show rP x=eT x.1++dh 8 x.2 from rfl]
   simpa only[List.append_assoc]using HC
  simp -implicitDefEqProofs only[op,ef,cl,sq,reduceIte,j4,j5,j6,j7,j8,j9,y1,y2,y3,S1,ZV,qc]
  exact⟨i+1,by omega,.i ⟨ZW,o3⟩,rfl,ax⟩
 rintro R H7⟨p7,tO⟩
 simp -implicitDefEqProofs only[aq,aj,op,ef,cl,sq,reduceIte,j4,j5,j6,j7,j8,j9,y1,y2,y3,S1]
 refine ae _ _ _ _ _ _ _ _ (LK (h.ext tO) hm) ?_
 rintro u H8⟨xy,kK,N',_,hN',abp,hu⟩
 cases hu
 have xy:Ext H7 H8:=xy
 have eN:=hN'.uniq hN
 subst eN
 have eKK:N'.map (Vt a)=K.map me:=by rw[T8,List.map_map];rfl
 rw[eKK]
 have hKl:K.length≤8000000:=by rw[T8,List.length_map];omega
 have OU:∀x∈K,x.keys.length≤1024:=fun x hx=>by
  rw[T8]at hx
  obtain⟨n,_,rfl⟩:=List.mem_map.1 hx
  exact h.keys n
 have ad7:∀x∈K,x.kk=.arg:=fun x hx=>by
  rw[T8]at hx
  obtain⟨n,_,rfl⟩:=List.mem_map.1 hx
  rfl
 have p8:=p7.ext xy
 have GD:=tO.trans xy
 have wK:=wrap32 (n:=K.length) (by omega)
 simp -implicitDefEqProofs only[op,ef,cl,sq,reduceIte,j4,j5,j6,j7,j8,j9,y1,y2,y3,S1,List.length_map,wK]
 refine ae _ _ _ _ _ _ _ _ (ZS p8 GD.len K.length (by omega) (by simp -implicitDefEqProofs only[List.length_append,bg];omega)) ?_
 intro u H9 hq
 obtain⟨hu,p9,LU⟩:=hq.go GD
 cases hu
 obtain⟨o9,ZX⟩:∃o9,o9=o4++dh 4 L.length++L.flatMap rP++dh 4 K.length:=⟨_,rfl⟩
 rw[←ZX]at p9
 have lo9:o9.length=21+(L.flatMap rP).length:=by rw[ZX];simp -implicitDefEqProofs only[List.length_append,bg];omega
 simp -implicitDefEqProofs only[op,ef,cl,sq,reduceIte,j4,j5,j6,j7,j8,j9,y1,y2,y3,S1,List.length_map]
 refine W.gu 2 [(6,_),(59,_),(60,_)] (fun (i:Nat) R H'=>At H' (fun H'=>PW H.length H' H.length (o9++(K.take i).flatMap mV)∧Ext H H')∧R 61=.int .i64 i∧i≤K.length) (fun i=>K.length-i) 0
  (fun R H'=>At H' (fun H'=>PW H.length H' H.length (o9++K.flatMap mV)∧Ext H H')) ⟨.i ⟨by simpa using p9,LU⟩,rfl,Nat.zero_le _⟩ ?_ ?_
 ·rintro i R yZ⟨⟨HC,o3⟩,ZY,hi⟩
  by_cases ax:i<K.length
  rotate_left
  ·have nk:i=K.length:=by omega
   subst nk
   rw[List.take_length]at HC
   simp -implicitDefEqProofs only[aq,aj,op,ef,cl,sq,reduceIte,j4,j5,j6,j7,j8,j9,y1,y2,y3,S1,ZY,ax,dr]
   exact .i ⟨HC,o3⟩
  obtain⟨x,hx⟩:=cB ax
  have hxm:=List.mem_of_getElem? hx
  have ix:=iT (e:=me) (n:=5) (fun _=>rfl) (by decide) (k:=kK) hx
  have qc:=aU (show i<9223372036854775807 by omega)
  have Ua:∀Hx,pr Hx 5 (.dL (me x))=some (me x):=fun _=>rfl
  have hf:=lL (e:=mV) hx
  have hle:=lM (e:=mV) K (i+1)
  have yq:((K.take (i+1)).flatMap mV).length=((K.take i).flatMap mV).length+(4+x.key.size+8+(4+x.value.size)+(Ax x.keys).length):=by
   rw[hf,List.length_append]
   show _+(eT x.key++(dh 8 x.id++(eT x.value++Ax x.keys))).length=_
   simp -implicitDefEqProofs only[List.length_append,g7,bg];omega
  obtain⟨GF,Km⟩:∃GF,GF=yZ++[B.cells (me x)]:=⟨_,rfl⟩
  have u2:Ext yZ GF:=⟨_,Km⟩
  have d11:GF[yZ.length]?=some (.cells (me x)):=by rw[Km];exact aX rfl
  have bF:yZ.length≠H.length:=by
   obtain⟨⟨_,d,_⟩,_⟩:=HC;have:=aW d;omega
  have p11:=HC.ext u2
  have LV:=o3.trans u2
  simp -implicitDefEqProofs only[me]at Km d11 Ua ix
  simp -implicitDefEqProofs only[aq,aj,op,ef,cl,sq,reduceIte,j4,j5,j6,j7,j8,j9,y1,y2,y3,S1,ZY,ax,aa,me,ix,Ua,S2]
  rw[←Km]
  refine ae _ _ _ _ _ _ _ _ (uY p11 LV.len x.key (by simp -implicitDefEqProofs only[List.length_append];omega)) ?_
  intro u HD hq
  have d12:=hq.2.2.get _ _ d11 (by simp) bF
  obtain⟨hu,p12,o5⟩:=hq.go LV
  cases hu
  simp -implicitDefEqProofs only[op,ef,cl,sq,reduceIte,j4,j5,j6,j7,j8,j9,y1,y2,y3,S1,d12]
  refine ae _ _ _ _ _ _ _ _ (u32 p12 o5.len x.id (by simp -implicitDefEqProofs only[List.length_append,g7];omega)) ?_
  intro u CF hq
  have d13:=hq.2.2.get _ _ d12 (by simp) bF
  obtain⟨hu,p13,pE⟩:=hq.go o5
  cases hu
  simp -implicitDefEqProofs only[op,ef,cl,sq,reduceIte,j4,j5,j6,j7,j8,j9,y1,y2,y3,S1,d13]
  refine ae _ _ _ _ _ _ _ _ (uY p13 pE.len x.value (by simp -implicitDefEqProofs only[List.length_append,g7,bg];omega)) ?_
  intro u Kn hq
  have d14:=hq.2.2.get _ _ d13 (by simp) bF
  obtain⟨hu,p14,y0⟩:=hq.go pE
  cases hu
  simp -implicitDefEqProofs only[op,ef,cl,sq,reduceIte,j4,j5,j6,j7,j8,j9,y1,y2,y3,S1,d14]
  refine ae _ _ _ _ _ _ _ _ (Kh p14 y0.len x.kk x.keys (by simp -implicitDefEqProofs only[List.length_append,g7,bg];omega) (by have:=OU x hxm;omega)) ?_
  intro u ZZ hq
  obtain⟨hu,p15,GG⟩:=hq.go y0
  cases hu
  have Z0:PW H.length ZZ H.length (o9++(K.take (i+1)).flatMap mV):=by
   rw[hf,show mV x=eT x.key++(dh 8 x.id++(eT x.value++Ax x.keys)) from rfl]
   simpa only[List.append_assoc]using p15
  simp -implicitDefEqProofs only[op,ef,cl,sq,reduceIte,j4,j5,j6,j7,j8,j9,y1,y2,y3,S1,ZY,qc]
  exact⟨i+1,by omega,.i ⟨Z0,GG⟩,rfl,ax⟩
 rintro R yZ⟨HC,o3⟩
 have Ub:o9++K.flatMap mV=body g L K:=by rw[ZX,ZU];unfold body;simp -implicitDefEqProofs only[List.append_assoc]
 rw[Ub]at HC
 have Nc:=jo g L K
 have Hl:body g L K≠[]:=fun e=>by rw[e]at jV;simp at jV;omega
 generalize body g L K=bd at *
 simp -implicitDefEqProofs only[aq,aj,op,ef,cl,sq,reduceIte,j4,j5,j6,j7,j8,j9,y1,y2,y3,S1]
 refine ae _ _ _ _ _ _ _ _ (T7 HC a7) ?_
 rintro u GF⟨u2,k',mD,mF,hu⟩
 cases hu
 have u2:Ext yZ GF:=u2
 simp -implicitDefEqProofs only[op,ef,cl,sq,reduceIte,j4,j5,j6,j7,j8,j9,y1,y2,y3,S1]
 refine ae _ _ _ _ _ _ _ _ (GB k' bd Nc (by omega) _) ?_
 rintro u HD⟨o5,hu⟩
 cases hu
 have o5:Ext GF HD:=o5
 obtain⟨k2,CF,ha,xW,lA,yY⟩:=OS bd (dh 4 (gb bd)) (mD.ext o5) (Nat.le_trans u2.len o5.len) (by rw[bg];omega)
 have hB:=xu bd
 have hB2:=xu (dh 4 (gb bd))
 have pE:Ext H CF:=(lA fun _=>False).ext H (by have:=o3.len;omega) ((o3.trans u2).trans o5)
 simp -implicitDefEqProofs only[op,ef,cl,sq,reduceIte,j4,j5,j6,j7,j8,j9,y1,y2,y3,S1,hB,hB2,ha]
 exact⟨pE,k2,fun e=>Hl (by have:=yY mF e;simp at this;exact this.1),rfl⟩
end Go.Proofs.YtdcpehdijdllpaaGreat.St
end

section
namespace Go.Proofs.YtdcpehdijdllpaaGreat.St
open Go.Rmp Go.Proofs.YtdcpehdijdllpaaGreat.Ir
set_option maxRecDepth 10000
structure RD (H:af)(c:Nat)(st:Option (List Nat)):Prop where
 at_:∃k rest e,H[c]?=some (.cells [.sl k (rest.map eB),.int .i64 e])∧rest.length≤4294967296∧dt rest∧(∀l,st=some l→e=0∧rest=l)∧(st=none→e≠0)
theorem RD.ext {H H':af}{c:Nat}{st:Option (List Nat)}(h:RD H c st)(hx:Ext H H'):RD H' c st:=by
 obtain⟨k,rest,e,h1,h2⟩:=h.at_
 exact⟨k,rest,e,hx.get h1,h2⟩
theorem RD.ok {H:af}{c:Nat}{l:List Nat}(h:RD H c (some l)):∃k,H[c]?=some (.cells [.sl k (l.map eB),.int .i64 0])∧l.length≤4294967296∧dt l:=by
 obtain⟨k,rest,e,h1,h2,h3,h4,_⟩:=h.at_
 obtain⟨rfl,rfl⟩:=h4 l rfl
 exact⟨k,h1,h2,h3⟩
theorem RD.bad {H:af}{c:Nat}(h:RD H c none):∃k rest e,H[c]?=some (.cells [.sl k (rest.map eB),.int .i64 e])∧rest.length≤4294967296∧dt rest∧e≠0:=by
 obtain⟨k,rest,e,h1,h2,h3,_,h5⟩:=h.at_
 exact⟨k,rest,e,h1,h2,h3,h5 rfl⟩
theorem RD.Vw {H:af}{c:Nat}{k:SK}{l:List Nat}(h:H[c]?=some (.cells [.sl k (l.map eB),.int .i64 0]))(hl:l.length≤4294967296)(hb:dt l):RD H c (some l) :=
 ⟨k,l,0,h,hl,hb,fun l' e=>⟨rfl,Option.some.inj e⟩,fun e=>by cases e⟩
theorem RD.Vx {H:af}{c:Nat}{k:SK}{l:List Nat}{e:Int}(h:H[c]?=some (.cells [.sl k (l.map eB),.int .i64 e]))(hl:l.length≤4294967296)(hb:dt l)(he:e≠0):RD H c none :=
 ⟨k,l,e,h,hl,hb,fun l' e=>(by cases e),fun _=>he⟩
theorem GH {x:X}{lo hi:Option X}{R:ar}{Hx:af}{k:SK}{l:List Nat}{a b:Nat}(hx:x.ev R=.sl k (l.map eB))(ha:gg R 0 lo=some a)(hb:gg R l.length hi=some b)(h1:a≤b)(h2:b≤l.length) :
  ak R Hx (.gm 1 x lo hi none)=some (.sl (k.cut l.length a b) (((l.take b).drop a).map eB),Hx):=by
 have cn:=xu l
 simp -implicitDefEqProofs only[ak,hx,ha,List.length_map,hb]
 rw[if_pos ⟨h1,h2,cn⟩,←List.map_take,←List.map_drop]
theorem rA {k:SK}{l:List Nat}{n:Nat}(h:n≤l.length):∀R Hx a b,(X.r a).ev R=.sl k (l.map eB)→(X.r b).ev R=.int .i64 (n:Nat)→ak R Hx (.gm 1 (.r a) none (some (.r b)) none)=some (.sl (k.cut l.length 0 n) ((l.take n).map eB),Hx):=fun R Hx a b ha hb=>by
 have:=GH (Hx:=Hx) (lo:=none) (hi:=some (.r b)) (a:=0) (b:=n) ha rfl (by simp -implicitDefEqProofs only[gg,hb,aa]) (Nat.zero_le _) h
 simpa using this
theorem rB {k:SK}{l:List Nat}{n:Nat}(h:n≤l.length):∀R Hx a b,(X.r a).ev R=.sl k (l.map eB)→(X.r b).ev R=.int .i64 (n:Nat)→ak R Hx (.gm 1 (.r a) (some (.r b)) none none)=some (.sl (k.cut l.length n l.length) ((l.drop n).map eB),Hx):=fun R Hx a b ha hb=>by
 have:=GH (Hx:=Hx) (lo:=some (.r b)) (hi:=none) (a:=n) (b:=l.length) ha (by simp -implicitDefEqProofs only[gg,hb,aa]) rfl h (Nat.le_refl _)
 simpa using this
theorem Cc {k:SK}{l:List Nat}(h:4≤l.length):∀R Hx a,(X.r a).ev R=.sl k (l.map eB)→ak R Hx (.gm 1 (.r a) (some (.c (.int .i64 4))) none none)=some (.sl (k.cut l.length 4 l.length) ((l.drop 4).map eB),Hx):=fun R Hx a ha=>by
 have:=GH (Hx:=Hx) (lo:=some (.c (.int .i64 4))) (hi:=none) (a:=4) (b:=l.length) ha rfl rfl h (Nat.le_refl _)
 simpa using this
theorem Ko {k:SK}{l:List Nat}{n:Nat}(h:4+n≤l.length):∀R Hx a b,(X.r a).ev R=.sl k (l.map eB)→(X.r b).ev R=.int .i64 ((4+n:Nat):Int)→ak R Hx (.gm 1 (.r a) (some (.c (.int .i64 4))) (some (.r b)) none)=some (.sl (k.cut l.length 4 (4+n)) (((l.drop 4).take n).map eB),Hx):=fun R Hx a b ha hb=>by
 have:=GH (Hx:=Hx) (lo:=some (.c (.int .i64 4))) (hi:=some (.r b)) (a:=4) (b:=4+n) ha rfl (by simp -implicitDefEqProofs only[gg,hb,aa]) (by omega) h
 have e:(l.take (4+n)).drop 4=(l.drop 4).take n:=by rw[List.drop_take];congr 1;omega
 rw[e]at this
 exact this
theorem Z1 {v:Nat}(h:v*256<18446744073709551616):IntKind.u64.wrap ((v:Int)*2^(min (8:Int).toNat IntKind.u64.bits))=((v*256:Nat):Int):=by
 have e:(v:Int)*2^(min (8:Int).toNat IntKind.u64.bits)=((v*256:Nat):Int):=by
  show(v:Int)*256=_
  simp
 rw[e,fN h]
theorem or8 {v c:Nat}(h:v*256<18446744073709551616)(hc:c<256):IntKind.u64.wrap ((BitVec.ofInt IntKind.u64.bits ((v*256:Nat):Int) ||| BitVec.ofInt IntKind.u64.bits (c:Int)).toNat:Nat)=((v*256+c:Nat):Int):=by
 have e:(BitVec.ofInt IntKind.u64.bits ((v*256:Nat):Int) ||| BitVec.ofInt IntKind.u64.bits (c:Int)).toNat=v*256 ||| c:=T1 64 _ _ h (by omega)
 have e2:v*256 ||| c=v*256+c:=by
  rw[Nat.mul_comm]
  exact(Nat.two_pow_add_eq_or_of_lt (i:=8) (by omega) v).symm
 rw[e,e2,fN (by omega)]
theorem GI (l:List Nat)(c:Nat):mU 0 (l++[c])=mU 0 l*256+c:=by simp[mU]
def Vy (H:af)(c n:Nat)(l:List Nat):Out→af→Prop:=fun o H'=>match pN n l with
 | none=>o=.val (.bN [.int .u64 0,.bool false])∧RD H' c none∧bl (fun b=>b=c) H H'
 | some (v,_)=>o=.val (.bN [.int .u64 v,.bool true])∧H'=H
theorem LW {H:af}{c:Nat}(h:RD H c none)(n:Nat):W env (.call 115 [.ptr c 0,.int .i64 n]) H (fun o H'=>o=.val (.bN [.int .u64 0,.bool false])∧H'=H):=by
 obtain⟨k,rest,e,h1,h2,h3,h4⟩:=h.bad
 have e1:(e==0)=false:=by simpa using h4
 have e2:(e != 0)=true:=by simpa using h4
 refine W.bS rfl rfl rfl ?_
 simp -implicitDefEqProofs only[w6,op,ef,cl,sq,reduceIte,j4,j5,j6,j7,j8,j9,y1,y2,y3,S1,h1,e1,e2]
theorem AA {H:af}{c:Nat}{l:List Nat}(h:RD H c (some l))(n:Nat)(hn:n≤8):W env (.call 115 [.ptr c 0,.int .i64 n]) H (Vy H c n l):=by
 obtain⟨k,h1,h2,h3⟩:=h.ok
 have lc:=aW h1
 refine W.bS rfl rfl rfl ?_
 unfold Vy pN
 by_cases hs:l.length<n
 ·have fb:decide ((l.length:Int)<(n:Int))=true:=by simp;omega
  rw[if_pos hs]
  simp -implicitDefEqProofs only[w6,op,ef,cl,sq,reduceIte,j4,j5,j6,j7,j8,j9,y1,y2,y3,S1,h1,List.length_map,hs,fb,lc,S2]
  exact⟨RD.Vx (bT lc) h2 h3 (by decide),bl.set (F:=fun b=>b=c) (bl.refl _ _) (.inl rfl) _⟩
 ·rw[if_neg hs]
  have fb:decide ((l.length:Int)<(n:Int))=false:=by simp;omega
  have BW:=rA (k:=k) (l:=l) (n:=n) (by omega)
  obtain⟨lt,ax⟩:∃lt,lt=l.take n:=⟨_,rfl⟩
  have aeg:lt.length=n:=by rw[ax,List.length_take];omega
  have Uc:dt lt:=by rw[ax];exact h3.take n
  rw[←ax]at BW ⊢
  simp -implicitDefEqProofs only[w6,op,ef,cl,sq,reduceIte,j4,j5,j6,j7,j8,j9,y1,y2,y3,S1,h1,List.length_map,hs,fb,↓BW]
  refine W.gu 0 [(36,_),(37,_)] (fun (i:Nat) R H'=>H'=H∧R 6=.int .u64 (mU 0 (lt.take i):Nat)∧R 38=.int .i64 i∧i≤lt.length) (fun i=>lt.length-i) 0
   (fun R H'=>H'=H∧R 6=.int .u64 (mU 0 lt:Nat)) ⟨rfl,rfl,rfl,Nat.zero_le _⟩ ?_ ?_
  ·rintro i R H1⟨rfl,g6,g38,hi⟩
   by_cases Bb:i<lt.length
   rotate_left
   ·have nk:i=lt.length:=by omega
    rw[nk,List.take_length]at g6
    simp -implicitDefEqProofs only[aq,aj,op,ef,cl,sq,reduceIte,j4,j5,j6,j7,j8,j9,y1,y2,y3,S1,List.length_map,g6,g38,Bb,dr]
   obtain⟨x,hx⟩:=cB Bb
   have GJ:=Uc x (List.mem_of_getElem? hx)
   have ix:=iT (e:=eB) (n:=1) (fun _=>rfl) (by decide) (k:=k.cut l.length 0 n) hx
   have qc:=aU (show i<9223372036854775807 by omega)
   have kb:mU 0 (lt.take i)*256<18446744073709551616:=by
    have h5:=uU (lt.take i) 0 (Uc.take i)
    have h6:(lt.take i).length≤7:=by rw[List.length_take];omega
    have h7:256^(lt.take i).length≤256^7:=Nat.pow_le_pow_right (by decide) h6
    have h8:(256:Nat)^7=72057594037927936:=by decide
    omega
   have wx:=fN (n:=x) (by omega)
   have a1:=Z1 kb
   have a2:=or8 kb GJ
   have n8:¬((8:Int)<0):=by decide
   simp -implicitDefEqProofs only[aq,aj,op,ef,cl,sq,reduceIte,j4,j5,j6,j7,j8,j9,y1,y2,y3,S1,List.length_map,g6,g38,Bb,aa,ix,eB,fo,n8,a1,wx,a2,qc]
   exact⟨i+1,by omega,by rw[fJ hx,GI],rfl,Bb⟩
  rintro R H1⟨rfl,g6⟩
  simp -implicitDefEqProofs only[aq,aj,op,ef,cl,sq,reduceIte,j4,j5,j6,j7,j8,j9,y1,y2,y3,S1,g6]
def P3 (c:Nat)(t:T)(st:Option (List Nat))(H:af):Out→af→Prop:=fun o H'=>o=.val t∧RD H' c st∧bl (fun b=>b=c) H H'
def eg (n:Nat):Option (List Nat)→Nat×Option (List Nat)
 | none=>(0,none)
 | some l=>match pN n l with
  | none=>(0,none)
  | some (v,r)=>(v,some r)
theorem GK {n:Nat}{st:Option (List Nat)}(hb:∀l,st=some l→dt l):(eg n st).1<256^n:=by
 have hp:0<256^n:=Nat.pow_pos (by decide)
 cases st with
 | none=>exact hp
 | some l =>
  unfold eg
  simp only
  cases h:pN n l with
  | none=>exact hp
  | some x=>exact(iV (hb l rfl) h).2.1
theorem rC {H:af}{c:Nat}{st:Option (List Nat)}(h:RD H c st)(n:Nat)(hn:n≤8):W env (.call 89 [.ptr c 0,.int .i64 n]) H (P3 c (.int .u64 (eg n st).1) (eg n st).2 H):=by
 refine W.bS rfl rfl rfl ?_
 simp -implicitDefEqProofs only[NX,op,ef,cl,sq,reduceIte,j4,j5,j6,j7,j8,j9,y1,y2,y3,S1]
 cases st with
 | none =>
  refine ae _ _ _ _ _ _ _ _ (LW h n) ?_
  rintro u H1⟨hu,rfl⟩
  cases hu
  simp -implicitDefEqProofs only[op,ef,cl,sq,reduceIte,j4,j5,j6,j7,j8,j9,y1,y2,y3,S1]
  exact⟨rfl,h,bl.refl _ _⟩
 | some l =>
  obtain⟨k,h1,h2,h3⟩:=h.ok
  have lc:=aW h1
  refine ae _ _ _ _ _ _ _ _ (AA h n hn) ?_
  intro u H1 hq
  unfold Vy at hq
  cases hp:pN n l with
  | none =>
   have es:eg n (some l)=(0,none):=by simp -implicitDefEqProofs only[eg,hp]
   rw[hp]at hq
   rw[es]
   obtain⟨hu,hr,hk⟩:=hq
   cases hu
   simp -implicitDefEqProofs only[op,ef,cl,sq,reduceIte,j4,j5,j6,j7,j8,j9,y1,y2,y3,S1]
   exact⟨rfl,hr,hk⟩
  | some x =>
   obtain⟨v,r⟩:=x
   have es:eg n (some l)=(v,some r):=by simp -implicitDefEqProofs only[eg,hp]
   rw[hp]at hq
   rw[es]
   obtain⟨hu,rfl⟩:=hq
   cases hu
   have Hf:n≤l.length:=by
    unfold pN at hp;split at hp
    ·cases hp
    ·omega
   have hr:r=l.drop n:=by
    unfold pN at hp;rw[if_neg (by omega)]at hp
    simp -implicitDefEqProofs only[Option.some.injEq,Prod.mk.injEq]at hp;exact hp.2.symm
   have BW:=rB (k:=k) Hf
   simp -implicitDefEqProofs only[op,ef,cl,sq,reduceIte,j4,j5,j6,j7,j8,j9,y1,y2,y3,S1,h1,lc,↓BW,S2]
   subst hr
   refine⟨rfl,RD.Vw (k:=k.cut l.length n l.length) (bT lc) (by rw[List.length_drop];omega) (h3.drop n),bl.set (F:=fun b=>b=c) (bl.refl _ _) (.inl rfl) _⟩
theorem RD.byt {H:af}{c:Nat}{st:Option (List Nat)}(h:RD H c st):∀l,st=some l→dt l:=fun l e=>by subst e;obtain⟨_,_,_,h⟩:=h.ok;exact h
theorem Z2 {H:af}{c:Nat}{st:Option (List Nat)}(h:RD H c st):W env (.call 49 [.ptr c 0]) H (P3 c (.int .u32 (eg 4 st).1) (eg 4 st).2 H):=by
 have ax:(eg 4 st).1<4294967296:=GK (n:=4) h.byt
 have wv:=wrap32 ax
 refine W.bS rfl rfl rfl ?_
 simp -implicitDefEqProofs only[NC,op,ef,cl,sq,reduceIte,j4,j5,j6,j7,j8,j9,y1,y2,y3,S1]
 refine ae _ _ _ _ _ _ _ _ (rC h 4 (by decide)) ?_
 rintro u H1⟨hu,hr,hk⟩
 cases hu
 simp -implicitDefEqProofs only[op,ef,cl,sq,reduceIte,j4,j5,j6,j7,j8,j9,y1,y2,y3,S1,wv]
 exact⟨rfl,hr,hk⟩
theorem Z3 {H:af}{c:Nat}{st:Option (List Nat)}(h:RD H c st):W env (.call 50 [.ptr c 0]) H (P3 c (.int .u8 (eg 1 st).1) (eg 1 st).2 H):=by
 have ax:(eg 1 st).1<256:=GK (n:=1) h.byt
 have wv:=w7 ax
 refine W.bS rfl rfl rfl ?_
 simp -implicitDefEqProofs only[ND,op,ef,cl,sq,reduceIte,j4,j5,j6,j7,j8,j9,y1,y2,y3,S1]
 refine ae _ _ _ _ _ _ _ _ (rC h 1 (by decide)) ?_
 rintro u H1⟨hu,hr,hk⟩
 cases hu
 simp -implicitDefEqProofs only[op,ef,cl,sq,reduceIte,j4,j5,j6,j7,j8,j9,y1,y2,y3,S1,wv]
 exact⟨rfl,hr,hk⟩
theorem OW {H:af}{c:Nat}{st:Option (List Nat)}(h:RD H c st):W env (.call 51 [.ptr c 0]) H (P3 c (.int .u64 (eg 8 st).1) (eg 8 st).2 H):=by
 refine W.bS rfl rfl rfl ?_
 simp -implicitDefEqProofs only[NF,op,ef,cl,sq,reduceIte,j4,j5,j6,j7,j8,j9,y1,y2,y3,S1]
 refine ae _ _ _ _ _ _ _ _ (rC h 8 (by decide)) ?_
 rintro u H1⟨hu,hr,hk⟩
 cases hu
 simp -implicitDefEqProofs only[op,ef,cl,sq,reduceIte,j4,j5,j6,j7,j8,j9,y1,y2,y3,S1]
 exact⟨rfl,hr,hk⟩
def pC (m:Nat)(l:List Nat):Option (Nat×List Nat):=match pN 4 l with
 | none=>none
 | some (v,r)=>if m<v then none else some (v,r)
def Vz (H:af)(c m:Nat)(l:List Nat):Out→af→Prop:=fun o H'=>match pC m l with
 | none=>o=.val (.bN [.int .i64 0,.bool false])∧RD H' c none∧bl (fun b=>b=c) H H'
 | some (v,_)=>o=.val (.bN [.int .i64 v,.bool true])∧H'=H
theorem xz {H:af}{c:Nat}(h:RD H c none)(m:Nat)(hm:m<9223372036854775808):W env (.call 90 [.ptr c 0,.int .i64 m]) H (fun o H'=>o=.val (.bN [.int .i64 0,.bool false])∧H'=H):=by
 refine W.bS rfl rfl rfl ?_
 simp -implicitDefEqProofs only[Jv,op,ef,cl,sq,reduceIte,j4,j5,j6,j7,j8,j9,y1,y2,y3,S1]
 refine ae _ _ _ _ _ _ _ _ (LW h 4) ?_
 rintro u H1⟨hu,rfl⟩
 cases hu
 have w0:IntKind.i64.wrap 0=0:=rfl
 simp -implicitDefEqProofs only[op,ef,cl,sq,reduceIte,j4,j5,j6,j7,j8,j9,y1,y2,y3,S1,w0]
theorem tR {H:af}{c:Nat}{l:List Nat}(h:RD H c (some l))(m:Nat)(hm:m<9223372036854775808):W env (.call 90 [.ptr c 0,.int .i64 m]) H (Vz H c m l):=by
 obtain⟨k,h1,h2,h3⟩:=h.ok
 have lc:=aW h1
 refine W.bS rfl rfl rfl ?_
 simp -implicitDefEqProofs only[Jv,op,ef,cl,sq,reduceIte,j4,j5,j6,j7,j8,j9,y1,y2,y3,S1]
 refine ae _ _ _ _ _ _ _ _ (AA h 4 (by decide)) ?_
 intro u H1 hq
 unfold Vy at hq
 unfold Vz pC
 cases hp:pN 4 l with
 | none =>
  rw[hp]at hq
  obtain⟨hu,hr,hk⟩:=hq
  cases hu
  have w0:IntKind.i64.wrap 0=0:=rfl
  simp -implicitDefEqProofs only[op,ef,cl,sq,reduceIte,j4,j5,j6,j7,j8,j9,y1,y2,y3,S1,w0]
  exact⟨hr,hk⟩
 | some x =>
  obtain⟨v,r⟩:=x
  rw[hp]at hq
  obtain⟨hu,rfl⟩:=hq
  cases hu
  have hv:=(iV h3 hp).2.1
  have hv:v<4294967296:=hv
  have e0:(if (0:Int)>(m:Int)then(0:Int)else(m:Int))=(m:Int):=if_neg (by omega)
  have wm:=fN (n:=m) (by omega)
  by_cases hb:m<v
  ·have e1:decide ((v:Int)>(m:Int))=true:=by simp;omega
   simp -implicitDefEqProofs only[op,ef,cl,sq,reduceIte,j4,j5,j6,j7,j8,j9,y1,y2,y3,S1,e0,wm,e1,h1,lc,S2,hb]
   exact⟨RD.Vx (bT lc) h2 h3 (by decide),bl.set (F:=fun b=>b=c) (bl.refl _ _) (.inl rfl) _⟩
  ·have e1:decide ((v:Int)>(m:Int))=false:=by simp;omega
   have wv:IntKind.i64.wrap (v:Int)=(v:Int):=wrap64 (by omega)
   simp -implicitDefEqProofs only[op,ef,cl,sq,reduceIte,j4,j5,j6,j7,j8,j9,y1,y2,y3,S1,e0,wm,e1,hb,wv]
end Go.Proofs.YtdcpehdijdllpaaGreat.St
end
