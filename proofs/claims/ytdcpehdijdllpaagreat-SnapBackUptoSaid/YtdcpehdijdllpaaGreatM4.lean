/- Part of a proof of a law of this seat: the machine of plain values, its simulation, and the contracts of the functions that the law reaches. Conditions: none beyond the given row. -/
import Derived.Test.YtdcpehdijdllpaaGreatM3
open Int renaming reduceLT → j4, reduceLE → j5, reduceBEq → j6, reduceBNe → j7, reduceEq → j8
open Nat renaming reduceAdd → j9, reduceLeDiff → y1, reduceLT → y2, reduceEqDiff → y3
set_option linter.unusedSimpArgs false
set_option linter.unusedVariables false
set_option linter.unnecessarySimpa false
set_option maxHeartbeats 4000000
section
namespace Go.Proofs.YtdcpehdijdllpaaGreat.St
open Go.Rmp Go.Proofs.YtdcpehdijdllpaaGreat.Ir
set_option maxRecDepth 10000
set_option maxHeartbeats 8000000
section
variable {c n i j:Nat} {d:Array ByteArray}
theorem aD (h:i<n):dE 1 i (.ax c 0 n 1)=some (.ptr c (i*1)):=by rw[jV];simp[h]
theorem nP {l:List ByteArray}:(aJ eS l).length=l.length*1:=by rw[du (n:=1) (fun _=>rfl)]
theorem aE (h:i<d.size):(i*1+1≤(aJ eS d.toList).length)=True:=by rw[nP];simp;omega
theorem aF (h:i<d.size):List.take 1 (List.drop (i*1) (aJ eS d.toList))=[.str d[i]!]:=by
 have:=yK h
 rw[mH,if_pos (by rw[nP];simp;omega)]at this
 exact Option.some.inj this
theorem aG {x:ByteArray}(h:i<d.size):(i*1+1≤(aJ eS (d.toList.set j x)).length)=True:=by rw[nP];simp;omega
theorem aH (h:i<d.size)(h':j<d.size):(List.take (i*1) (aJ eS d.toList)++[.str d[j]!])++List.drop (i*1+1) (aJ eS d.toList)=aJ eS (d.toList.set i d[j]!):=by
 have:=(qZ (Hx:=[.cells []]) (c:=0) d h h').1
 rw[gY,if_pos (by rw[nP];simp;omega)]at this
 simpa using this
theorem aI (h:i<d.size)(h':j<d.size):(List.take (j*1) (aJ eS (d.toList.set i d[j]!))++[.str d[i]!])++List.drop (j*1+1) (aJ eS (d.toList.set i d[j]!))=aJ eS (Go.Sort.swp d i j).toList:=by
 have:=(qZ (Hx:=[.cells []]) (c:=0) d h h').2 [.cells []]
 rw[gY,if_pos (by rw[nP];simp;omega)]at this
 simpa using this
end
open Go.Sort in
def hJ (c n:Nat)(H:af)(P:Array ByteArray→Prop)(H':af):Prop:=∃d:Array ByteArray,H'[c]?=some (.cells (aJ eS d.toList))∧d.size=n∧P d∧bh (fun x=>x=c) H H'
open Go.Sort in
theorem hJ.swp {c n:Nat}{H H1:af}{P:Array ByteArray→Prop}{y x:B}{d':Array ByteArray}(hd:H1[c]?=some y)(hs:d'.size=n)(hP:P d')(hf:bh (fun x=>x=c) H H1):hJ c n H P ((H1.set c x).set c (.cells (aJ eS d'.toList))) :=
 ⟨d',bU (by rw[List.length_set];exact aW hd),hs,hP,(hf.set (.inl rfl) _).set (.inl rfl) _⟩
open Go.Sort in
def ra (c n:Nat)(d':Array ByteArray)(H:af):Out→af→Prop:=fun o H'=>o=.val (.bF [])∧hJ c n H (fun x=>x=d') H'
open Go.Sort in
theorem Tp (c n:Nat)(d:Array ByteArray)(a b:Nat)(H:af)(hn:d.size=n)(hc:H[c]?=some (.cells (aJ eS d.toList)))(hb:b≤n)(gb:a<b)(hs:n<4611686018427387903) :
  W env (.call 146 [.ax c 0 n 1,.int .i64 a,.int .i64 b]) H (ra c n (reverseRange d a b) H):=by
 refine W.bR rfl rfl rfl ?_
 simp -implicitDefEqProofs (maxSteps:=1000000) (disch:=omega) only[Fs,op,ef,cl,sq,reduceIte,j4,j5,j6,j7,j8,j9,y1,y2,y3,S1,aY]
 refine W.cG (fun (i:Nat) R H'=>At H' (fun H'=>∃j,R 7=.int .i64 (j:Nat)∧i+j=a+b-1∧a≤i∧hJ c n H (fun di=>reverseLoop i j di=reverseRange d a b) H')∧R 0=.ax c 0 n 1∧R 6=.int .i64 i) (fun i=>a+b-i) a ⟨.i ⟨b-1,rfl,by omega,Nat.le_refl _,d,hc,hn,rfl,bh.refl _ _⟩,rfl,rfl⟩ ?_
 rintro i R H1⟨⟨j,h9,qQ,FX,di,hd,a6,yB,aq⟩,h0,h8⟩
 have lc:=aW hd
 by_cases au:i<j
 ·simp -implicitDefEqProofs (maxSteps:=1000000) (disch:=omega) only[aa,aD,aE,aF,aG,aH,aI,wA,aZ,wS,aY,wM,S2,op,ef,cl,sq,reduceIte,j4,j5,j6,j7,j8,j9,y1,y2,y3,S1,h0,h8,h9,au,hd,lc]
  exact⟨i+1,by omega,.i ⟨j-1,rfl,by omega,by omega,.swp hd (by rw[swp_size];exact a6) (by rw[←yB];conv=>{ rhs;rw[reverseLoop,if_pos au] }) aq⟩,rfl⟩
 ·simp -implicitDefEqProofs only[op,ef,cl,sq,reduceIte,j4,j5,j6,j7,j8,j9,y1,y2,y3,S1,h0,h8,h9,au]
  rw[reverseLoop,if_neg au]at yB
  exact⟨rfl,di,hd,a6,yB,aq⟩
open Go.Sort in
theorem Ao (c n:Nat)(d:Array ByteArray)(lo hi first:Nat)(H:af)(hn:d.size=n)(hc:H[c]?=some (.cells (aJ eS d.toList)))(hb:first+hi≤n)(n5:lo≤n)(hs:n<2305843009213693951) :
  W env (.call 158 [.ax c 0 n 1,.int .i64 lo,.int .i64 hi,.int .i64 first]) H (ra c n (siftDown strLt hi first lo d) H):=by
 refine W.bR rfl rfl rfl ?_
 simp -implicitDefEqProofs only[FE,op,ef,cl,sq,reduceIte,j4,j5,j6,j7,j8,j9,y1,y2,y3,S1]
 refine W.cG (fun (r:Nat) R H'=>At H' (fun H'=>hJ c n H (fun di=>siftDown strLt hi first r di=siftDown strLt hi first lo d) H')∧R 0=.ax c 0 n 1∧R 2=.int .i64 hi∧R 3=.int .i64 first∧R 0=.ax c 0 n 1∧R 8=.int .i64 r∧r≤n) (fun r=>hi-r) lo ⟨.i ⟨d,hc,hn,rfl,bh.refl _ _⟩,rfl,rfl,rfl,rfl,rfl,n5⟩ ?_
 rintro r R H1⟨⟨di,hd,a6,hP,aq⟩,h0,h2,h3,h4,aB,hr⟩
 have lc:=aW hd
 by_cases dY:2*r+1≥hi
 ·simp -implicitDefEqProofs (maxSteps:=1000000) (disch:=omega) only[aa,aD,aE,aF,aG,aH,aI,wA,aZ,wS,aY,wM,S2,op,ef,cl,sq,reduceIte,j4,j5,j6,j7,j8,j9,y1,y2,y3,S1,h0,h2,h3,h4,aB,dY]
  rw[siftDown,dif_pos dY]at hP
  exact⟨rfl,di,hd,a6,hP,aq⟩
 by_cases dh:2*r+1+1<hi
 ·simp -implicitDefEqProofs (maxSteps:=1000000) (disch:=omega) only[aa,aD,aE,aF,aG,aH,aI,wA,aZ,wS,aY,wM,S2,op,ef,cl,sq,reduceIte,j4,j5,j6,j7,j8,j9,y1,y2,y3,S1,h0,h2,h3,h4,aB,dY,dh,hd,lc]
  refine ae _ _ _ _ _ _ _ _ (dI di[first+(2*r+1)]! di[first+(2*r+1)+1]! _) ?_
  rintro u H2⟨hu,jv⟩
  cases hu
  have hx:Ext H1 H2:=by rw[jv];exact Ext.rfl'
  have hd:=hx.get hd
  have lc:=aW hd
  have aq:=aq.trans (ay (F:=fun _=>False) hx) (fun _ h=>h.elim)
  have cY:strLt di[first+(2*r+1)]! di[first+(2*r+1)+1]! = decide (strLt di[first+(2*r+1)]! di[first+(2*r+1)+1]! = true):=by simp
  by_cases c1:strLt di[first+(2*r+1)]! di[first+(2*r+1)+1]! = true
  ·simp -implicitDefEqProofs (maxSteps:=1000000) (disch:=omega) only[aa,aD,aE,aF,aG,aH,aI,wA,aZ,wS,aY,wM,S2,op,ef,cl,sq,reduceIte,j4,j5,j6,j7,j8,j9,y1,y2,y3,S1,h0,h2,h3,h4,aB,dY,dh,hd,lc,c1]
   refine ae _ _ _ _ _ _ _ _ (dI di[first+r]! di[first+(2*r+1+1)]! _) ?_
   rintro u H3⟨hu,jv⟩
   cases hu
   have hx:Ext H2 H3:=by rw[jv];exact Ext.rfl'
   have hd:=hx.get hd
   have lc:=aW hd
   have aq:=aq.trans (ay (F:=fun _=>False) hx) (fun _ h=>h.elim)
   have xc:strLt di[first+r]! di[first+(2*r+1+1)]! = decide (strLt di[first+r]! di[first+(2*r+1+1)]! = true):=by simp
   by_cases c2:strLt di[first+r]! di[first+(2*r+1+1)]! = true
   ·simp -implicitDefEqProofs (maxSteps:=1000000) (disch:=omega) only[aa,aD,aE,aF,aG,aH,aI,wA,aZ,wS,aY,wM,S2,op,ef,cl,sq,reduceIte,j4,j5,j6,j7,j8,j9,y1,y2,y3,S1,h0,h2,h3,h4,aB,dY,dh,hd,lc,c2]
    refine⟨2*r+1+1,by omega,.i (.swp hd (by rw[swp_size];exact a6) ?_ aq),rfl,by omega⟩
    rw[←hP]
    conv=>{ rhs;rw[siftDown,dif_neg dY,if_pos (fG (cn dh) (cY.trans (cn c1))),if_neg (jX (xc.trans (cn c2))),dif_pos dh] }
   ·simp -implicitDefEqProofs (maxSteps:=1000000) (disch:=omega) only[aa,aD,aE,aF,aG,aH,aI,wA,aZ,wS,aY,wM,S2,op,ef,cl,sq,reduceIte,j4,j5,j6,j7,j8,j9,y1,y2,y3,S1,h0,h2,h3,h4,aB,dY,dh,hd,lc,c2]
    rw[siftDown,dif_neg dY,if_pos (fG (cn dh) (cY.trans (cn c1))),if_pos (fg (xc.trans (cf c2)))]at hP
    exact⟨rfl,di,hd,a6,hP,aq⟩
  ·simp -implicitDefEqProofs (maxSteps:=1000000) (disch:=omega) only[aa,aD,aE,aF,aG,aH,aI,wA,aZ,wS,aY,wM,S2,op,ef,cl,sq,reduceIte,j4,j5,j6,j7,j8,j9,y1,y2,y3,S1,h0,h2,h3,h4,aB,dY,dh,hd,lc,c1]
   refine ae _ _ _ _ _ _ _ _ (dI di[first+r]! di[first+(2*r+1)]! _) ?_
   rintro u H3⟨hu,jv⟩
   cases hu
   have hx:Ext H2 H3:=by rw[jv];exact Ext.rfl'
   have hd:=hx.get hd
   have lc:=aW hd
   have aq:=aq.trans (ay (F:=fun _=>False) hx) (fun _ h=>h.elim)
   have xc:strLt di[first+r]! di[first+(2*r+1)]! = decide (strLt di[first+r]! di[first+(2*r+1)]! = true):=by simp
   by_cases c2:strLt di[first+r]! di[first+(2*r+1)]! = true
   ·simp -implicitDefEqProofs (maxSteps:=1000000) (disch:=omega) only[aa,aD,aE,aF,aG,aH,aI,wA,aZ,wS,aY,wM,S2,op,ef,cl,sq,reduceIte,j4,j5,j6,j7,j8,j9,y1,y2,y3,S1,h0,h2,h3,h4,aB,dY,dh,hd,lc,c2]
    refine⟨2*r+1,by omega,.i (.swp hd (by rw[swp_size];exact a6) ?_ aq),rfl,by omega⟩
    rw[←hP]
    conv=>{ rhs;rw[siftDown,dif_neg dY,if_neg (dJ (cY.trans (cf c1))),if_neg (jX (xc.trans (cn c2)))] }
   ·simp -implicitDefEqProofs (maxSteps:=1000000) (disch:=omega) only[aa,aD,aE,aF,aG,aH,aI,wA,aZ,wS,aY,wM,S2,op,ef,cl,sq,reduceIte,j4,j5,j6,j7,j8,j9,y1,y2,y3,S1,h0,h2,h3,h4,aB,dY,dh,hd,lc,c2]
    rw[siftDown,dif_neg dY,if_neg (dJ (cY.trans (cf c1))),if_pos (fg (xc.trans (cf c2)))]at hP
    exact⟨rfl,di,hd,a6,hP,aq⟩
 ·simp -implicitDefEqProofs (maxSteps:=1000000) (disch:=omega) only[aa,aD,aE,aF,aG,aH,aI,wA,aZ,wS,aY,wM,S2,op,ef,cl,sq,reduceIte,j4,j5,j6,j7,j8,j9,y1,y2,y3,S1,h0,h2,h3,h4,aB,dY,dh,hd,lc]
  try simp -implicitDefEqProofs only[op,ef,cl,sq,reduceIte,j4,j5,j6,j7,j8,j9,y1,y2,y3,S1]
  try simp -implicitDefEqProofs (maxSteps:=1000000) (disch:=omega) only[aa,aD,aE,aF,aG,aH,aI,wA,aZ,wS,aY,wM,S2,op,ef,cl,sq,reduceIte,j4,j5,j6,j7,j8,j9,y1,y2,y3,S1,h0,h2,h3,h4,aB,dY,dh,hd,lc]
  refine ae _ _ _ _ _ _ _ _ (dI di[first+r]! di[first+(2*r+1)]! _) ?_
  rintro u H3⟨hu,jv⟩
  cases hu
  have hx:Ext H1 H3:=by rw[jv];exact Ext.rfl'
  have hd:=hx.get hd
  have lc:=aW hd
  have aq:=aq.trans (ay (F:=fun _=>False) hx) (fun _ h=>h.elim)
  have xc:strLt di[first+r]! di[first+(2*r+1)]! = decide (strLt di[first+r]! di[first+(2*r+1)]! = true):=by simp
  by_cases c2:strLt di[first+r]! di[first+(2*r+1)]! = true
  ·simp -implicitDefEqProofs (maxSteps:=1000000) (disch:=omega) only[aa,aD,aE,aF,aG,aH,aI,wA,aZ,wS,aY,wM,S2,op,ef,cl,sq,reduceIte,j4,j5,j6,j7,j8,j9,y1,y2,y3,S1,h0,h2,h3,h4,aB,dY,dh,hd,lc,c2]
   refine⟨2*r+1,by omega,.i (.swp hd (by rw[swp_size];exact a6) ?_ aq),rfl,by omega⟩
   rw[←hP]
   conv=>{ rhs;rw[siftDown,dif_neg dY,if_neg (dg (cf dh)),if_neg (jX (xc.trans (cn c2)))] }
  ·simp -implicitDefEqProofs (maxSteps:=1000000) (disch:=omega) only[aa,aD,aE,aF,aG,aH,aI,wA,aZ,wS,aY,wM,S2,op,ef,cl,sq,reduceIte,j4,j5,j6,j7,j8,j9,y1,y2,y3,S1,h0,h2,h3,h4,aB,dY,dh,hd,lc,c2]
   rw[siftDown,dif_neg dY,if_neg (dg (cf dh)),if_pos (fg (xc.trans (cf c2)))]at hP
   exact⟨rfl,di,hd,a6,hP,aq⟩
open Go.Sort in
theorem OF (c n:Nat)(d:Array ByteArray)(a b:Nat)(H:af)(hn:d.size=n)(hc:H[c]?=some (.cells (aJ eS d.toList)))(hb:b≤n)(gb:a<b)(hs:n<2305843009213693951) :
  W env (.call 143 [.ax c 0 n 1,.int .i64 a,.int .i64 b]) H (ra c n (heapSort strLt d a b) H):=by
 refine W.bR rfl rfl rfl ?_
 simp -implicitDefEqProofs (maxSteps:=1000000) (disch:=omega) only[Fp,aa,aD,aE,aF,aG,aH,aI,wA,aZ,wS,aY,wM,S2,op,ef,cl,sq,reduceIte,j4,j5,j6,j7,j8,j9,y1,y2,y3,S1,wQ2]
 refine W.cN 0 (fun (k:Nat) R H'=>At H' (fun H'=>hJ c n H (fun di=>heapBuild strLt (b-a) a k di=heapBuild strLt (b-a) a ((b-a-1)/2+1) d) H')∧R 0=.ax c 0 n 1∧R 0=.ax c 0 n 1∧R 6=.int .i64 a∧R 7=.int .i64 0∧R 8=.int .i64 (b-a:Nat)∧R 9=.int .i64 ((k:Int)-1)∧k≤b-a) (fun k=>k) ((b-a-1)/2+1)
  (fun R H'=>At H' (fun H'=>hJ c n H (fun di=>di=heapBuild strLt (b-a) a ((b-a-1)/2+1) d) H')∧R 0=.ax c 0 n 1∧R 0=.ax c 0 n 1∧R 6=.int .i64 a∧R 7=.int .i64 0∧R 8=.int .i64 (b-a:Nat))
  ⟨.i ⟨d,hc,hn,rfl,bh.refl _ _⟩,rfl,rfl,rfl,rfl,rfl,by simp[nX],by omega⟩ ?_ ?_
 ·rintro k R H1⟨⟨di,hd,a6,hP,aq⟩,h0,h3,h8,h9,aB,a0,hk⟩
  cases k with
  | zero =>
   rw[show(((0:Nat):Int)-1)=-1 from rfl]at a0
   simp -implicitDefEqProofs (maxSteps:=1000000) (disch:=omega) only[aa,aD,aE,aF,aG,aH,aI,wA,aZ,wS,aY,wM,S2,op,ef,cl,sq,reduceIte,j4,j5,j6,j7,j8,j9,y1,y2,y3,S1,h0,h3,h8,h9,aB,a0]
   exact .i ⟨di,hd,a6,hP,aq⟩
  | succ k =>
   rw[show(((k+1:Nat):Int)-1)=(k:Int) by omega]at a0
   simp -implicitDefEqProofs (maxSteps:=1000000) (disch:=omega) only[aa,aD,aE,aF,aG,aH,aI,wA,aZ,wS,aY,wM,S2,op,ef,cl,sq,reduceIte,j4,j5,j6,j7,j8,j9,y1,y2,y3,S1,h0,h3,h8,h9,aB,a0,JF]
   refine ae _ _ _ _ _ _ _ _ (Ao c n di k (b-a) a _ a6 hd (by omega) (by omega) hs) ?_
   rintro u H2⟨hu,d2,cu,gZ,rfl,dN⟩
   cases hu
   simp -implicitDefEqProofs (maxSteps:=1000000) (disch:=omega) only[Vo,op,ef,cl,sq,reduceIte,j4,j5,j6,j7,j8,j9,y1,y2,y3,S1,h0,h3,h8,h9,aB,a0]
   exact⟨k,by omega,.i ⟨_,cu,gZ,hP,aq.trans dN fun _ h=>.inl h⟩,rfl,by omega⟩
 ·rintro R H1⟨⟨di,hd,a6,hP,aq⟩,h0,h3,h8,h9,aB⟩
  simp -implicitDefEqProofs (maxSteps:=1000000) (disch:=omega) only[aa,aD,aE,aF,aG,aH,aI,wA,aZ,wS,aY,wM,S2,op,ef,cl,sq,reduceIte,j4,j5,j6,j7,j8,j9,y1,y2,y3,S1,h0,h3,h8,h9,aB]
  refine W.cG (fun (k:Nat) R H'=>At H' (fun H'=>hJ c n H (fun di=>heapPop strLt a k di=heapSort strLt d a b) H')∧R 0=.ax c 0 n 1∧R 0=.ax c 0 n 1∧R 6=.int .i64 a∧R 7=.int .i64 0∧R 8=.int .i64 (b-a:Nat)∧R 10=.int .i64 ((k:Int)-1)∧k≤b-a) (fun k=>k) (b-a) ⟨.i ⟨di,hd,a6,by rw[hP];rfl,aq⟩,?_,?_,?_,?_,?_,?_,Nat.le_refl _⟩ ?_
  ·simp -implicitDefEqProofs only[op,ef,cl,sq,reduceIte,j4,j5,j6,j7,j8,j9,y1,y2,y3,S1,h0]
  ·simp -implicitDefEqProofs only[op,ef,cl,sq,reduceIte,j4,j5,j6,j7,j8,j9,y1,y2,y3,S1,h3]
  ·simp -implicitDefEqProofs only[op,ef,cl,sq,reduceIte,j4,j5,j6,j7,j8,j9,y1,y2,y3,S1,h8]
  ·simp -implicitDefEqProofs only[op,ef,cl,sq,reduceIte,j4,j5,j6,j7,j8,j9,y1,y2,y3,S1,h9]
  ·simp -implicitDefEqProofs only[op,ef,cl,sq,reduceIte,j4,j5,j6,j7,j8,j9,y1,y2,y3,S1,aB]
  ·simp -implicitDefEqProofs only[op,ef,cl,sq,reduceIte,j4,j5,j6,j7,j8,j9,y1,y2,y3,S1];omega
  rintro k R H1⟨⟨di,hd,a6,hP,aq⟩,h0,h3,h8,h9,aB,aA,hk⟩
  have lc:=aW hd
  cases k with
  | zero =>
   rw[show(((0:Nat):Int)-1)=-1 from rfl]at aA
   simp -implicitDefEqProofs (maxSteps:=1000000) (disch:=omega) only[aa,aD,aE,aF,aG,aH,aI,wA,aZ,wS,aY,wM,S2,op,ef,cl,sq,reduceIte,j4,j5,j6,j7,j8,j9,y1,y2,y3,S1,h0,h3,h8,h9,aB,aA]
   exact⟨rfl,di,hd,a6,hP,aq⟩
  | succ k =>
   rw[show(((k+1:Nat):Int)-1)=(k:Int) by omega]at aA
   simp -implicitDefEqProofs (maxSteps:=1000000) (disch:=omega) only[aa,aD,aE,aF,aG,aH,aI,wA,aZ,wS,aY,wM,S2,op,ef,cl,sq,reduceIte,j4,j5,j6,j7,j8,j9,y1,y2,y3,S1,h0,h3,h8,h9,aB,aA,JF,hd,lc]
   obtain⟨d1,o7,yC,rfl,oP⟩:=hJ.swp (n:=n) (P:=fun x=>x=swp di a (a+k)) (x:=.cells (aJ eS (di.toList.set a di[a+k]!))) hd (by rw[Go.Sort.swp_size];exact a6) rfl aq
   refine ae _ _ _ _ _ _ _ _ (Ao c n _ 0 k a _ yC o7 (by omega) (by omega) hs) ?_
   rintro u H2⟨hu,d2,cu,gZ,rfl,dN⟩
   cases hu
   simp -implicitDefEqProofs (maxSteps:=1000000) (disch:=omega) only[Vo,op,ef,cl,sq,reduceIte,j4,j5,j6,j7,j8,j9,y1,y2,y3,S1,h0,h3,h8,h9,aB,aA]
   exact⟨k,by omega,.i ⟨_,cu,gZ,hP,oP.trans dN fun _ h=>.inl h⟩,rfl,by omega⟩
open Go.Sort in
theorem yL (c n p sw:Nat)(d:Array ByteArray)(a b:Nat)(H:af)(hn:d.size=n)(hc:H[c]?=some (.cells (aJ eS d.toList)))(hp:H[p]?=some (.cells [.int .i64 sw]))(ha:a<n)(hb:b<n)(hs:n<2305843009213693951)(Oi:sw<1000) :
  W env (.call 163 [.ax c 0 n 1,.int .i64 a,.int .i64 b,.ptr p 0]) H (S5 p (order2 strLt d a b sw) H):=by
 refine W.bR rfl rfl rfl ?_
 have hd:=hc
 have aq:=bh.refl (fun x=>x=p) H
 simp -implicitDefEqProofs (maxSteps:=1000000) (disch:=omega) only[FI,aa,aD,aE,aF,aG,aH,aI,wA,aZ,wS,aY,wM,S2,op,ef,cl,sq,reduceIte,j4,j5,j6,j7,j8,j9,y1,y2,y3,S1,hd]
 refine ae _ _ _ _ _ _ _ _ (dI d[b]! d[a]! _) ?_
 rintro u H1⟨hu,jv⟩
 cases hu
 have hx:Ext H H1:=by rw[jv];exact Ext.rfl'
 have hd:=hx.get hd
 have lc:=aW hd
 have aq:=aq.trans (ay (F:=fun _=>False) hx) (fun _ h=>h.elim)
 have lu:=hx.get hp
 have lp:=aW lu
 have cY:strLt d[b]! d[a]! = decide (strLt d[b]! d[a]! = true):=by simp
 by_cases c1:strLt d[b]! d[a]! = true
 ·simp -implicitDefEqProofs (maxSteps:=1000000) (disch:=omega) only[aa,aD,aE,aF,aG,aH,aI,wA,aZ,wS,aY,wM,S2,op,ef,cl,sq,reduceIte,j4,j5,j6,j7,j8,j9,y1,y2,y3,S1,hd,c1,lu,lp]
  refine⟨?_,?_,?_⟩
  ·rw[order2,if_pos (cY.trans (cn c1))]
  ·rw[order2,if_pos (cY.trans (cn c1))];exact bU lp
  ·exact aq.set (.inl rfl) _
 ·simp -implicitDefEqProofs (maxSteps:=1000000) (disch:=omega) only[aa,aD,aE,aF,aG,aH,aI,wA,aZ,wS,aY,wM,S2,op,ef,cl,sq,reduceIte,j4,j5,j6,j7,j8,j9,y1,y2,y3,S1,hd,c1,lu,lp]
  refine⟨?_,?_,?_⟩
  ·rw[order2,if_neg (by rw[cY,cf c1];simp)]
  ·rw[order2,if_neg (by rw[cY,cf c1];simp)];exact lu
  ·exact aq
open Go.Sort in
theorem uN (d:Array ByteArray){n a b sw:Nat}(ha:a<n)(hb:b<n):(Go.Sort.order2 strLt d a b sw).1<n∧(Go.Sort.order2 strLt d a b sw).2.1<n∧(Go.Sort.order2 strLt d a b sw).2.2≤sw+1:=by
 unfold Go.Sort.order2
 split
 ·exact⟨hb,ha,Nat.le_refl _⟩
 ·exact⟨ha,hb,Nat.le_succ _⟩
open Go.Sort in
theorem yM (c n p sw:Nat)(d:Array ByteArray)(a b e:Nat)(H:af)(hn:d.size=n)(hc:H[c]?=some (.cells (aJ eS d.toList)))(hp:H[p]?=some (.cells [.int .i64 sw]))(oQ:¬c=p)(ha:a<n)(hb:b<n)(he:e<n)(hs:n<2305843009213693951)(Oi:sw<900) :
  W env (.call 160 [.ax c 0 n 1,.int .i64 a,.int .i64 b,.int .i64 e,.ptr p 0]) H (fun o H'=>JG p (median strLt d a b e sw) H o H'∧(median strLt d a b e sw).1<n∧(median strLt d a b e sw).2≤sw+3):=by
 refine W.bR rfl rfl rfl ?_
 simp -implicitDefEqProofs only[FG,op,ef,cl,sq,reduceIte,j4,j5,j6,j7,j8,j9,y1,y2,y3,S1]
 refine ae _ _ _ _ _ _ _ _ (yL c n p sw d a b _ hn hc hp ha hb hs (by omega)) ?_
 rintro u H1⟨hu,lu,oP⟩
 cases hu
 have jw:=oP.get hc oQ
 obtain⟨r1,Cr⟩:∃r,r=order2 strLt d a b sw:=⟨_,rfl⟩
 obtain⟨q1,q2,q3⟩:=uN d (sw:=sw) ha hb
 rw[←Cr]at q1 q2 q3 lu ⊢
 try simp -implicitDefEqProofs only[op,ef,cl,sq,reduceIte,j4,j5,j6,j7,j8,j9,y1,y2,y3,S1]
 refine ae _ _ _ _ _ _ _ _ (yL c n p r1.2.2 d r1.2.1 e _ hn jw lu q2 he hs (by omega)) ?_
 rintro u H2⟨hu,lV,dN⟩
 cases hu
 have po:=dN.get jw oQ
 obtain⟨r2,uu⟩:∃r,r=order2 strLt d r1.2.1 e r1.2.2:=⟨_,rfl⟩
 obtain⟨q4,q5,q6⟩:=uN d (sw:=r1.2.2) q2 he
 rw[←uu]at q4 q5 q6 lV ⊢
 try simp -implicitDefEqProofs only[op,ef,cl,sq,reduceIte,j4,j5,j6,j7,j8,j9,y1,y2,y3,S1]
 refine ae _ _ _ _ _ _ _ _ (yL c n p r2.2.2 d r1.1 r2.1 _ hn po lV q1 q4 hs (by omega)) ?_
 rintro u H3⟨hu,JH,oS⟩
 cases hu
 obtain⟨q7,q8,q9⟩:=uN d (sw:=r2.2.2) q1 q4
 have e:median strLt d a b e sw=((order2 strLt d r1.1 r2.1 r2.2.2).2.1,(order2 strLt d r1.1 r2.1 r2.2.2).2.2):=by rw[median,←Cr,←uu]
 rw[e]
 try simp -implicitDefEqProofs only[op,ef,cl,sq,reduceIte,j4,j5,j6,j7,j8,j9,y1,y2,y3,S1]
 exact⟨⟨rfl,JH,(oP.trans dN fun _ h=>.inl h).trans oS fun _ h=>.inl h⟩,q8,by omega⟩
open Go.Sort in
theorem uO (c n p sw:Nat)(d:Array ByteArray)(a:Nat)(H:af)(hn:d.size=n)(hc:H[c]?=some (.cells (aJ eS d.toList)))(hp:H[p]?=some (.cells [.int .i64 sw]))(oQ:¬c=p)(ha:1≤a)(A3:a+1<n)(hs:n<2305843009213693951)(Oi:sw<900) :
  W env (.call 159 [.ax c 0 n 1,.int .i64 a,.ptr p 0]) H (fun o H'=>JG p (medianAdjacent strLt d a sw) H o H'∧(medianAdjacent strLt d a sw).1<n∧(medianAdjacent strLt d a sw).2≤sw+3):=by
 refine W.bR rfl rfl rfl ?_
 simp -implicitDefEqProofs (maxSteps:=1000000) (disch:=omega) only[FF,aa,aD,aE,aF,aG,aH,aI,wA,aZ,wS,aY,wM,S2,op,ef,cl,sq,reduceIte,j4,j5,j6,j7,j8,j9,y1,y2,y3,S1]
 refine ae _ _ _ _ _ _ _ _ (yM c n p sw d (a-1) a (a+1) _ hn hc hp oQ (by omega) (by omega) A3 hs Oi) ?_
 rintro u H1⟨⟨hu,lu,oP⟩,q1,q2⟩
 cases hu
 try simp -implicitDefEqProofs only[op,ef,cl,sq,reduceIte,j4,j5,j6,j7,j8,j9,y1,y2,y3,S1]
 exact⟨⟨rfl,lu,oP⟩,q1,q2⟩
open Go.Sort in
theorem Gf (c n:Nat)(d:Array ByteArray)(a b:Nat)(H:af)(hn:d.size=n)(hc:H[c]?=some (.cells (aJ eS d.toList)))(hb:b≤n)(gb:a+12<b)(hs:n<1305843009213693951) :
  W env (.call 145 [.ax c 0 n 1,.int .i64 a,.int .i64 b]) H (fun o H'=>o=.val (.bF [.int .i64 (choosePivot strLt d a b).1,.int .i64 (gy (choosePivot strLt d a b).2)])∧Ext H H'):=by
 refine W.bR rfl rfl rfl ?_
 have h8:8≤b-a:=by omega
 have lc:=aW hc
 have oQ:¬c=H.length:=by omega
 have mr:(H++[B.cells [T.int IntKind.i64 0]])[c]?=some (.cells (aJ eS d.toList)):=by rw[aV lc];exact hc
 have S6:(H++[B.cells [T.int IntKind.i64 0]])[H.length]?=some (.cells [.int .i64 ((0:Nat):Int)]):=aU rfl
 have fin:∀H2:af,bh (fun x=>x=H.length) (H++[B.cells [T.int IntKind.i64 0]]) H2→Ext H H2:=fun H2 hf=>mM fun x y hx=>hf.get (by rw[aV (aW hx)];exact hx) (by have:=aW hx;omega)
 by_cases uK:50≤b-a
 ·simp -implicitDefEqProofs (maxSteps:=1000000) (disch:=omega) only[Ae,aa,aD,aE,aF,aG,aH,aI,wA,aZ,wS,aY,wM,S2,op,ef,cl,sq,reduceIte,j4,j5,j6,j7,j8,j9,y1,y2,y3,S1,CB,Vp,CC,Vq,h8,uK]
  refine ae _ _ _ _ _ _ _ _ (uO c n H.length 0 d _ _ hn mr S6 oQ (by omega) (by omega) (by omega) (by omega)) ?_
  rintro u H1⟨⟨hu,lu,oP⟩,q1,q2⟩
  cases hu
  obtain⟨ri,lJ⟩:∃r,r=medianAdjacent strLt d (a+(b-a)/4*1) 0:=⟨_,rfl⟩
  rw[←lJ]at q1 q2 lu ⊢
  have jw:=oP.get mr oQ
  try simp -implicitDefEqProofs only[op,ef,cl,sq,reduceIte,j4,j5,j6,j7,j8,j9,y1,y2,y3,S1]
  refine ae _ _ _ _ _ _ _ _ (uO c n H.length ri.2 d _ _ hn jw lu oQ (by omega) (by omega) (by omega) (by omega)) ?_
  rintro u H2⟨⟨hu,lV,dN⟩,q3,q4⟩
  cases hu
  obtain⟨rj,S7⟩:∃r,r=medianAdjacent strLt d (a+(b-a)/4*2) ri.2:=⟨_,rfl⟩
  rw[←S7]at q3 q4 lV ⊢
  have po:=dN.get jw oQ
  try simp -implicitDefEqProofs only[op,ef,cl,sq,reduceIte,j4,j5,j6,j7,j8,j9,y1,y2,y3,S1]
  refine ae _ _ _ _ _ _ _ _ (uO c n H.length rj.2 d _ _ hn po lV oQ (by omega) (by omega) (by omega) (by omega)) ?_
  rintro u H3⟨⟨hu,JH,oS⟩,q5,q6⟩
  cases hu
  obtain⟨rk,Oj⟩:∃r,r=medianAdjacent strLt d (a+(b-a)/4*3) rj.2:=⟨_,rfl⟩
  rw[←Oj]at q5 q6 JH ⊢
  have S8:=oS.get po oQ
  try simp -implicitDefEqProofs only[op,ef,cl,sq,reduceIte,j4,j5,j6,j7,j8,j9,y1,y2,y3,S1]
  refine ae _ _ _ _ _ _ _ _ (yM c n H.length rk.2 d ri.1 rj.1 rk.1 _ hn S8 JH oQ q1 q3 q5 (by omega) (by omega)) ?_
  rintro u H4⟨⟨hu,oT,xK⟩,q7,q8⟩
  cases hu
  have e:choosePivot strLt d a b=((median strLt d ri.1 rj.1 rk.1 rk.2).1,if (median strLt d ri.1 rj.1 rk.1 rk.2).2=0 then .increasing else if (median strLt d ri.1 rj.1 rk.1 rk.2).2=12 then .decreasing else .unknown):=by
   simp -implicitDefEqProofs only[choosePivot,ge_iff_le,if_pos h8,if_pos uK,←lJ,←S7,←Oj]
  rw[e]
  have hx:=fin _ (((oP.trans dN fun _ h=>.inl h).trans oS fun _ h=>.inl h).trans xK fun _ h=>.inl h)
  generalize median strLt d ri.1 rj.1 rk.1 rk.2=r at *
  obtain⟨m,sw⟩:=r
  simp only at oT ⊢
  by_cases s0:sw=0
  ·subst s0
   have e0:(((0:Nat):Int)==0)=true:=rfl
   simp -implicitDefEqProofs only[op,ef,cl,sq,reduceIte,j4,j5,j6,j7,j8,j9,y1,y2,y3,S1,oT,e0]
   exact⟨rfl,hx⟩
  have e0:(((sw:Nat):Int)==0)=false:=by simp;omega
  by_cases s1:sw=12
  ·subst s1
   have e1:(((12:Nat):Int)==12)=true:=rfl
   simp -implicitDefEqProofs only[op,ef,cl,sq,reduceIte,j4,j5,j6,j7,j8,j9,y1,y2,y3,S1,oT,e0,e1]
   exact⟨rfl,hx⟩
  have e1:(((sw:Nat):Int)==12)=false:=by simp;omega
  simp -implicitDefEqProofs only[op,ef,cl,sq,reduceIte,j4,j5,j6,j7,j8,j9,y1,y2,y3,S1,oT,e0,e1,s0,s1]
  exact⟨rfl,hx⟩
 ·simp -implicitDefEqProofs (maxSteps:=1000000) (disch:=omega) only[Ae,aa,aD,aE,aF,aG,aH,aI,wA,aZ,wS,aY,wM,S2,op,ef,cl,sq,reduceIte,j4,j5,j6,j7,j8,j9,y1,y2,y3,S1,CB,Vp,CC,Vq,h8,uK]
  refine ae _ _ _ _ _ _ _ _ (yM c n H.length 0 d _ _ _ _ hn mr S6 oQ (by omega) (by omega) (by omega) (by omega) (by omega)) ?_
  rintro u H4⟨⟨hu,oT,xK⟩,q7,q8⟩
  cases hu
  have e:choosePivot strLt d a b=((median strLt d (a+(b-a)/4*1) (a+(b-a)/4*2) (a+(b-a)/4*3) 0).1,if (median strLt d (a+(b-a)/4*1) (a+(b-a)/4*2) (a+(b-a)/4*3) 0).2=0 then .increasing else if (median strLt d (a+(b-a)/4*1) (a+(b-a)/4*2) (a+(b-a)/4*3) 0).2=12 then .decreasing else .unknown):=by
   simp -implicitDefEqProofs only[choosePivot,ge_iff_le,if_pos h8,if_neg uK]
  rw[e]
  have hx:=fin _ xK
  generalize median strLt d (a+(b-a)/4*1) (a+(b-a)/4*2) (a+(b-a)/4*3) 0=r at *
  obtain⟨m,sw⟩:=r
  simp only at oT ⊢
  by_cases s0:sw=0
  ·subst s0
   have e0:(((0:Nat):Int)==0)=true:=rfl
   simp -implicitDefEqProofs only[op,ef,cl,sq,reduceIte,j4,j5,j6,j7,j8,j9,y1,y2,y3,S1,oT,e0]
   exact⟨rfl,hx⟩
  have e0:(((sw:Nat):Int)==0)=false:=by simp;omega
  by_cases s1:sw=12
  ·subst s1
   have e1:(((12:Nat):Int)==12)=true:=rfl
   simp -implicitDefEqProofs only[op,ef,cl,sq,reduceIte,j4,j5,j6,j7,j8,j9,y1,y2,y3,S1,oT,e0,e1]
   exact⟨rfl,hx⟩
  have e1:(((sw:Nat):Int)==12)=false:=by simp;omega
  simp -implicitDefEqProofs only[op,ef,cl,sq,reduceIte,j4,j5,j6,j7,j8,j9,y1,y2,y3,S1,oT,e0,e1,s0,s1]
  exact⟨rfl,hx⟩
def xh (a len md:Nat)(d:Array ByteArray):Nat→UInt64×Array ByteArray
 | 0=>(UInt64.ofNat len,d)
 | j+1=>Go.Sort.breakStep a len md (xh a len md d j) (a+len/4*2-1+j)
open Go.Sort in
theorem JW (c n:Nat)(d:Array ByteArray)(a b:Nat)(H:af)(hn:d.size=n)(hc:H[c]?=some (.cells (aJ eS d.toList)))(hb:b≤n)(gb:a+12<b)(hs:n<16777216) :
  W env (.call 144 [.ax c 0 n 1,.int .i64 a,.int .i64 b]) H (ra c n (breakPatterns d a b) H):=by
 refine W.bR rfl rfl rfl ?_
 have h8:8≤b-a:=by omega
 have lc:=aW hc
 obtain⟨len,hlen⟩:∃len,len=b-a:=⟨_,rfl⟩
 have wl:IntKind.u64.wrap ((len:Nat):Int)=(len:Int):=pf (by omega)
 rw[←hlen]at h8
 simp -implicitDefEqProofs (maxSteps:=1000000) (disch:=omega) only[Fq,aa,aD,aE,aF,aG,aH,aI,wA,aZ,wS,aY,wM,S2,op,ef,cl,sq,reduceIte,j4,j5,j6,j7,j8,j9,y1,y2,y3,S1,CB,CC,←hlen,wl,h8]
 refine ae _ _ _ _ _ _ _ _ (F6 len (by omega) _) ?_
 rintro u H1⟨hu,rfl⟩
 cases hu
 obtain⟨md,Tc⟩:∃md,md=1 <<< bitsLen len:=⟨_,rfl⟩
 have MJ:=xe (n:=len) (by omega)
 have JC:1≤1 <<< bitsLen len:=by rw[Nat.one_shiftLeft];exact Nat.one_le_two_pow
 rw[←Tc]at JC MJ ⊢
 have hq:len/4*2≤len:=by omega
 obtain⟨ix,vI⟩:∃ix,ix=a+len/4*2-1:=⟨_,rfl⟩
 have uv:breakPatterns d a b=(xh a len md d 3).2:=by
  simp -implicitDefEqProofs only[breakPatterns,←hlen,ge_iff_le,if_pos h8,xh,←Tc,Nat.add_zero]
 simp -implicitDefEqProofs (maxSteps:=1000000) (disch:=omega) only[aa,aD,aE,aF,aG,aH,aI,wA,aZ,wS,aY,wM,S2,op,ef,cl,sq,reduceIte,j4,j5,j6,j7,j8,j9,y1,y2,y3,S1,CB,CC,←vI]
 have jw:(H++[B.cells [T.int IntKind.u64 len]])[c]?=some (.cells (aJ eS d.toList)):=by rw[aV lc];exact hc
 have lu:(H++[B.cells [T.int IntKind.u64 len]])[H.length]?=some (.cells [.int .u64 (UInt64.ofNat len).toNat]):=by
  rw[aU rfl,UInt64.toNat_ofNat_of_lt' (by show len<18446744073709551616;omega)]
 refine W.cG (fun (j:Nat) R H'=>At H' (fun H'=>∃d':Array ByteArray,H'[c]?=some (.cells (aJ eS d'.toList))∧d'.size=n∧d'=(xh a len md d j).2∧H'[H.length]?=some (.cells [.int .u64 (xh a len md d j).1.toNat])∧bh (fun x=>x=c∨x=H.length) (H++[B.cells [T.int IntKind.u64 len]]) H')∧R 0=.ax c 0 n 1∧R 1=.int .i64 a∧R 6=.int .i64 len∧R 7=.ptr H.length 0∧R 8=.int .u64 md∧R 9=.int .i64 (ix+j:Nat)∧j≤3) (fun j=>3-j) 0 ⟨.i ⟨d,jw,hn,rfl,lu,bh.refl _ _⟩,rfl,rfl,rfl,rfl,rfl,rfl,by omega⟩ ?_
 rintro j R H1⟨⟨di,hd,a6,Td,hp,aq⟩,h0,h1,JM,h9,aB,a0,hj⟩
 by_cases hj3:j<3
 ·have hle:ix+j≤a+len/4*2+1:=by omega
  simp -implicitDefEqProofs (maxSteps:=1000000) (disch:=omega) only[aa,aD,aE,aF,aG,aH,aI,wA,aZ,wS,aY,wM,S2,op,ef,cl,sq,reduceIte,j4,j5,j6,j7,j8,j9,y1,y2,y3,S1,CB,CC,h0,h1,JM,h9,aB,a0,hle]
  refine ae _ _ _ _ _ _ _ _ (LA H.length _ _ hp) ?_
  rintro u H2⟨hu,lV,dN⟩
  cases hu
  have hd:=dN.get hd (by omega)
  have yI:=aW hd
  obtain⟨r,hr⟩:∃r,r=xorNext (xh a len md d j).1:=⟨_,rfl⟩
  rw[←hr]at lV ⊢
  obtain⟨ot,JN⟩:∃ot,ot=r.toNat &&& (md-1):=⟨_,rfl⟩
  have hol:ot≤md-1:=by rw[JN];exact Nat.and_le_right
  have bS:xh a len md d (j+1)=(r,swp di (ix+j) (a+if ot≥len then ot-len else ot)):=by
   simp -implicitDefEqProofs only[xh,breakStep,←hr,←Td,←JN,←vI]
  have bG:¬(c=H.length):=by omega
  by_cases dY:len≤ot
  ·rw[if_pos dY]at bS
   simp -implicitDefEqProofs (maxSteps:=1000000) (disch:=omega) only[aa,aD,aE,aF,aG,aH,aI,wA,aZ,wS,aY,wM,S2,op,ef,cl,sq,reduceIte,j4,j5,j6,j7,j8,j9,y1,y2,y3,S1,Vr,Ak,wN,←JN,h0,h1,JM,h9,aB,a0,dY,hd,yI]
   refine⟨j+1,by omega,.i ⟨swp di (ix+j) (a+(ot-len)),bU (by rw[List.length_set];exact yI),by rw[swp_size];exact a6,by rw[bS],?_,((aq.trans dN fun x h=>.inl (.inr h)).set (.inl (.inl rfl)) _).set (.inl (.inl rfl)) _⟩,rfl,by omega⟩
   rw[bf bG,bf bG,lV,bS]
  ·rw[if_neg dY]at bS
   simp -implicitDefEqProofs (maxSteps:=1000000) (disch:=omega) only[aa,aD,aE,aF,aG,aH,aI,wA,aZ,wS,aY,wM,S2,op,ef,cl,sq,reduceIte,j4,j5,j6,j7,j8,j9,y1,y2,y3,S1,Vr,Ak,wN,←JN,h0,h1,JM,h9,aB,a0,dY,hd,yI]
   refine⟨j+1,by omega,.i ⟨swp di (ix+j) (a+ot),bU (by rw[List.length_set];exact yI),by rw[swp_size];exact a6,by rw[bS],?_,((aq.trans dN fun x h=>.inl (.inr h)).set (.inl (.inl rfl)) _).set (.inl (.inl rfl)) _⟩,rfl,by omega⟩
   rw[bf bG,bf bG,lV,bS]
 ·have Jz:j=3:=by omega
  subst Jz
  have hle:¬(ix+3≤a+len/4*2+1):=by omega
  simp -implicitDefEqProofs (maxSteps:=1000000) (disch:=omega) only[aa,aD,aE,aF,aG,aH,aI,wA,aZ,wS,aY,wM,S2,op,ef,cl,sq,reduceIte,j4,j5,j6,j7,j8,j9,y1,y2,y3,S1,CB,CC,h0,h1,JM,h9,aB,a0,hle]
  exact⟨rfl,di,hd,a6,by rw[uv,Td],(ay (F:=fun x=>x=c) (H:=H) (H':=H++[B.cells [T.int IntKind.u64 len]]) ⟨_,rfl⟩).trans aq fun x h=>h.elim .inl fun e=>.inr (by omega)⟩
open Go.Sort in
theorem jP {p:ByteArray→Bool}{d:Array ByteArray}{i k:Nat}(h:1≤i):scanDown p d i k=if (decide (i≤k)&&p d[k]!)=true then scanDown p d i (k-1)else k:=by
 cases k with
 | zero=>rw[scanDown,if_neg (dg (cf (by omega)))]
 | succ k=>rw[scanDown];rfl
open Go.Sort in
theorem JX {a i j si sj:Nat}{d:Array ByteArray}(hi:si=scanUp (fun x=>!strLt d[a]! x) d j i)(hj:sj=scanDown (fun x=>strLt d[a]! x) d si j):partEqLoop strLt a i j d=if si>sj then(si,d)else if (sj-1)+1-(si+1)<j+1-i then partEqLoop strLt a (si+1) (sj-1) (swp d si sj)else(si,d):=by
 subst hi;subst hj
 rw[partEqLoop]
 rfl
open Go.Sort in
theorem Tq (c n:Nat)(d:Array ByteArray)(a b pv:Nat)(H:af)(hn:d.size=n)(hc:H[c]?=some (.cells (aJ eS d.toList)))(hb:b≤n)(gb:a<b)(l3:pv<n)(hs:n<2305843009213693951) :
  W env (.call 149 [.ax c 0 n 1,.int .i64 a,.int .i64 b,.int .i64 pv]) H (fun o H'=>o=.val (.int .i64 (partitionEqual strLt d a b pv).1)∧hJ c n H (fun x=>x=(partitionEqual strLt d a b pv).2) H'):=by
 refine W.bR rfl rfl rfl ?_
 have hd:=hc
 have lc:=aW hd
 simp -implicitDefEqProofs (maxSteps:=1000000) (disch:=omega) only[Fv,aa,aD,aE,aF,aG,aH,aI,wA,aZ,wS,aY,wM,S2,op,ef,cl,sq,reduceIte,j4,j5,j6,j7,j8,j9,y1,y2,y3,S1,hd,lc]
 obtain⟨d1,o7,yC,e1,oP⟩:=hJ.swp (n:=n) (P:=fun x=>x=swp d a pv) (x:=.cells (aJ eS (d.toList.set a d[pv]!))) hd (by rw[Go.Sort.swp_size];exact hn) rfl (bh.refl (fun x=>x=c) H)
 subst e1
 generalize ((H.set c (.cells (aJ eS (d.toList.set a d[pv]!)))).set c (.cells (aJ eS (swp d a pv).toList)))=H1 at *
 refine W.cN 0 (fun (q:Nat×Nat) R H'=>At H' (fun H'=>hJ c n H (fun di=>partEqLoop strLt a q.1 q.2 di=partitionEqual strLt d a b pv) H')∧R 0=.ax c 0 n 1∧R 1=.int .i64 a∧R 0=.ax c 0 n 1∧R 9=.int .i64 q.1∧R 10=.int .i64 q.2∧a<q.1∧q.2<n∧q.1≤n) (fun q=>q.2+1-q.1) (a+1,b-1)
  (fun R H'=>At H' (fun H'=>hJ c n H (fun di=>di=(partitionEqual strLt d a b pv).2) H')∧R 9=.int .i64 (partitionEqual strLt d a b pv).1) ⟨.i ⟨_,o7,yC,rfl,oP⟩,rfl,rfl,rfl,rfl,rfl,by omega,by simp only;omega,by simp only;omega⟩ ?_ ?_
 ·rintro⟨i,j⟩ R H1 ⟨⟨di,hd,a6,hP,aq⟩,h0,h1,h4,a0,aA,FX,x8,iE⟩
  simp only at hP a0 aA FX x8 iE ⊢
  simp -implicitDefEqProofs only[op,ef,cl,sq,reduceIte,j4,j5,j6,j7,j8,j9,y1,y2,y3,S1,h0,h1,h4,a0,aA]
  obtain⟨si,oU⟩:∃si,si=scanUp (fun x=>!strLt di[a]! x) di j i:=⟨_,rfl⟩
  refine W.cN 2 (fun (k:Nat) R H'=>At H' (fun H'=>H'[c]?=some (.cells (aJ eS di.toList))∧bh (fun x=>x=c) H H')∧R 0=.ax c 0 n 1∧R 1=.int .i64 a∧R 0=.ax c 0 n 1∧R 9=.int .i64 k∧R 10=.int .i64 j∧i≤k∧k≤n∧scanUp (fun x=>!strLt di[a]! x) di j k=si) (fun k=>j+1-k) i
   (fun R H'=>At H' (fun H'=>H'[c]?=some (.cells (aJ eS di.toList))∧bh (fun x=>x=c) H H')∧R 0=.ax c 0 n 1∧R 1=.int .i64 a∧R 0=.ax c 0 n 1∧R 9=.int .i64 si∧R 10=.int .i64 j∧i≤si∧si≤n) ⟨.i ⟨hd,aq⟩,h0,h1,h4,a0,aA,Nat.le_refl _,iE,oU.symm⟩ ?_ ?_
  ·rintro k R H2⟨⟨hd,aq⟩,h0,h1,h4,a0,aA,qX,oN,hk⟩
   have lc:=aW hd
   by_cases eC:k≤j
   ·simp -implicitDefEqProofs (maxSteps:=1000000) (disch:=omega) only[aa,aD,aE,aF,aG,aH,aI,wA,aZ,wS,aY,wM,S2,op,ef,cl,sq,reduceIte,j4,j5,j6,j7,j8,j9,y1,y2,y3,S1,h0,h1,h4,a0,aA,eC,hd,lc]
    refine ae _ _ _ _ _ _ _ _ (dI di[a]! di[k]! _) ?_
    rintro u H3⟨hu,jv⟩
    cases hu
    have hx:Ext H2 H3:=by rw[jv];exact Ext.rfl'
    have hd:=hx.get hd
    have lc:=aW hd
    have aq:=aq.trans (ay (F:=fun _=>False) hx) (fun _ h=>h.elim)
    have cY:strLt di[a]! di[k]! = decide (strLt di[a]! di[k]! = true):=by simp
    by_cases c1:strLt di[a]! di[k]! = true
    ·simp -implicitDefEqProofs (maxSteps:=1000000) (disch:=omega) only[aa,aD,aE,aF,aG,aH,aI,wA,aZ,wS,aY,wM,S2,op,ef,cl,sq,reduceIte,j4,j5,j6,j7,j8,j9,y1,y2,y3,S1,h0,h1,h4,a0,aA,eC,c1]
     rw[scanUp,if_neg (dJ (by rw[cY,cn c1];rfl))]at hk
     subst hk
     exact⟨.i ⟨hd,aq⟩,rfl,qX,oN⟩
    ·simp -implicitDefEqProofs (maxSteps:=1000000) (disch:=omega) only[aa,aD,aE,aF,aG,aH,aI,wA,aZ,wS,aY,wM,S2,op,ef,cl,sq,reduceIte,j4,j5,j6,j7,j8,j9,y1,y2,y3,S1,h0,h1,h4,a0,aA,eC,c1]
     rw[scanUp,if_pos (fG (cn eC) (fg (cY.trans (cf c1))))]at hk
     exact⟨k+1,by omega,.i ⟨hd,aq⟩,rfl,by omega,by omega,hk⟩
   ·simp -implicitDefEqProofs (maxSteps:=1000000) (disch:=omega) only[op,ef,cl,sq,reduceIte,j4,j5,j6,j7,j8,j9,y1,y2,y3,S1,h0,h1,h4,a0,aA,eC]
    try simp -implicitDefEqProofs only[op,ef,cl,sq,reduceIte,j4,j5,j6,j7,j8,j9,y1,y2,y3,S1,h0,h1,h4,a0,aA,eC]
    rw[scanUp,if_neg (dg (cf eC))]at hk
    subst hk
    exact⟨.i ⟨hd,aq⟩,rfl,qX,oN⟩
  ·rintro R H2⟨⟨hd,aq⟩,h0,h1,h4,a0,aA,yJ,F7⟩
   simp -implicitDefEqProofs only[op,ef,cl,sq,reduceIte,j4,j5,j6,j7,j8,j9,y1,y2,y3,S1,h0,h1,h4,a0,aA]
   obtain⟨sj,sg⟩:∃sj,sj=scanDown (fun x=>strLt di[a]! x) di si j:=⟨_,rfl⟩
   refine W.cN 4 (fun (k:Nat) R H'=>At H' (fun H'=>H'[c]?=some (.cells (aJ eS di.toList))∧bh (fun x=>x=c) H H')∧R 0=.ax c 0 n 1∧R 1=.int .i64 a∧R 0=.ax c 0 n 1∧R 9=.int .i64 si∧R 10=.int .i64 k∧k≤j∧scanDown (fun x=>strLt di[a]! x) di si k=sj) (fun k=>k) j
    (fun R H'=>At H' (fun H'=>H'[c]?=some (.cells (aJ eS di.toList))∧bh (fun x=>x=c) H H')∧R 0=.ax c 0 n 1∧R 1=.int .i64 a∧R 0=.ax c 0 n 1∧R 9=.int .i64 si∧R 10=.int .i64 sj∧sj≤j) ⟨.i ⟨hd,aq⟩,h0,h1,h4,a0,aA,Nat.le_refl _,sg.symm⟩ ?_ ?_
   ·rintro k R H3⟨⟨hd,aq⟩,h0,h1,h4,a0,aA,eC,hk⟩
    have lc:=aW hd
    rw[jP (by omega)]at hk
    by_cases bN:si≤k
    ·simp -implicitDefEqProofs (maxSteps:=1000000) (disch:=omega) only[aa,aD,aE,aF,aG,aH,aI,wA,aZ,wS,aY,wM,S2,op,ef,cl,sq,reduceIte,j4,j5,j6,j7,j8,j9,y1,y2,y3,S1,h0,h1,h4,a0,aA,bN,hd,lc]
     refine ae _ _ _ _ _ _ _ _ (dI di[a]! di[k]! _) ?_
     rintro u H4⟨hu,jv⟩
     cases hu
     have hx:Ext H3 H4:=by rw[jv];exact Ext.rfl'
     have hd:=hx.get hd
     have lc:=aW hd
     have aq:=aq.trans (ay (F:=fun _=>False) hx) (fun _ h=>h.elim)
     have cY:strLt di[a]! di[k]! = decide (strLt di[a]! di[k]! = true):=by simp
     by_cases c1:strLt di[a]! di[k]! = true
     ·simp -implicitDefEqProofs (maxSteps:=1000000) (disch:=omega) only[aa,aD,aE,aF,aG,aH,aI,wA,aZ,wS,aY,wM,S2,op,ef,cl,sq,reduceIte,j4,j5,j6,j7,j8,j9,y1,y2,y3,S1,h0,h1,h4,a0,aA,bN,c1]
      rw[if_pos (fG (cn bN) (cY.trans (cn c1)))]at hk
      exact⟨k-1,by omega,.i ⟨hd,aq⟩,rfl,by omega,hk⟩
     ·simp -implicitDefEqProofs (maxSteps:=1000000) (disch:=omega) only[aa,aD,aE,aF,aG,aH,aI,wA,aZ,wS,aY,wM,S2,op,ef,cl,sq,reduceIte,j4,j5,j6,j7,j8,j9,y1,y2,y3,S1,h0,h1,h4,a0,aA,bN,c1]
      rw[if_neg (dJ (cY.trans (cf c1)))]at hk
      subst hk
      exact⟨.i ⟨hd,aq⟩,rfl,eC⟩
    ·simp -implicitDefEqProofs only[op,ef,cl,sq,reduceIte,j4,j5,j6,j7,j8,j9,y1,y2,y3,S1,h0,h1,h4,a0,aA,bN]
     rw[if_neg (dg (cf bN))]at hk
     subst hk
     exact⟨.i ⟨hd,aq⟩,rfl,eC⟩
   ·rintro R H3⟨⟨hd,aq⟩,h0,h1,h4,a0,aA,F9⟩
    have lc:=aW hd
    rw[JX oU sg]at hP
    by_cases kg:sj<si
    ·rw[if_pos kg]at hP
     simp -implicitDefEqProofs only[op,ef,cl,sq,reduceIte,j4,j5,j6,j7,j8,j9,y1,y2,y3,S1,h0,h1,h4,a0,aA,kg]
     exact⟨.i ⟨di,hd,a6,by rw[←hP],aq⟩,by rw[←hP]⟩
    ·rw[if_neg kg,if_pos (by omega)]at hP
     simp -implicitDefEqProofs (maxSteps:=1000000) (disch:=omega) only[aa,aD,aE,aF,aG,aH,aI,wA,aZ,wS,aY,wM,S2,op,ef,cl,sq,reduceIte,j4,j5,j6,j7,j8,j9,y1,y2,y3,S1,h0,h1,h4,a0,aA,kg,hd,lc]
     exact⟨(si+1,sj-1),by simp only;omega,.i (.swp hd (by rw[swp_size];exact a6) hP aq),rfl,rfl,by simp only;omega,by simp only;omega,by simp only;omega⟩
 ·rintro R H1⟨⟨di,hd,a6,hP,aq⟩,a0⟩
  simp -implicitDefEqProofs only[op,ef,cl,sq,reduceIte,j4,j5,j6,j7,j8,j9,y1,y2,y3,S1,a0]
  exact⟨di,hd,a6,hP,aq⟩
open Go.Sort in
theorem Gg {a i j si sj:Nat}{d:Array ByteArray}(hi:si=scanUp (fun x=>strLt x d[a]!) d j i)(hj:sj=scanDown (fun x=>!strLt x d[a]!) d si j):partLoop strLt a i j d=if si>sj then(sj,d)else if (sj-1)+1-(si+1)<j+1-i then partLoop strLt a (si+1) (sj-1) (swp d si sj)else(sj,d):=by
 subst hi;subst hj
 rw[partLoop]
 rfl
open Go.Sort in
theorem OG (c n:Nat)(d:Array ByteArray)(a b pv:Nat)(H:af)(hn:d.size=n)(hc:H[c]?=some (.cells (aJ eS d.toList)))(hb:b≤n)(gb:a<b)(l3:pv<n)(hs:n<2305843009213693951) :
  W env (.call 150 [.ax c 0 n 1,.int .i64 a,.int .i64 b,.int .i64 pv]) H (fun o H'=>o=.val (.bF [.int .i64 (partition strLt d a b pv).1,.bool (partition strLt d a b pv).2.1])∧hJ c n H (fun x=>x=(partition strLt d a b pv).2.2) H'):=by
 refine W.bR rfl rfl rfl ?_
 have hd:=hc
 have lc:=aW hd
 simp -implicitDefEqProofs (maxSteps:=1000000) (disch:=omega) only[Fx,aa,aD,aE,aF,aG,aH,aI,wA,aZ,wS,aY,wM,S2,op,ef,cl,sq,reduceIte,j4,j5,j6,j7,j8,j9,y1,y2,y3,S1,hd,lc]
 obtain⟨d1,o7,yC,e1,oP⟩:=hJ.swp (n:=n) (P:=fun x=>x=swp d a pv) (x:=.cells (aJ eS (d.toList.set a d[pv]!))) hd (by rw[Go.Sort.swp_size];exact hn) rfl (bh.refl (fun x=>x=c) H)
 subst e1
 generalize ((H.set c (.cells (aJ eS (d.toList.set a d[pv]!)))).set c (.cells (aJ eS (swp d a pv).toList)))=H1 at *
 have hd:=o7
 have aq:=oP
 obtain⟨si,oU⟩:∃si,si=scanUp (fun x=>strLt x (swp d a pv)[a]!) (swp d a pv) (b-1) (a+1):=⟨_,rfl⟩
 refine W.cN 0 (fun (k:Nat) R H'=>At H' (fun H'=>H'[c]?=some (.cells (aJ eS (swp d a pv).toList))∧bh (fun x=>x=c) H H')∧R 0=.ax c 0 n 1∧R 1=.int .i64 a∧R 0=.ax c 0 n 1∧R 10=.int .i64 k∧R 11=.int .i64 ((b-1):Nat)∧(a+1)≤k∧k≤n∧scanUp (fun x=>strLt x (swp d a pv)[a]!) (swp d a pv) ((b-1)) k=si) (fun k=>(b-1)+1-k) ((a+1))
  (fun R H'=>At H' (fun H'=>H'[c]?=some (.cells (aJ eS (swp d a pv).toList))∧bh (fun x=>x=c) H H')∧R 0=.ax c 0 n 1∧R 1=.int .i64 a∧R 0=.ax c 0 n 1∧R 10=.int .i64 si∧R 11=.int .i64 ((b-1):Nat)∧(a+1)≤si∧si≤n) ⟨.i ⟨hd,aq⟩,rfl,rfl,rfl,rfl,rfl,Nat.le_refl _,by omega,oU.symm⟩ ?_ ?_
 ·rintro k R H2⟨⟨hd,aq⟩,h0,h1,h4,aA,bg,qX,oN,hk⟩
  have lc:=aW hd
  by_cases eC:k≤(b-1)
  ·simp -implicitDefEqProofs (maxSteps:=1000000) (disch:=omega) only[aa,aD,aE,aF,aG,aH,aI,wA,aZ,wS,aY,wM,S2,op,ef,cl,sq,reduceIte,j4,j5,j6,j7,j8,j9,y1,y2,y3,S1,h0,h1,h4,aA,bg,eC,hd,lc]
   refine ae _ _ _ _ _ _ _ _ (dI (swp d a pv)[k]! (swp d a pv)[a]! _) ?_
   rintro u H3⟨hu,jv⟩
   cases hu
   have hx:Ext H2 H3:=by rw[jv];exact Ext.rfl'
   have hd:=hx.get hd
   have lc:=aW hd
   have aq:=aq.trans (ay (F:=fun _=>False) hx) (fun _ h=>h.elim)
   have cY:strLt (swp d a pv)[k]! (swp d a pv)[a]! = decide (strLt (swp d a pv)[k]! (swp d a pv)[a]! = true):=by simp
   by_cases c1:strLt (swp d a pv)[k]! (swp d a pv)[a]! = true
   ·simp -implicitDefEqProofs (maxSteps:=1000000) (disch:=omega) only[aa,aD,aE,aF,aG,aH,aI,wA,aZ,wS,aY,wM,S2,op,ef,cl,sq,reduceIte,j4,j5,j6,j7,j8,j9,y1,y2,y3,S1,h0,h1,h4,aA,bg,eC,c1]
    rw[scanUp,if_pos (fG (cn eC) (cY.trans (cn c1)))]at hk
    exact⟨k+1,by omega,.i ⟨hd,aq⟩,rfl,by omega,by omega,hk⟩
   ·simp -implicitDefEqProofs (maxSteps:=1000000) (disch:=omega) only[aa,aD,aE,aF,aG,aH,aI,wA,aZ,wS,aY,wM,S2,op,ef,cl,sq,reduceIte,j4,j5,j6,j7,j8,j9,y1,y2,y3,S1,h0,h1,h4,aA,bg,eC,c1]
    rw[scanUp,if_neg (dJ (cY.trans (cf c1)))]at hk
    subst hk
    exact⟨.i ⟨hd,aq⟩,rfl,qX,oN⟩
  ·simp -implicitDefEqProofs only[op,ef,cl,sq,reduceIte,j4,j5,j6,j7,j8,j9,y1,y2,y3,S1,h0,h1,h4,aA,bg,eC]
   rw[scanUp,if_neg (dg (cf eC))]at hk
   subst hk
   exact⟨.i ⟨hd,aq⟩,rfl,qX,oN⟩
 ·rintro R H2⟨⟨hd,aq⟩,h0,h1,h4,aA,bg,yJ,F7⟩
  simp -implicitDefEqProofs only[op,ef,cl,sq,reduceIte,j4,j5,j6,j7,j8,j9,y1,y2,y3,S1,h0,h1,h4,aA,bg]
  obtain⟨sj,sg⟩:∃sj,sj=scanDown (fun x=>!strLt x (swp d a pv)[a]!) (swp d a pv) si (b-1):=⟨_,rfl⟩
  refine W.cN 2 (fun (k:Nat) R H'=>At H' (fun H'=>H'[c]?=some (.cells (aJ eS (swp d a pv).toList))∧bh (fun x=>x=c) H H')∧R 0=.ax c 0 n 1∧R 1=.int .i64 a∧R 0=.ax c 0 n 1∧R 10=.int .i64 si∧R 11=.int .i64 k∧k≤(b-1)∧scanDown (fun x=>!strLt x (swp d a pv)[a]!) (swp d a pv) si k=sj) (fun k=>k) ((b-1))
   (fun R H'=>At H' (fun H'=>H'[c]?=some (.cells (aJ eS (swp d a pv).toList))∧bh (fun x=>x=c) H H')∧R 0=.ax c 0 n 1∧R 1=.int .i64 a∧R 0=.ax c 0 n 1∧R 10=.int .i64 si∧R 11=.int .i64 sj∧sj≤(b-1)) ⟨.i ⟨hd,aq⟩,h0,h1,h4,aA,bg,Nat.le_refl _,sg.symm⟩ ?_ ?_
  ·rintro k R H3⟨⟨hd,aq⟩,h0,h1,h4,aA,bg,eC,hk⟩
   have lc:=aW hd
   rw[jP (by omega)]at hk
   by_cases bN:si≤k
   ·simp -implicitDefEqProofs (maxSteps:=1000000) (disch:=omega) only[aa,aD,aE,aF,aG,aH,aI,wA,aZ,wS,aY,wM,S2,op,ef,cl,sq,reduceIte,j4,j5,j6,j7,j8,j9,y1,y2,y3,S1,h0,h1,h4,aA,bg,bN,hd,lc]
    refine ae _ _ _ _ _ _ _ _ (dI (swp d a pv)[k]! (swp d a pv)[a]! _) ?_
    rintro u H4⟨hu,jv⟩
    cases hu
    have hx:Ext H3 H4:=by rw[jv];exact Ext.rfl'
    have hd:=hx.get hd
    have lc:=aW hd
    have aq:=aq.trans (ay (F:=fun _=>False) hx) (fun _ h=>h.elim)
    have cY:strLt (swp d a pv)[k]! (swp d a pv)[a]! = decide (strLt (swp d a pv)[k]! (swp d a pv)[a]! = true):=by simp
    by_cases c1:strLt (swp d a pv)[k]! (swp d a pv)[a]! = true
    ·simp -implicitDefEqProofs (maxSteps:=1000000) (disch:=omega) only[aa,aD,aE,aF,aG,aH,aI,wA,aZ,wS,aY,wM,S2,op,ef,cl,sq,reduceIte,j4,j5,j6,j7,j8,j9,y1,y2,y3,S1,h0,h1,h4,aA,bg,bN,c1]
     rw[if_neg (dJ (by rw[cY,cn c1];rfl))]at hk
     subst hk
     exact⟨.i ⟨hd,aq⟩,rfl,eC⟩
    ·simp -implicitDefEqProofs (maxSteps:=1000000) (disch:=omega) only[aa,aD,aE,aF,aG,aH,aI,wA,aZ,wS,aY,wM,S2,op,ef,cl,sq,reduceIte,j4,j5,j6,j7,j8,j9,y1,y2,y3,S1,h0,h1,h4,aA,bg,bN,c1]
     rw[if_pos (fG (cn bN) (fg (cY.trans (cf c1))))]at hk
     exact⟨k-1,by omega,.i ⟨hd,aq⟩,rfl,by omega,hk⟩
   ·simp -implicitDefEqProofs only[op,ef,cl,sq,reduceIte,j4,j5,j6,j7,j8,j9,y1,y2,y3,S1,h0,h1,h4,aA,bg,bN]
    rw[if_neg (dg (cf bN))]at hk
    subst hk
    exact⟨.i ⟨hd,aq⟩,rfl,eC⟩
  ·rintro R H3⟨⟨hd,aq⟩,h0,h1,h4,aA,bg,F9⟩
   have lc:=aW hd
   by_cases kg:sj<si
   ·have e:partition strLt d a b pv=(sj,true,swp (swp d a pv) sj a):=by
     simp -implicitDefEqProofs only[partition,←oU,←sg,gt_iff_lt,if_pos kg]
    rw[e]
    simp -implicitDefEqProofs (maxSteps:=1000000) (disch:=omega) only[aa,aD,aE,aF,aG,aH,aI,wA,aZ,wS,aY,wM,S2,op,ef,cl,sq,reduceIte,j4,j5,j6,j7,j8,j9,y1,y2,y3,S1,h0,h1,h4,aA,bg,kg,hd,lc]
    exact .swp hd (by rw[swp_size];exact yC) rfl aq
   ·obtain⟨r,hr⟩:∃r,r=partLoop strLt a (si+1) (sj-1) (swp (swp d a pv) si sj):=⟨_,rfl⟩
    have e:partition strLt d a b pv=(r.1,false,swp r.2 r.1 a):=by
     simp -implicitDefEqProofs only[partition,←oU,←sg,gt_iff_lt,if_neg kg,←hr]
    rw[e]
    simp -implicitDefEqProofs (maxSteps:=1000000) (disch:=omega) only[aa,aD,aE,aF,aG,aH,aI,wA,aZ,wS,aY,wM,S2,op,ef,cl,sq,reduceIte,j4,j5,j6,j7,j8,j9,y1,y2,y3,S1,h0,h1,h4,aA,bg,kg,hd,lc]
    obtain⟨d2,cu,gZ,e2,dN⟩:=hJ.swp (n:=n) (P:=fun x=>x=swp (swp d a pv) si sj) (x:=.cells (aJ eS ((swp d a pv).toList.set si (swp d a pv)[sj]!))) hd (by rw[swp_size];exact yC) rfl aq
    subst e2
    generalize ((H3.set c (.cells (aJ eS ((swp d a pv).toList.set si (swp d a pv)[sj]!)))).set c (.cells (aJ eS (swp (swp d a pv) si sj).toList)))=H5 at *
    refine W.cN 4 (fun (q:Nat×Nat) R H'=>At H' (fun H'=>hJ c n H (fun di=>partLoop strLt a q.1 q.2 di=r) H')∧R 0=.ax c 0 n 1∧R 1=.int .i64 a∧R 0=.ax c 0 n 1∧R 10=.int .i64 q.1∧R 11=.int .i64 q.2∧a<q.1∧q.2<n∧q.1≤n) (fun q=>q.2+1-q.1) (si+1,sj-1)
     (fun R H'=>At H' (fun H'=>hJ c n H (fun di=>di=r.2) H')∧R 0=.ax c 0 n 1∧R 1=.int .i64 a∧R 0=.ax c 0 n 1∧R 11=.int .i64 r.1∧r.1<n) ⟨.i ⟨_,cu,gZ,hr.symm,dN⟩,?_,?_,?_,?_,?_,by simp only;omega,by simp only;omega,by simp only;omega⟩ ?_ ?_
    ·simp -implicitDefEqProofs only[op,ef,cl,sq,reduceIte,j4,j5,j6,j7,j8,j9,y1,y2,y3,S1,h0]
    ·simp -implicitDefEqProofs only[op,ef,cl,sq,reduceIte,j4,j5,j6,j7,j8,j9,y1,y2,y3,S1,h1]
    ·simp -implicitDefEqProofs only[op,ef,cl,sq,reduceIte,j4,j5,j6,j7,j8,j9,y1,y2,y3,S1,h4]
    ·simp -implicitDefEqProofs only[op,ef,cl,sq,reduceIte,j4,j5,j6,j7,j8,j9,y1,y2,y3,S1,aA]
    ·simp -implicitDefEqProofs only[op,ef,cl,sq,reduceIte,j4,j5,j6,j7,j8,j9,y1,y2,y3,S1,bg]
    ·rintro⟨i,j⟩ R H1 ⟨⟨di,hd,a6,hP,aq⟩,h0,h1,h4,aA,bg,FX,x8,iE⟩
     simp only at hP aA bg FX x8 iE ⊢
     simp -implicitDefEqProofs only[op,ef,cl,sq,reduceIte,j4,j5,j6,j7,j8,j9,y1,y2,y3,S1,h0,h1,h4,aA,bg]
     clear oU sg
     obtain⟨si,oU⟩:∃si,si=scanUp (fun x=>strLt x di[a]!) di j i:=⟨_,rfl⟩
     refine W.cN 6 (fun (k:Nat) R H'=>At H' (fun H'=>H'[c]?=some (.cells (aJ eS di.toList))∧bh (fun x=>x=c) H H')∧R 0=.ax c 0 n 1∧R 1=.int .i64 a∧R 0=.ax c 0 n 1∧R 10=.int .i64 k∧R 11=.int .i64 (j:Nat)∧i≤k∧k≤n∧scanUp (fun x=>strLt x di[a]!) di (j) k=si) (fun k=>j+1-k) (i)
      (fun R H'=>At H' (fun H'=>H'[c]?=some (.cells (aJ eS di.toList))∧bh (fun x=>x=c) H H')∧R 0=.ax c 0 n 1∧R 1=.int .i64 a∧R 0=.ax c 0 n 1∧R 10=.int .i64 si∧R 11=.int .i64 (j:Nat)∧i≤si∧si≤n) ⟨.i ⟨hd,aq⟩,h0,h1,h4,aA,bg,Nat.le_refl _,by omega,oU.symm⟩ ?_ ?_
     ·rintro k R H2⟨⟨hd,aq⟩,h0,h1,h4,aA,bg,qX,oN,hk⟩
      have lc:=aW hd
      by_cases eC:k≤j
      ·simp -implicitDefEqProofs (maxSteps:=1000000) (disch:=omega) only[aa,aD,aE,aF,aG,aH,aI,wA,aZ,wS,aY,wM,S2,op,ef,cl,sq,reduceIte,j4,j5,j6,j7,j8,j9,y1,y2,y3,S1,h0,h1,h4,aA,bg,eC,hd,lc]
       refine ae _ _ _ _ _ _ _ _ (dI di[k]! di[a]! _) ?_
       rintro u H3⟨hu,jv⟩
       cases hu
       have hx:Ext H2 H3:=by rw[jv];exact Ext.rfl'
       have hd:=hx.get hd
       have lc:=aW hd
       have aq:=aq.trans (ay (F:=fun _=>False) hx) (fun _ h=>h.elim)
       have cY:strLt di[k]! di[a]! = decide (strLt di[k]! di[a]! = true):=by simp
       by_cases c1:strLt di[k]! di[a]! = true
       ·simp -implicitDefEqProofs (maxSteps:=1000000) (disch:=omega) only[aa,aD,aE,aF,aG,aH,aI,wA,aZ,wS,aY,wM,S2,op,ef,cl,sq,reduceIte,j4,j5,j6,j7,j8,j9,y1,y2,y3,S1,h0,h1,h4,aA,bg,eC,c1]
        rw[scanUp,if_pos (fG (cn eC) (cY.trans (cn c1)))]at hk
        exact⟨k+1,by omega,.i ⟨hd,aq⟩,rfl,by omega,by omega,hk⟩
       ·simp -implicitDefEqProofs (maxSteps:=1000000) (disch:=omega) only[aa,aD,aE,aF,aG,aH,aI,wA,aZ,wS,aY,wM,S2,op,ef,cl,sq,reduceIte,j4,j5,j6,j7,j8,j9,y1,y2,y3,S1,h0,h1,h4,aA,bg,eC,c1]
        rw[scanUp,if_neg (dJ (cY.trans (cf c1)))]at hk
        subst hk
        exact⟨.i ⟨hd,aq⟩,rfl,qX,oN⟩
      ·simp -implicitDefEqProofs only[op,ef,cl,sq,reduceIte,j4,j5,j6,j7,j8,j9,y1,y2,y3,S1,h0,h1,h4,aA,bg,eC]
       rw[scanUp,if_neg (dg (cf eC))]at hk
       subst hk
       exact⟨.i ⟨hd,aq⟩,rfl,qX,oN⟩
     ·rintro R H2⟨⟨hd,aq⟩,h0,h1,h4,aA,bg,yJ,F7⟩
      simp -implicitDefEqProofs only[op,ef,cl,sq,reduceIte,j4,j5,j6,j7,j8,j9,y1,y2,y3,S1,h0,h1,h4,aA,bg]
      obtain⟨sj,sg⟩:∃sj,sj=scanDown (fun x=>!strLt x di[a]!) di si j:=⟨_,rfl⟩
      refine W.cN 8 (fun (k:Nat) R H'=>At H' (fun H'=>H'[c]?=some (.cells (aJ eS di.toList))∧bh (fun x=>x=c) H H')∧R 0=.ax c 0 n 1∧R 1=.int .i64 a∧R 0=.ax c 0 n 1∧R 10=.int .i64 si∧R 11=.int .i64 k∧k≤j∧scanDown (fun x=>!strLt x di[a]!) di si k=sj) (fun k=>k) (j)
       (fun R H'=>At H' (fun H'=>H'[c]?=some (.cells (aJ eS di.toList))∧bh (fun x=>x=c) H H')∧R 0=.ax c 0 n 1∧R 1=.int .i64 a∧R 0=.ax c 0 n 1∧R 10=.int .i64 si∧R 11=.int .i64 sj∧sj≤j) ⟨.i ⟨hd,aq⟩,h0,h1,h4,aA,bg,Nat.le_refl _,sg.symm⟩ ?_ ?_
      ·rintro k R H3⟨⟨hd,aq⟩,h0,h1,h4,aA,bg,eC,hk⟩
       have lc:=aW hd
       rw[jP (by omega)]at hk
       by_cases bN:si≤k
       ·simp -implicitDefEqProofs (maxSteps:=1000000) (disch:=omega) only[aa,aD,aE,aF,aG,aH,aI,wA,aZ,wS,aY,wM,S2,op,ef,cl,sq,reduceIte,j4,j5,j6,j7,j8,j9,y1,y2,y3,S1,h0,h1,h4,aA,bg,bN,hd,lc]
        refine ae _ _ _ _ _ _ _ _ (dI di[k]! di[a]! _) ?_
        rintro u H4⟨hu,jv⟩
        cases hu
        have hx:Ext H3 H4:=by rw[jv];exact Ext.rfl'
        have hd:=hx.get hd
        have lc:=aW hd
        have aq:=aq.trans (ay (F:=fun _=>False) hx) (fun _ h=>h.elim)
        have cY:strLt di[k]! di[a]! = decide (strLt di[k]! di[a]! = true):=by simp
        by_cases c1:strLt di[k]! di[a]! = true
        ·simp -implicitDefEqProofs (maxSteps:=1000000) (disch:=omega) only[aa,aD,aE,aF,aG,aH,aI,wA,aZ,wS,aY,wM,S2,op,ef,cl,sq,reduceIte,j4,j5,j6,j7,j8,j9,y1,y2,y3,S1,h0,h1,h4,aA,bg,bN,c1]
         rw[if_neg (dJ (by rw[cY,cn c1];rfl))]at hk
         subst hk
         exact⟨.i ⟨hd,aq⟩,rfl,eC⟩
        ·simp -implicitDefEqProofs (maxSteps:=1000000) (disch:=omega) only[aa,aD,aE,aF,aG,aH,aI,wA,aZ,wS,aY,wM,S2,op,ef,cl,sq,reduceIte,j4,j5,j6,j7,j8,j9,y1,y2,y3,S1,h0,h1,h4,aA,bg,bN,c1]
         rw[if_pos (fG (cn bN) (fg (cY.trans (cf c1))))]at hk
         exact⟨k-1,by omega,.i ⟨hd,aq⟩,rfl,by omega,hk⟩
       ·simp -implicitDefEqProofs only[op,ef,cl,sq,reduceIte,j4,j5,j6,j7,j8,j9,y1,y2,y3,S1,h0,h1,h4,aA,bg,bN]
        rw[if_neg (dg (cf bN))]at hk
        subst hk
        exact⟨.i ⟨hd,aq⟩,rfl,eC⟩
      ·rintro R H3⟨⟨hd,aq⟩,h0,h1,h4,aA,bg,F9⟩
       have lc:=aW hd
       rw[Gg oU sg]at hP
       by_cases kg:sj<si
       ·rw[if_pos kg]at hP
        simp -implicitDefEqProofs only[op,ef,cl,sq,reduceIte,j4,j5,j6,j7,j8,j9,y1,y2,y3,S1,h0,h1,h4,aA,bg,kg]
        exact⟨.i ⟨di,hd,a6,by rw[←hP],aq⟩,by rw[←hP],by rw[←hP];simp only;omega⟩
       ·rw[if_neg kg,if_pos (by omega)]at hP
        simp -implicitDefEqProofs (maxSteps:=1000000) (disch:=omega) only[aa,aD,aE,aF,aG,aH,aI,wA,aZ,wS,aY,wM,S2,op,ef,cl,sq,reduceIte,j4,j5,j6,j7,j8,j9,y1,y2,y3,S1,h0,h1,h4,aA,bg,kg,hd,lc]
        exact⟨(si+1,sj-1),by simp only;omega,.i (.swp hd (by rw[swp_size];exact a6) hP aq),rfl,rfl,by simp only;omega,by simp only;omega,by simp only;omega⟩
    ·rintro R H1⟨⟨di,hd,a6,rfl,aq⟩,h0,h1,h4,bg,Cr⟩
     have lc:=aW hd
     simp -implicitDefEqProofs (maxSteps:=1000000) (disch:=omega) only[aa,aD,aE,aF,aG,aH,aI,wA,aZ,wS,aY,wM,S2,op,ef,cl,sq,reduceIte,j4,j5,j6,j7,j8,j9,y1,y2,y3,S1,h0,h1,h4,bg,hd,lc]
     exact .swp hd (by rw[swp_size];exact a6) rfl aq
open Go.Sort in
theorem sk {d:Array ByteArray}{k:Nat}(h:1≤k):shiftDown strLt k d=if (!strLt d[k]! d[k-1]!)=true then d else shiftDown strLt (k-1) (swp d k (k-1)):=by
 cases k with
 | zero=>omega
 | succ k=>rw[shiftDown];rfl
open Go.Sort in
theorem OH (c n:Nat)(d:Array ByteArray)(a b:Nat)(H:af)(hn:d.size=n)(hc:H[c]?=some (.cells (aJ eS d.toList)))(hb:b≤n)(gb:a<b)(hs:n<2305843009213693951) :
  W env (.call 147 [.ax c 0 n 1,.int .i64 a,.int .i64 b]) H (fun o H'=>o=.val (.bool (partialInsertionSort strLt d a b).2)∧hJ c n H (fun x=>x=(partialInsertionSort strLt d a b).1) H'):=by
 refine W.bR rfl rfl rfl ?_
 obtain⟨r,hr⟩:∃r,r=partialInsertionSort strLt d a b:=⟨_,rfl⟩
 rw[←hr]
 simp -implicitDefEqProofs (maxSteps:=1000000) (disch:=omega) only[Ft,aa,aD,aE,aF,aG,aH,aI,wA,aZ,wS,aY,wM,S2,op,ef,cl,sq,reduceIte,j4,j5,j6,j7,j8,j9,y1,y2,y3,S1]
 refine W.cN 0 (fun (j:Nat) R H'=>At H' (fun H'=>∃i,R 7=.int .i64 (i:Nat)∧a<i∧i≤b∧hJ c n H (fun di=>partialIns strLt a b (5-j) i di=r) H')∧R 0=.ax c 0 n 1∧R 1=.int .i64 a∧R 2=.int .i64 b∧R 0=.ax c 0 n 1∧R 8=.int .i64 j∧j≤5) (fun j=>5-j) 0
  (fun R H'=>At H' (fun H'=>hJ c n H (fun di=>(di,false)=r) H')) ⟨.i ⟨a+1,rfl,by omega,by omega,d,hc,hn,hr.symm,bh.refl _ _⟩,rfl,rfl,rfl,rfl,rfl,by omega⟩ ?_ ?_
 ·rintro j R H1⟨⟨i,h9,FX,Zn,di,hd,a6,hP,aq⟩,h0,h1,h2,h3,aB,hj⟩
  by_cases Zo:j<5
  rotate_left
  ·have:j=5:=by omega
   subst this
   simp -implicitDefEqProofs only[op,ef,cl,sq,reduceIte,j4,j5,j6,j7,j8,j9,y1,y2,y3,S1,h0,h1,h2,h3,aB]
   exact .i ⟨di,hd,a6,hP,aq⟩
  obtain⟨s,Oq⟩:∃s,5-j=s+1:=⟨4-j,by omega⟩
  have uL:5-(j+1)=s:=by omega
  rw[Oq,partialIns]at hP
  simp -implicitDefEqProofs only[op,ef,cl,sq,reduceIte,j4,j5,j6,j7,j8,j9,y1,y2,y3,S1,h0,h1,h2,h3,aB,Zo]
  obtain⟨si,oU⟩:∃si,si=scanSorted strLt di b i:=⟨_,rfl⟩
  rw[←oU]at hP
  refine W.cN 2 (fun (k:Nat) R H'=>At H' (fun H'=>H'[c]?=some (.cells (aJ eS di.toList))∧bh (fun x=>x=c) H H')∧R 0=.ax c 0 n 1∧R 1=.int .i64 a∧R 2=.int .i64 b∧R 0=.ax c 0 n 1∧R 7=.int .i64 k∧R 8=.int .i64 j∧i≤k∧k≤b∧scanSorted strLt di b k=si) (fun k=>b-k) i
   (fun R H'=>At H' (fun H'=>H'[c]?=some (.cells (aJ eS di.toList))∧bh (fun x=>x=c) H H')∧R 0=.ax c 0 n 1∧R 1=.int .i64 a∧R 2=.int .i64 b∧R 0=.ax c 0 n 1∧R 7=.int .i64 si∧R 8=.int .i64 j∧i≤si∧si≤b) ⟨.i ⟨hd,aq⟩,?_,?_,?_,?_,?_,?_,Nat.le_refl _,Zn,oU.symm⟩ ?_ ?_
  ·simp -implicitDefEqProofs only[op,ef,cl,sq,reduceIte,j4,j5,j6,j7,j8,j9,y1,y2,y3,S1,h0]
  ·simp -implicitDefEqProofs only[op,ef,cl,sq,reduceIte,j4,j5,j6,j7,j8,j9,y1,y2,y3,S1,h1]
  ·simp -implicitDefEqProofs only[op,ef,cl,sq,reduceIte,j4,j5,j6,j7,j8,j9,y1,y2,y3,S1,h2]
  ·simp -implicitDefEqProofs only[op,ef,cl,sq,reduceIte,j4,j5,j6,j7,j8,j9,y1,y2,y3,S1,h3]
  ·simp -implicitDefEqProofs only[op,ef,cl,sq,reduceIte,j4,j5,j6,j7,j8,j9,y1,y2,y3,S1,h9]
  ·simp -implicitDefEqProofs only[op,ef,cl,sq,reduceIte,j4,j5,j6,j7,j8,j9,y1,y2,y3,S1,aB]
  ·rintro k R H2⟨⟨hd,aq⟩,h0,h1,h2,h3,h9,aB,qX,Be,hk⟩
   have lc:=aW hd
   by_cases bN:k<b
   ·simp -implicitDefEqProofs (maxSteps:=1000000) (disch:=omega) only[aa,aD,aE,aF,aG,aH,aI,wA,aZ,wS,aY,wM,S2,op,ef,cl,sq,reduceIte,j4,j5,j6,j7,j8,j9,y1,y2,y3,S1,h0,h1,h2,h3,h9,aB,bN,hd,lc]
    refine ae _ _ _ _ _ _ _ _ (dI di[k]! di[k-1]! _) ?_
    rintro u H3⟨hu,jv⟩
    cases hu
    have hx:Ext H2 H3:=by rw[jv];exact Ext.rfl'
    have hd:=hx.get hd
    have lc:=aW hd
    have aq:=aq.trans (ay (F:=fun _=>False) hx) (fun _ h=>h.elim)
    have cY:strLt di[k]! di[k-1]! = decide (strLt di[k]! di[k-1]! = true):=by simp
    by_cases c1:strLt di[k]! di[k-1]! = true
    ·simp -implicitDefEqProofs (maxSteps:=1000000) (disch:=omega) only[aa,aD,aE,aF,aG,aH,aI,wA,aZ,wS,aY,wM,S2,op,ef,cl,sq,reduceIte,j4,j5,j6,j7,j8,j9,y1,y2,y3,S1,h0,h1,h2,h3,h9,aB,bN,c1]
     rw[scanSorted,if_neg (dJ (by rw[cY,cn c1];rfl))]at hk
     subst hk
     exact⟨.i ⟨hd,aq⟩,rfl,qX,Be⟩
    ·simp -implicitDefEqProofs (maxSteps:=1000000) (disch:=omega) only[aa,aD,aE,aF,aG,aH,aI,wA,aZ,wS,aY,wM,S2,op,ef,cl,sq,reduceIte,j4,j5,j6,j7,j8,j9,y1,y2,y3,S1,h0,h1,h2,h3,h9,aB,bN,c1]
     rw[scanSorted,if_pos (fG (cn bN) (fg (cY.trans (cf c1))))]at hk
     exact⟨k+1,by omega,.i ⟨hd,aq⟩,rfl,by omega,by omega,hk⟩
   ·simp -implicitDefEqProofs only[op,ef,cl,sq,reduceIte,j4,j5,j6,j7,j8,j9,y1,y2,y3,S1,h0,h1,h2,h3,h9,aB,bN]
    rw[scanSorted,if_neg (dg (cf bN))]at hk
    subst hk
    exact⟨.i ⟨hd,aq⟩,rfl,qX,Be⟩
  ·rintro R H2⟨⟨hd,aq⟩,h0,h1,h2,h3,h9,aB,yJ,Zp⟩
   have lc:=aW hd
   by_cases ko:si=b
   ·rw[if_pos ko]at hP
    have e1:((si:Int)==(b:Int))=true:=by rw[ko];simp
    simp -implicitDefEqProofs (maxSteps:=1000000) (disch:=omega) only[aa,aD,aE,aF,aG,aH,aI,wA,aZ,wS,aY,wM,S2,op,ef,cl,sq,reduceIte,j4,j5,j6,j7,j8,j9,y1,y2,y3,S1,h0,h1,h2,h3,h9,aB,e1]
    rw[←hP]
    exact⟨rfl,di,hd,a6,rfl,aq⟩
   rw[if_neg ko]at hP
   have e1:((si:Int)==(b:Int))=false:=by simp;omega
   by_cases uK:b-a<50
   ·rw[if_pos uK]at hP
    simp -implicitDefEqProofs (maxSteps:=1000000) (disch:=omega) only[aa,aD,aE,aF,aG,aH,aI,wA,aZ,wS,aY,wM,S2,op,ef,cl,sq,reduceIte,j4,j5,j6,j7,j8,j9,y1,y2,y3,S1,h0,h1,h2,h3,h9,aB,e1,uK]
    rw[←hP]
    exact⟨rfl,di,hd,a6,rfl,aq⟩
   rw[if_neg uK]at hP
   simp -implicitDefEqProofs (maxSteps:=1000000) (disch:=omega) only[aa,aD,aE,aF,aG,aH,aI,wA,aZ,wS,aY,wM,S2,op,ef,cl,sq,reduceIte,j4,j5,j6,j7,j8,j9,y1,y2,y3,S1,h0,h1,h2,h3,h9,aB,e1,uK,hd,lc]
   obtain⟨d3,nL⟩:∃d3,d3=if si-a≥2 then shiftDown strLt (si-1) (swp di si (si-1))else swp di si (si-1):=⟨_,rfl⟩
   obtain⟨d4,qY⟩:∃d4,d4=if b-si≥2 then shiftUp strLt b (si+1) d3 else d3:=⟨_,rfl⟩
   have hP:partialIns strLt a b s si d4=r:=by rw[qY,nL];exact hP
   obtain⟨d2,cu,gZ,e2,dN⟩:=hJ.swp (n:=n) (P:=fun x=>x=swp di si (si-1)) (x:=.cells (aJ eS (di.toList.set si di[si-1]!))) hd (by rw[swp_size];exact a6) rfl aq
   subst e2
   generalize ((H2.set c (.cells (aJ eS (di.toList.set si di[si-1]!)))).set c (.cells (aJ eS (swp di si (si-1)).toList)))=H5 at *
   by_cases hA:2≤si-a
   ·rw[if_pos hA]at nL
    simp -implicitDefEqProofs (maxSteps:=1000000) (disch:=omega) only[aa,aD,aE,aF,aG,aH,aI,wA,aZ,wS,aY,wM,S2,op,ef,cl,sq,reduceIte,j4,j5,j6,j7,j8,j9,y1,y2,y3,S1,h0,h1,h2,h3,h9,aB,hA]
    refine W.cN 4 (fun (k:Nat) R H'=>At H' (fun H'=>hJ c n H (fun dx=>shiftDown strLt k dx=d3) H')∧R 0=.ax c 0 n 1∧R 1=.int .i64 a∧R 2=.int .i64 b∧R 0=.ax c 0 n 1∧R 7=.int .i64 si∧R 8=.int .i64 j∧R 9=.int .i64 k∧k<b) (fun k=>k) (si-1)
     (fun R H'=>At H' (fun H'=>hJ c n H (fun dx=>dx=d3) H')∧R 0=.ax c 0 n 1∧R 1=.int .i64 a∧R 2=.int .i64 b∧R 0=.ax c 0 n 1∧R 7=.int .i64 si∧R 8=.int .i64 j) ⟨.i ⟨_,cu,gZ,nL.symm,dN⟩,?_,?_,?_,?_,?_,?_,?_,by omega⟩ ?_ ?_
    ·simp -implicitDefEqProofs only[op,ef,cl,sq,reduceIte,j4,j5,j6,j7,j8,j9,y1,y2,y3,S1,h0]
    ·simp -implicitDefEqProofs only[op,ef,cl,sq,reduceIte,j4,j5,j6,j7,j8,j9,y1,y2,y3,S1,h1]
    ·simp -implicitDefEqProofs only[op,ef,cl,sq,reduceIte,j4,j5,j6,j7,j8,j9,y1,y2,y3,S1,h2]
    ·simp -implicitDefEqProofs only[op,ef,cl,sq,reduceIte,j4,j5,j6,j7,j8,j9,y1,y2,y3,S1,h3]
    ·simp -implicitDefEqProofs only[op,ef,cl,sq,reduceIte,j4,j5,j6,j7,j8,j9,y1,y2,y3,S1,h9]
    ·simp -implicitDefEqProofs only[op,ef,cl,sq,reduceIte,j4,j5,j6,j7,j8,j9,y1,y2,y3,S1,aB]
    ·simp -implicitDefEqProofs only[op,ef,cl,sq,reduceIte,j4,j5,j6,j7,j8,j9,y1,y2,y3,S1]
    ·rintro k R H2⟨⟨dx,hd,a6,hk,aq⟩,h0,h1,h2,h3,h9,aB,a0,Be⟩
     have lc:=aW hd
     by_cases om:1≤k
     ·simp -implicitDefEqProofs (maxSteps:=1000000) (disch:=omega) only[aa,aD,aE,aF,aG,aH,aI,wA,aZ,wS,aY,wM,S2,op,ef,cl,sq,reduceIte,j4,j5,j6,j7,j8,j9,y1,y2,y3,S1,h0,h1,h2,h3,h9,aB,a0,om,hd,lc]
      refine ae _ _ _ _ _ _ _ _ (dI dx[k]! dx[k-1]! _) ?_
      rintro u H3⟨hu,jv⟩
      cases hu
      have hx:Ext H2 H3:=by rw[jv];exact Ext.rfl'
      have hd:=hx.get hd
      have lc:=aW hd
      have aq:=aq.trans (ay (F:=fun _=>False) hx) (fun _ h=>h.elim)
      have cY:strLt dx[k]! dx[k-1]! = decide (strLt dx[k]! dx[k-1]! = true):=by simp
      rw[sk om]at hk
      by_cases c1:strLt dx[k]! dx[k-1]! = true
      ·simp -implicitDefEqProofs (maxSteps:=1000000) (disch:=omega) only[aa,aD,aE,aF,aG,aH,aI,wA,aZ,wS,aY,wM,S2,op,ef,cl,sq,reduceIte,j4,j5,j6,j7,j8,j9,y1,y2,y3,S1,h0,h1,h2,h3,h9,aB,a0,om,hd,lc,c1]
       rw[if_neg (jX (cY.trans (cn c1)))]at hk
       exact⟨k-1,by omega,.i (.swp hd (by rw[swp_size];exact a6) hk aq),rfl,by omega⟩
      ·simp -implicitDefEqProofs (maxSteps:=1000000) (disch:=omega) only[aa,aD,aE,aF,aG,aH,aI,wA,aZ,wS,aY,wM,S2,op,ef,cl,sq,reduceIte,j4,j5,j6,j7,j8,j9,y1,y2,y3,S1,h0,h1,h2,h3,h9,aB,a0,om,hd,lc,c1]
       rw[if_pos (fg (cY.trans (cf c1)))]at hk
       exact .i ⟨dx,hd,a6,hk,aq⟩
     ·have Qs:k=0:=by omega
      subst Qs
      simp -implicitDefEqProofs only[op,ef,cl,sq,reduceIte,j4,j5,j6,j7,j8,j9,y1,y2,y3,S1,h0,h1,h2,h3,h9,aB,a0,om]
      rw[shiftDown]at hk
      exact .i ⟨dx,hd,a6,hk,aq⟩
    ·rintro R H2⟨⟨dx,hd,oV,rfl,aq⟩,h0,h1,h2,h3,h9,aB⟩
     have lc:=aW hd
     by_cases hB:2≤b-si
     ·simp -implicitDefEqProofs (maxSteps:=1000000) (disch:=omega) only[aa,aD,aE,aF,aG,aH,aI,wA,aZ,wS,aY,wM,S2,op,ef,cl,sq,reduceIte,j4,j5,j6,j7,j8,j9,y1,y2,y3,S1,h0,h1,h2,h3,h9,aB,hB]
      rw[if_pos hB]at qY
      refine W.cN 6 (fun (k:Nat) R H'=>At H' (fun H'=>hJ c n H (fun dx=>shiftUp strLt b k dx=d4) H')∧R 0=.ax c 0 n 1∧R 1=.int .i64 a∧R 2=.int .i64 b∧R 0=.ax c 0 n 1∧R 7=.int .i64 si∧R 8=.int .i64 j∧R 10=.int .i64 k∧1≤k∧k≤b) (fun k=>b-k) (si+1)
       (fun R H'=>At H' (fun H'=>hJ c n H (fun dx=>dx=d4) H')∧R 0=.ax c 0 n 1∧R 1=.int .i64 a∧R 2=.int .i64 b∧R 0=.ax c 0 n 1∧R 7=.int .i64 si∧R 8=.int .i64 j) ⟨.i ⟨dx,hd,oV,qY.symm,aq⟩,?_,?_,?_,?_,?_,?_,?_,by omega,by omega⟩ ?_ ?_
      ·simp -implicitDefEqProofs only[op,ef,cl,sq,reduceIte,j4,j5,j6,j7,j8,j9,y1,y2,y3,S1,h0]
      ·simp -implicitDefEqProofs only[op,ef,cl,sq,reduceIte,j4,j5,j6,j7,j8,j9,y1,y2,y3,S1,h1]
      ·simp -implicitDefEqProofs only[op,ef,cl,sq,reduceIte,j4,j5,j6,j7,j8,j9,y1,y2,y3,S1,h2]
      ·simp -implicitDefEqProofs only[op,ef,cl,sq,reduceIte,j4,j5,j6,j7,j8,j9,y1,y2,y3,S1,h3]
      ·simp -implicitDefEqProofs only[op,ef,cl,sq,reduceIte,j4,j5,j6,j7,j8,j9,y1,y2,y3,S1,h9]
      ·simp -implicitDefEqProofs only[op,ef,cl,sq,reduceIte,j4,j5,j6,j7,j8,j9,y1,y2,y3,S1,aB]
      ·simp -implicitDefEqProofs only[op,ef,cl,sq,reduceIte,j4,j5,j6,j7,j8,j9,y1,y2,y3,S1]
      ·rintro k R H2⟨⟨dx,hd,a6,hk,aq⟩,h0,h1,h2,h3,h9,aB,aA,om,Be⟩
       have lc:=aW hd
       by_cases bN:k<b
       ·simp -implicitDefEqProofs (maxSteps:=1000000) (disch:=omega) only[aa,aD,aE,aF,aG,aH,aI,wA,aZ,wS,aY,wM,S2,op,ef,cl,sq,reduceIte,j4,j5,j6,j7,j8,j9,y1,y2,y3,S1,h0,h1,h2,h3,h9,aB,aA,bN,hd,lc]
        refine ae _ _ _ _ _ _ _ _ (dI dx[k]! dx[k-1]! _) ?_
        rintro u H3⟨hu,jv⟩
        cases hu
        have hx:Ext H2 H3:=by rw[jv];exact Ext.rfl'
        have hd:=hx.get hd
        have lc:=aW hd
        have aq:=aq.trans (ay (F:=fun _=>False) hx) (fun _ h=>h.elim)
        have cY:strLt dx[k]! dx[k-1]! = decide (strLt dx[k]! dx[k-1]! = true):=by simp
        rw[shiftUp,if_pos bN]at hk
        by_cases c1:strLt dx[k]! dx[k-1]! = true
        ·simp -implicitDefEqProofs (maxSteps:=1000000) (disch:=omega) only[aa,aD,aE,aF,aG,aH,aI,wA,aZ,wS,aY,wM,S2,op,ef,cl,sq,reduceIte,j4,j5,j6,j7,j8,j9,y1,y2,y3,S1,h0,h1,h2,h3,h9,aB,aA,bN,hd,lc,c1]
         rw[if_neg (jX (cY.trans (cn c1)))]at hk
         exact⟨k+1,by omega,.i (.swp hd (by rw[swp_size];exact a6) hk aq),rfl,by omega,by omega⟩
        ·simp -implicitDefEqProofs (maxSteps:=1000000) (disch:=omega) only[aa,aD,aE,aF,aG,aH,aI,wA,aZ,wS,aY,wM,S2,op,ef,cl,sq,reduceIte,j4,j5,j6,j7,j8,j9,y1,y2,y3,S1,h0,h1,h2,h3,h9,aB,aA,bN,hd,lc,c1]
         rw[if_pos (fg (cY.trans (cf c1)))]at hk
         exact .i ⟨dx,hd,a6,hk,aq⟩
       ·simp -implicitDefEqProofs only[op,ef,cl,sq,reduceIte,j4,j5,j6,j7,j8,j9,y1,y2,y3,S1,h0,h1,h2,h3,h9,aB,aA,bN]
        rw[shiftUp,if_neg bN]at hk
        exact .i ⟨dx,hd,a6,hk,aq⟩
      ·rintro R H2⟨⟨dx,hd,a6,rfl,aq⟩,h0,h1,h2,h3,h9,aB⟩
       simp -implicitDefEqProofs (maxSteps:=1000000) (disch:=omega) only[aa,aD,aE,aF,aG,aH,aI,wA,aZ,wS,aY,wM,S2,op,ef,cl,sq,reduceIte,j4,j5,j6,j7,j8,j9,y1,y2,y3,S1,h0,h1,h2,h3,h9,aB]
       exact⟨j+1,by omega,.i ⟨si,rfl,by omega,by omega,dx,hd,a6,by rw[uL];exact hP,aq⟩,rfl,by omega⟩
     ·rw[if_neg hB]at qY
      subst qY
      simp -implicitDefEqProofs (maxSteps:=1000000) (disch:=omega) only[aa,aD,aE,aF,aG,aH,aI,wA,aZ,wS,aY,wM,S2,op,ef,cl,sq,reduceIte,j4,j5,j6,j7,j8,j9,y1,y2,y3,S1,h0,h1,h2,h3,h9,aB,hB]
      exact⟨j+1,by omega,.i ⟨si,rfl,by omega,by omega,d4,hd,oV,by rw[uL];exact hP,aq⟩,rfl,by omega⟩
   ·rw[if_neg hA]at nL
    simp -implicitDefEqProofs (maxSteps:=1000000) (disch:=omega) only[aa,aD,aE,aF,aG,aH,aI,wA,aZ,wS,aY,wM,S2,op,ef,cl,sq,reduceIte,j4,j5,j6,j7,j8,j9,y1,y2,y3,S1,h0,h1,h2,h3,h9,aB,hA]
    have hd:=cu
    have oV:=gZ
    have aq:=dN
    rw[←nL]at hd oV
    by_cases hB:2≤b-si
    ·simp -implicitDefEqProofs (maxSteps:=1000000) (disch:=omega) only[aa,aD,aE,aF,aG,aH,aI,wA,aZ,wS,aY,wM,S2,op,ef,cl,sq,reduceIte,j4,j5,j6,j7,j8,j9,y1,y2,y3,S1,h0,h1,h2,h3,h9,aB,hB]
     rw[if_pos hB]at qY
     refine W.cN 6 (fun (k:Nat) R H'=>At H' (fun H'=>hJ c n H (fun dx=>shiftUp strLt b k dx=d4) H')∧R 0=.ax c 0 n 1∧R 1=.int .i64 a∧R 2=.int .i64 b∧R 0=.ax c 0 n 1∧R 7=.int .i64 si∧R 8=.int .i64 j∧R 10=.int .i64 k∧1≤k∧k≤b) (fun k=>b-k) (si+1)
      (fun R H'=>At H' (fun H'=>hJ c n H (fun dx=>dx=d4) H')∧R 0=.ax c 0 n 1∧R 1=.int .i64 a∧R 2=.int .i64 b∧R 0=.ax c 0 n 1∧R 7=.int .i64 si∧R 8=.int .i64 j) ⟨.i ⟨d3,hd,oV,qY.symm,aq⟩,?_,?_,?_,?_,?_,?_,?_,by omega,by omega⟩ ?_ ?_
     ·simp -implicitDefEqProofs only[op,ef,cl,sq,reduceIte,j4,j5,j6,j7,j8,j9,y1,y2,y3,S1,h0]
     ·simp -implicitDefEqProofs only[op,ef,cl,sq,reduceIte,j4,j5,j6,j7,j8,j9,y1,y2,y3,S1,h1]
     ·simp -implicitDefEqProofs only[op,ef,cl,sq,reduceIte,j4,j5,j6,j7,j8,j9,y1,y2,y3,S1,h2]
     ·simp -implicitDefEqProofs only[op,ef,cl,sq,reduceIte,j4,j5,j6,j7,j8,j9,y1,y2,y3,S1,h3]
     ·simp -implicitDefEqProofs only[op,ef,cl,sq,reduceIte,j4,j5,j6,j7,j8,j9,y1,y2,y3,S1,h9]
     ·simp -implicitDefEqProofs only[op,ef,cl,sq,reduceIte,j4,j5,j6,j7,j8,j9,y1,y2,y3,S1,aB]
     ·simp -implicitDefEqProofs only[op,ef,cl,sq,reduceIte,j4,j5,j6,j7,j8,j9,y1,y2,y3,S1]
     ·rintro k R H2⟨⟨dx,hd,a6,hk,aq⟩,h0,h1,h2,h3,h9,aB,aA,om,Be⟩
      have lc:=aW hd
      by_cases bN:k<b
      ·simp -implicitDefEqProofs (maxSteps:=1000000) (disch:=omega) only[aa,aD,aE,aF,aG,aH,aI,wA,aZ,wS,aY,wM,S2,op,ef,cl,sq,reduceIte,j4,j5,j6,j7,j8,j9,y1,y2,y3,S1,h0,h1,h2,h3,h9,aB,aA,bN,hd,lc]
       refine ae _ _ _ _ _ _ _ _ (dI dx[k]! dx[k-1]! _) ?_
       rintro u H3⟨hu,jv⟩
       cases hu
       have hx:Ext H2 H3:=by rw[jv];exact Ext.rfl'
       have hd:=hx.get hd
       have lc:=aW hd
       have aq:=aq.trans (ay (F:=fun _=>False) hx) (fun _ h=>h.elim)
       have cY:strLt dx[k]! dx[k-1]! = decide (strLt dx[k]! dx[k-1]! = true):=by simp
       rw[shiftUp,if_pos bN]at hk
       by_cases c1:strLt dx[k]! dx[k-1]! = true
       ·simp -implicitDefEqProofs (maxSteps:=1000000) (disch:=omega) only[aa,aD,aE,aF,aG,aH,aI,wA,aZ,wS,aY,wM,S2,op,ef,cl,sq,reduceIte,j4,j5,j6,j7,j8,j9,y1,y2,y3,S1,h0,h1,h2,h3,h9,aB,aA,bN,hd,lc,c1]
        rw[if_neg (jX (cY.trans (cn c1)))]at hk
        exact⟨k+1,by omega,.i (.swp hd (by rw[swp_size];exact a6) hk aq),rfl,by omega,by omega⟩
       ·simp -implicitDefEqProofs (maxSteps:=1000000) (disch:=omega) only[aa,aD,aE,aF,aG,aH,aI,wA,aZ,wS,aY,wM,S2,op,ef,cl,sq,reduceIte,j4,j5,j6,j7,j8,j9,y1,y2,y3,S1,h0,h1,h2,h3,h9,aB,aA,bN,hd,lc,c1]
        rw[if_pos (fg (cY.trans (cf c1)))]at hk
        exact .i ⟨dx,hd,a6,hk,aq⟩
      ·simp -implicitDefEqProofs only[op,ef,cl,sq,reduceIte,j4,j5,j6,j7,j8,j9,y1,y2,y3,S1,h0,h1,h2,h3,h9,aB,aA,bN]
       rw[shiftUp,if_neg bN]at hk
       exact .i ⟨dx,hd,a6,hk,aq⟩
     ·rintro R H2⟨⟨dx,hd,a6,rfl,aq⟩,h0,h1,h2,h3,h9,aB⟩
      simp -implicitDefEqProofs (maxSteps:=1000000) (disch:=omega) only[aa,aD,aE,aF,aG,aH,aI,wA,aZ,wS,aY,wM,S2,op,ef,cl,sq,reduceIte,j4,j5,j6,j7,j8,j9,y1,y2,y3,S1,h0,h1,h2,h3,h9,aB]
      exact⟨j+1,by omega,.i ⟨si,rfl,by omega,by omega,dx,hd,a6,by rw[uL];exact hP,aq⟩,rfl,by omega⟩
    ·rw[if_neg hB]at qY
     subst qY
     simp -implicitDefEqProofs (maxSteps:=1000000) (disch:=omega) only[aa,aD,aE,aF,aG,aH,aI,wA,aZ,wS,aY,wM,S2,op,ef,cl,sq,reduceIte,j4,j5,j6,j7,j8,j9,y1,y2,y3,S1,h0,h1,h2,h3,h9,aB,hB]
     exact⟨j+1,by omega,.i ⟨si,rfl,by omega,by omega,d4,hd,oV,by rw[uL];exact hP,aq⟩,rfl,by omega⟩
 ·rintro R H1⟨di,hd,a6,hP,aq⟩
  try simp -implicitDefEqProofs only[op,ef,cl,sq,reduceIte,j4,j5,j6,j7,j8,j9,y1,y2,y3,S1]
  rw[←hP]
  exact⟨rfl,di,hd,a6,rfl,aq⟩
structure xi (R:ar)(c n a b b8:Nat)(wb wp:Bool):Prop where
 r0:R 0=.ax c 0 n 1
 r1:R 1=.int .i64 a
 r2:R 2=.int .i64 b
 r3:R 3=.int .i64 b8
 r4:R 0=.ax c 0 n 1
 Zr:R 8=.bool wb
 Zs:R 9=.bool wp
 Th:R 10=.int .i64 (b-a:Nat)
open Go.Sort in
theorem Ts (A:C)(hA:(cZ ey.body 1).map (eD · 3)=some A)(c n a b b8:Nat)(wb wp:Bool)(d:Array ByteArray)(R:ar)(H0 H:af)(K:Out→af→Prop)(hp:xi R c n a b b8 wb wp)(hd:hJ c n H0 (fun x=>x=d) H)(hb:b≤n)(gb:a+12<b)(hs:n<16777216)(hl:1≤b8∧b8<1000)
  (rest:∀R' H',xi R' c n a b (if (!wb)=true then b8-1 else b8) wb wp→hJ c n H0 (fun x=>x=if (!wb)=true then breakPatterns d a b else d) H'→K (.ex .normal R') H'):eF env A R H K:=by
 simp[ey,cZ,eD,sq]at hA
 subst hA
 obtain⟨h0,h1,h2,h3,h4,aB,a0,aA⟩:=hp
 obtain⟨di,hc,hn,rfl,aq⟩:=hd
 cases wb with
 | true =>
  simp -implicitDefEqProofs (maxSteps:=1000000) (disch:=omega) only[op,ef,cl,sq,reduceIte,j4,j5,j6,j7,j8,j9,y1,y2,y3,S1,h0,h1,h2,h3,h4,aB,a0,aA]
  exact rest _ _ ⟨by simp -implicitDefEqProofs only[op,ef,cl,sq,reduceIte,j4,j5,j6,j7,j8,j9,y1,y2,y3,S1,h0],by simp -implicitDefEqProofs only[op,ef,cl,sq,reduceIte,j4,j5,j6,j7,j8,j9,y1,y2,y3,S1,h1],by simp -implicitDefEqProofs only[op,ef,cl,sq,reduceIte,j4,j5,j6,j7,j8,j9,y1,y2,y3,S1,h2],by simp -implicitDefEqProofs only[op,ef,cl,sq,reduceIte,j4,j5,j6,j7,j8,j9,y1,y2,y3,S1,h3],by simp -implicitDefEqProofs only[op,ef,cl,sq,reduceIte,j4,j5,j6,j7,j8,j9,y1,y2,y3,S1,h4],by simp -implicitDefEqProofs only[op,ef,cl,sq,reduceIte,j4,j5,j6,j7,j8,j9,y1,y2,y3,S1,aB],by simp -implicitDefEqProofs only[op,ef,cl,sq,reduceIte,j4,j5,j6,j7,j8,j9,y1,y2,y3,S1,a0],by simp -implicitDefEqProofs only[op,ef,cl,sq,reduceIte,j4,j5,j6,j7,j8,j9,y1,y2,y3,S1,aA]⟩ ⟨di,hc,hn,rfl,aq⟩
 | false =>
  simp -implicitDefEqProofs (maxSteps:=1000000) (disch:=omega) only[op,ef,cl,sq,reduceIte,j4,j5,j6,j7,j8,j9,y1,y2,y3,S1,h0,h1,h2,h3,h4,aB,a0,aA]
  refine ae _ _ _ _ _ _ _ _ (JW c n di a b _ hn hc hb gb hs) ?_
  rintro u H2⟨hu,d2,cu,gZ,e2,dN⟩
  cases hu
  simp -implicitDefEqProofs (maxSteps:=1000000) (disch:=omega) only[aa,aD,aE,aF,aG,aH,aI,wA,aZ,wS,aY,wM,S2,op,ef,cl,sq,reduceIte,j4,j5,j6,j7,j8,j9,y1,y2,y3,S1,h0,h1,h2,h3,h4,aB,a0,aA]
  exact rest _ _ ⟨by simp -implicitDefEqProofs only[op,ef,cl,sq,reduceIte,j4,j5,j6,j7,j8,j9,y1,y2,y3,S1,h0],by simp -implicitDefEqProofs only[op,ef,cl,sq,reduceIte,j4,j5,j6,j7,j8,j9,y1,y2,y3,S1,h1],by simp -implicitDefEqProofs only[op,ef,cl,sq,reduceIte,j4,j5,j6,j7,j8,j9,y1,y2,y3,S1,h2],by simp -implicitDefEqProofs only[op,ef,cl,sq,reduceIte,j4,j5,j6,j7,j8,j9,y1,y2,y3,S1],by simp -implicitDefEqProofs only[op,ef,cl,sq,reduceIte,j4,j5,j6,j7,j8,j9,y1,y2,y3,S1,h4],by simp -implicitDefEqProofs only[op,ef,cl,sq,reduceIte,j4,j5,j6,j7,j8,j9,y1,y2,y3,S1,aB],by simp -implicitDefEqProofs only[op,ef,cl,sq,reduceIte,j4,j5,j6,j7,j8,j9,y1,y2,y3,S1,a0],by simp -implicitDefEqProofs only[op,ef,cl,sq,reduceIte,j4,j5,j6,j7,j8,j9,y1,y2,y3,S1,aA]⟩ ⟨d2,cu,gZ,e2,aq.trans dN fun _ h=>.inl h⟩
open Go.Sort in
theorem Tt (A:C)(hA:(cZ ey.body 1).map (eD · 5)=some A)(c n a b b8:Nat)(wb wp:Bool)(d:Array ByteArray)(pv:Nat)(hi:Hint)(R:ar)(H0 H:af)(K:Out→af→Prop)(hp:xi R c n a b b8 wb wp)(bg:R 11=.int .i64 pv)(mN:R 12=.int .i64 (gy hi))(hd:hJ c n H0 (fun x=>x=d) H)(hb:b≤n)(gb:a+12<b)(hs:n<16777216)(l3:a≤pv∧pv<b)
  (rest:∀R' H',xi R' c n a b b8 wb wp→R' 11=.int .i64 (if hi=.decreasing then(b-1)-(pv-a)else pv:Nat)→R' 12=.int .i64 (gy (if hi=.decreasing then Hint.increasing else hi))→hJ c n H0 (fun x=>x=if hi=.decreasing then reverseRange d a b else d) H'→K (.ex .normal R') H'):eF env A R H K:=by
 simp[ey,cZ,eD,sq]at hA
 subst hA
 obtain⟨h0,h1,h2,h3,h4,aB,a0,aA⟩:=hp
 obtain⟨di,hc,hn,rfl,aq⟩:=hd
 have e:((gy hi)==2)=decide (hi=.decreasing):=by cases hi<;>decide
 by_cases hh:hi=.decreasing
 ·rw[decide_eq_true hh]at e
  simp -implicitDefEqProofs (maxSteps:=1000000) (disch:=omega) only[op,ef,cl,sq,reduceIte,j4,j5,j6,j7,j8,j9,y1,y2,y3,S1,h0,h1,h2,h3,h4,aB,a0,aA,bg,mN,e]
  refine ae _ _ _ _ _ _ _ _ (Tp c n di a b _ hn hc hb (by omega) (by omega)) ?_
  rintro u H2⟨hu,d2,cu,gZ,e2,dN⟩
  cases hu
  simp -implicitDefEqProofs (maxSteps:=1000000) (disch:=omega) only[aa,aD,aE,aF,aG,aH,aI,wA,aZ,wS,aY,wM,S2,op,ef,cl,sq,reduceIte,j4,j5,j6,j7,j8,j9,y1,y2,y3,S1,h0,h1,h2,h3,h4,aB,a0,aA,bg,mN]
  refine rest _ _ ⟨?_,?_,?_,?_,?_,?_,?_,?_⟩ ?_ ?_ ⟨d2,cu,gZ,?_,aq.trans dN fun _ h=>.inl h⟩
  all_goals simp -implicitDefEqProofs only[op,ef,cl,sq,reduceIte,j4,j5,j6,j7,j8,j9,y1,y2,y3,S1,h0,h1,h2,h3,h4,aB,a0,aA,if_pos hh,gy]
  exact e2
 ·rw[decide_eq_false hh]at e
  simp -implicitDefEqProofs (maxSteps:=1000000) (disch:=omega) only[op,ef,cl,sq,reduceIte,j4,j5,j6,j7,j8,j9,y1,y2,y3,S1,h0,h1,h2,h3,h4,aB,a0,aA,bg,mN,e]
  refine rest _ _ ⟨?_,?_,?_,?_,?_,?_,?_,?_⟩ ?_ ?_ ⟨di,hc,hn,?_,aq⟩
  all_goals simp -implicitDefEqProofs only[op,ef,cl,sq,reduceIte,j4,j5,j6,j7,j8,j9,y1,y2,y3,S1,h0,h1,h2,h3,h4,aB,a0,aA,bg,mN,if_neg hh]
open Go.Sort in
theorem Tu (A:C)(hA:(cZ ey.body 1).map (eD · 6)=some A)(c n a b b8:Nat)(wb wp:Bool)(d:Array ByteArray)(pv:Nat)(hi:Hint)(R:ar)(H0 H:af)(K:Out→af→Prop)(hp:xi R c n a b b8 wb wp)(bg:R 11=.int .i64 pv)(mN:R 12=.int .i64 (gy hi))(hd:hJ c n H0 (fun x=>x=d) H)(hb:b≤n)(gb:a+12<b)(hs:n<16777216)
  (pi:Array ByteArray×Bool) (Ga:pi=if (wb&&wp&&hi=.increasing)=true then partialInsertionSort strLt d a b else(d,false))
  (hG:∀R' H',pi.2=true→hJ c n H0 (fun x=>x=pi.1) H'→K (.ex .ret R') H')
  (fh:∀R' H',pi.2=false→xi R' c n a b b8 wb wp→R' 11=.int .i64 pv→hJ c n H0 (fun x=>x=pi.1) H'→K (.ex .normal R') H'):eF env A R H K:=by
 simp[ey,cZ,eD,sq]at hA
 subst hA
 obtain⟨h0,h1,h2,h3,h4,aB,a0,aA⟩:=hp
 obtain⟨di,hc,hn,rfl,aq⟩:=hd
 have e:((gy hi)==1)=decide (hi=.increasing):=by cases hi<;>decide
 have no:(wb&&wp&&decide (hi=.increasing))=false→∀R',xi R' c n a b b8 wb wp→R' 11=.int .i64 pv→K (.ex .normal R') H:=fun h R' q q'=>fh R' H (by rw[Ga,h];rfl) q q' ⟨di,hc,hn,by rw[Ga,h];rfl,aq⟩
 cases wb with
 | false =>
  simp -implicitDefEqProofs only[op,ef,cl,sq,reduceIte,j4,j5,j6,j7,j8,j9,y1,y2,y3,S1,h0,h1,h2,h3,h4,aB,a0,aA,bg,mN]
  refine no rfl _ ⟨?_,?_,?_,?_,?_,?_,?_,?_⟩ ?_
  all_goals simp -implicitDefEqProofs only[op,ef,cl,sq,reduceIte,j4,j5,j6,j7,j8,j9,y1,y2,y3,S1,h0,h1,h2,h3,h4,aB,a0,aA,bg]
 | true =>
  cases wp with
  | false =>
   simp -implicitDefEqProofs only[op,ef,cl,sq,reduceIte,j4,j5,j6,j7,j8,j9,y1,y2,y3,S1,h0,h1,h2,h3,h4,aB,a0,aA,bg,mN]
   refine no rfl _ ⟨?_,?_,?_,?_,?_,?_,?_,?_⟩ ?_
   all_goals simp -implicitDefEqProofs only[op,ef,cl,sq,reduceIte,j4,j5,j6,j7,j8,j9,y1,y2,y3,S1,h0,h1,h2,h3,h4,aB,a0,aA,bg]
  | true =>
   by_cases hh:hi=.increasing
   ·rw[decide_eq_true hh]at e
    rw[decide_eq_true hh]at Ga
    simp -implicitDefEqProofs only[op,ef,cl,sq,reduceIte,j4,j5,j6,j7,j8,j9,y1,y2,y3,S1,h0,h1,h2,h3,h4,aB,a0,aA,bg,mN,e]
    refine ae _ _ _ _ _ _ _ _ (OH c n di a b _ hn hc hb (by omega) (by omega)) ?_
    rintro u H2⟨hu,d2,cu,gZ,e2,dN⟩
    cases hu
    rw[if_pos (show(true&&true&&true)=true from rfl)]at Ga
    rw[←Ga]at e2 ⊢
    cases kb:pi.2 with
    | true =>
     try simp -implicitDefEqProofs only[op,ef,cl,sq,reduceIte,j4,j5,j6,j7,j8,j9,y1,y2,y3,S1]
     exact hG _ _ kb ⟨d2,cu,gZ,e2,aq.trans dN fun _ h=>.inl h⟩
    | false =>
     try simp -implicitDefEqProofs only[op,ef,cl,sq,reduceIte,j4,j5,j6,j7,j8,j9,y1,y2,y3,S1]
     refine fh _ _ kb ⟨?_,?_,?_,?_,?_,?_,?_,?_⟩ ?_ ⟨d2,cu,gZ,e2,aq.trans dN fun _ h=>.inl h⟩
     all_goals simp -implicitDefEqProofs only[op,ef,cl,sq,reduceIte,j4,j5,j6,j7,j8,j9,y1,y2,y3,S1,h0,h1,h2,h3,h4,aB,a0,aA,bg]
   ·rw[decide_eq_false hh]at e
    simp -implicitDefEqProofs only[op,ef,cl,sq,reduceIte,j4,j5,j6,j7,j8,j9,y1,y2,y3,S1,h0,h1,h2,h3,h4,aB,a0,aA,bg,mN,e]
    refine no (by rw[decide_eq_false hh];rfl) _ ⟨?_,?_,?_,?_,?_,?_,?_,?_⟩ ?_
    all_goals simp -implicitDefEqProofs only[op,ef,cl,sq,reduceIte,j4,j5,j6,j7,j8,j9,y1,y2,y3,S1,h0,h1,h2,h3,h4,aB,a0,aA,bg]
open Go.Sort in
theorem Tv (A:C)(hA:(cZ ey.body 1).map (eD · 7)=some A)(c n a b b8:Nat)(wb wp:Bool)(d:Array ByteArray)(pv:Nat)(R:ar)(H0 H:af)(K:Out→af→Prop)(hp:xi R c n a b b8 wb wp)(bg:R 11=.int .i64 pv)(hd:hJ c n H0 (fun x=>x=d) H)(hb:b≤n)(gb:a+12<b)(hs:n<16777216)(l3:a≤pv∧pv<b)
  (hG:∀R' H',(a>0&&!strLt d[a-1]! d[pv]!)=true→R' 0=.ax c 0 n 1→R' 1=.int .i64 (partitionEqual strLt d a b pv).1→R' 2=.int .i64 b→R' 3=.int .i64 b8→R' 0=.ax c 0 n 1→R' 8=.bool wb→R' 9=.bool wp→hJ c n H0 (fun x=>x=(partitionEqual strLt d a b pv).2) H'→K (.ex (.exit 1) R') H')
  (fh:∀R' H',(a>0&&!strLt d[a-1]! d[pv]!)=false→xi R' c n a b b8 wb wp→R' 11=.int .i64 pv→hJ c n H0 (fun x=>x=d) H'→K (.ex .normal R') H'):eF env A R H K:=by
 simp[ey,cZ,eD,sq]at hA
 subst hA
 obtain⟨h0,h1,h2,h3,h4,aB,a0,aA⟩:=hp
 obtain⟨di,hd,hn,rfl,aq⟩:=hd
 have lc:=aW hd
 by_cases ha:0<a
 ·simp -implicitDefEqProofs (maxSteps:=1000000) (disch:=omega) only[aa,aD,aE,aF,aG,aH,aI,wA,aZ,wS,aY,wM,S2,op,ef,cl,sq,reduceIte,j4,j5,j6,j7,j8,j9,y1,y2,y3,S1,h0,h1,h2,h3,h4,aB,a0,aA,bg,ha,hd,lc]
  refine ae _ _ _ _ _ _ _ _ (dI di[a-1]! di[pv]! _) ?_
  rintro u H3⟨hu,jv⟩
  cases hu
  have hx:Ext H H3:=by rw[jv];exact Ext.rfl'
  have hd:=hx.get hd
  have lc:=aW hd
  have aq:=aq.trans (ay (F:=fun _=>False) hx) (fun _ h=>h.elim)
  have cY:strLt di[a-1]! di[pv]! = decide (strLt di[a-1]! di[pv]! = true):=by simp
  by_cases c1:strLt di[a-1]! di[pv]! = true
  ·simp -implicitDefEqProofs (maxSteps:=1000000) (disch:=omega) only[aa,aD,aE,aF,aG,aH,aI,wA,aZ,wS,aY,wM,S2,op,ef,cl,sq,reduceIte,j4,j5,j6,j7,j8,j9,y1,y2,y3,S1,h0,h1,h2,h3,h4,aB,a0,aA,bg,ha,hd,lc,c1]
   refine fh _ _ (by rw[cY,cn c1];simp) ⟨?_,?_,?_,?_,?_,?_,?_,?_⟩ ?_ ⟨di,hd,hn,rfl,aq⟩
   all_goals simp -implicitDefEqProofs only[op,ef,cl,sq,reduceIte,j4,j5,j6,j7,j8,j9,y1,y2,y3,S1,h0,h1,h2,h3,h4,aB,a0,aA,bg]
  ·simp -implicitDefEqProofs (maxSteps:=1000000) (disch:=omega) only[aa,aD,aE,aF,aG,aH,aI,wA,aZ,wS,aY,wM,S2,op,ef,cl,sq,reduceIte,j4,j5,j6,j7,j8,j9,y1,y2,y3,S1,h0,h1,h2,h3,h4,aB,a0,aA,bg,ha,hd,lc,c1]
   refine ae _ _ _ _ _ _ _ _ (Tq c n di a b pv _ hn hd hb (by omega) (by omega) (by omega)) ?_
   rintro u H4⟨hu,d2,cu,gZ,e2,dN⟩
   cases hu
   try simp -implicitDefEqProofs only[op,ef,cl,sq,reduceIte,j4,j5,j6,j7,j8,j9,y1,y2,y3,S1]
   refine hG _ _ (by rw[cY,cf c1];simp;exact ha) ?_ ?_ ?_ ?_ ?_ ?_ ?_ ⟨d2,cu,gZ,e2,aq.trans dN fun _ h=>.inl h⟩
   all_goals simp -implicitDefEqProofs only[op,ef,cl,sq,reduceIte,j4,j5,j6,j7,j8,j9,y1,y2,y3,S1,h0,h1,h2,h3,h4,aB,a0,aA,bg]
 ·simp -implicitDefEqProofs only[op,ef,cl,sq,reduceIte,j4,j5,j6,j7,j8,j9,y1,y2,y3,S1,h0,h1,h2,h3,h4,aB,a0,aA,bg,ha]
  refine fh _ _ (by rw[decide_eq_false ha];rfl) ⟨?_,?_,?_,?_,?_,?_,?_,?_⟩ ?_ ⟨di,hd,hn,rfl,aq⟩
  all_goals simp -implicitDefEqProofs only[op,ef,cl,sq,reduceIte,j4,j5,j6,j7,j8,j9,y1,y2,y3,S1,h0,h1,h2,h3,h4,aB,a0,aA,bg]
open Go.Sort in
theorem BV {d d1 d2:Array ByteArray}{a b b8 eE pv:Nat}{wb wp:Bool}{cp:Nat×Hint}{hi:Hint}{pi:Array ByteArray×Bool}(aA:¬b-a≤12)(hl:¬b8=0)
  (e1:d1=if (!wb)=true then breakPatterns d a b else d) (el:eE=if (!wb)=true then b8-1 else b8) (ec:cp=choosePivot strLt d1 a b) (e2:d2=if cp.2=.decreasing then reverseRange d1 a b else d1)
  (ep:pv=if cp.2=.decreasing then(b-1)-(cp.1-a)else cp.1) (eh:hi=if cp.2=.decreasing then .increasing else cp.2) (JP:pi=if (wb&&wp&&hi=.increasing)=true then partialInsertionSort strLt d2 a b else(d2,false)) :
  pdq strLt d a b b8 wb wp=if pi.2=true then pi.1 else if (a>0&&!strLt pi.1[a-1]! pi.1[pv]!)=true then(if a<(partitionEqual strLt pi.1 a b pv).1∧(partitionEqual strLt pi.1 a b pv).1≤b then pdq strLt (partitionEqual strLt pi.1 a b pv).2 (partitionEqual strLt pi.1 a b pv).1 b eE wb wp else(partitionEqual strLt pi.1 a b pv).2)
   else(if a≤(partition strLt pi.1 a b pv).1∧(partition strLt pi.1 a b pv).1<b then if (partition strLt pi.1 a b pv).1-a<b-(partition strLt pi.1 a b pv).1 then pdq strLt (pdq strLt (partition strLt pi.1 a b pv).2.2 a (partition strLt pi.1 a b pv).1 eE true true) ((partition strLt pi.1 a b pv).1+1) b eE (decide ((partition strLt pi.1 a b pv).1-a≥(b-a)/8)) (partition strLt pi.1 a b pv).2.1
    else pdq strLt (pdq strLt (partition strLt pi.1 a b pv).2.2 ((partition strLt pi.1 a b pv).1+1) b eE true true) a (partition strLt pi.1 a b pv).1 eE (decide (b-(partition strLt pi.1 a b pv).1≥(b-a)/8)) (partition strLt pi.1 a b pv).2.1 else(partition strLt pi.1 a b pv).2.2):=by
 subst JP eh ep e2 ec el e1
 rw[pdq,if_neg aA,if_neg hl]
 rfl
open Go.Sort in
theorem yN (d:Array ByteArray){a b pv:Nat}(h1:a≤pv)(h2:pv<b)(hb:b≤d.size):a<(partitionEqual strLt d a b pv).1∧(partitionEqual strLt d a b pv).1≤b:=by
 have:=partEqLoop_spec (lt:=strLt) a b b (a+1) (b-1) (swp d a pv) (by omega) (by omega) (by omega) (by omega) (by rw[swp_size];exact hb) (fun t h h'=>by omega) (fun t h h'=>by omega)
 exact⟨this.1,this.2.1⟩
open Go.Sort in
theorem Tw (A:C)(hA:(cZ ey.body 1).map (eD · 0)=some A)(c n a b b8:Nat)(wb wp:Bool)(R:ar)(H:af)(K:Out→af→Prop)(h0:R 0=.ax c 0 n 1)(h1:R 1=.int .i64 a)(h2:R 2=.int .i64 b)(h3:R 3=.int .i64 b8)(h4:R 0=.ax c 0 n 1)(aB:R 8=.bool wb)(a0:R 9=.bool wp)(gb:a≤b)(hb:b<16777216)
  (rest:∀R',xi R' c n a b b8 wb wp→K (.ex .normal R') H):eF env A R H K:=by
 simp[ey,cZ,eD,sq]at hA
 subst hA
 simp -implicitDefEqProofs (maxSteps:=1000000) (disch:=omega) only[aa,aD,aE,aF,aG,aH,aI,wA,aZ,wS,aY,wM,S2,op,ef,cl,sq,reduceIte,j4,j5,j6,j7,j8,j9,y1,y2,y3,S1,h0,h1,h2,h3,h4,aB,a0]
 refine rest _ ⟨?_,?_,?_,?_,?_,?_,?_,?_⟩
 all_goals simp -implicitDefEqProofs only[op,ef,cl,sq,reduceIte,j4,j5,j6,j7,j8,j9,y1,y2,y3,S1,h0,h1,h2,h3,h4,aB,a0]
open Go.Sort in
theorem Tx (A:C)(hA:(cZ ey.body 1).map (eD · 1)=some A)(c n a b b8:Nat)(wb wp:Bool)(d:Array ByteArray)(R:ar)(H0 H:af)(K:Out→af→Prop)(hp:xi R c n a b b8 wb wp)(hd:hJ c n H0 (fun x=>x=d) H)(hb:b≤n)(gb:a≤b)(hs:n<16777216)
  (hG:∀R' H',b-a≤12→hJ c n H0 (fun x=>x=insertionSort strLt d a b) H'→K (.ex .ret R') H')
  (fh:∀R',¬b-a≤12→xi R' c n a b b8 wb wp→K (.ex .normal R') H):eF env A R H K:=by
 simp[ey,cZ,eD,sq]at hA
 subst hA
 obtain⟨h0,h1,h2,h3,h4,aB,a0,aA⟩:=hp
 obtain⟨di,hc,hn,rfl,aq⟩:=hd
 by_cases hle:b-a≤12
 ·simp -implicitDefEqProofs only[op,ef,cl,sq,reduceIte,j4,j5,j6,j7,j8,j9,y1,y2,y3,S1,h0,h1,h2,h3,h4,aB,a0,aA,hle]
  have hi:=To c di a b H hc (by omega) gb (by omega)
  rw[hn]at hi
  refine ae _ _ _ _ _ _ _ _ hi ?_
  rintro u H2⟨hu,cu,dN⟩
  cases hu
  try simp -implicitDefEqProofs only[op,ef,cl,sq,reduceIte,j4,j5,j6,j7,j8,j9,y1,y2,y3,S1]
  exact hG _ _ hle ⟨_,cu,by rw[(insertionSort_holds lM di a b gb (by omega)).1.1];exact hn,rfl,aq.trans dN fun _ h=>.inl h⟩
 ·simp -implicitDefEqProofs only[op,ef,cl,sq,reduceIte,j4,j5,j6,j7,j8,j9,y1,y2,y3,S1,h0,h1,h2,h3,h4,aB,a0,aA,hle]
  refine fh _ hle ⟨?_,?_,?_,?_,?_,?_,?_,?_⟩
  all_goals simp -implicitDefEqProofs only[op,ef,cl,sq,reduceIte,j4,j5,j6,j7,j8,j9,y1,y2,y3,S1,h0,h1,h2,h3,h4,aB,a0,aA]
open Go.Sort in
theorem Ty (A:C)(hA:(cZ ey.body 1).map (eD · 2)=some A)(c n a b b8:Nat)(wb wp:Bool)(d:Array ByteArray)(R:ar)(H0 H:af)(K:Out→af→Prop)(hp:xi R c n a b b8 wb wp)(hd:hJ c n H0 (fun x=>x=d) H)(hb:b≤n)(gb:a+12<b)(hs:n<16777216)
  (hG:∀R' H',b8=0→hJ c n H0 (fun x=>x=heapSort strLt d a b) H'→K (.ex .ret R') H')
  (fh:∀R',¬b8=0→xi R' c n a b b8 wb wp→K (.ex .normal R') H):eF env A R H K:=by
 simp[ey,cZ,eD,sq]at hA
 subst hA
 obtain⟨h0,h1,h2,h3,h4,aB,a0,aA⟩:=hp
 obtain⟨di,hc,hn,rfl,aq⟩:=hd
 by_cases hl:b8=0
 ·subst hl
  have e:(((0:Nat):Int)==0)=true:=rfl
  simp -implicitDefEqProofs only[op,ef,cl,sq,reduceIte,j4,j5,j6,j7,j8,j9,y1,y2,y3,S1,h0,h1,h2,h3,h4,aB,a0,aA,e]
  refine ae _ _ _ _ _ _ _ _ (OF c n di a b _ hn hc hb (by omega) (by omega)) ?_
  rintro u H2⟨hu,d2,cu,gZ,e2,dN⟩
  cases hu
  try simp -implicitDefEqProofs only[op,ef,cl,sq,reduceIte,j4,j5,j6,j7,j8,j9,y1,y2,y3,S1]
  exact hG _ _ rfl ⟨_,cu,gZ,e2,aq.trans dN fun _ h=>.inl h⟩
 ·have e:((b8:Int)==0)=false:=by simp;omega
  simp -implicitDefEqProofs only[op,ef,cl,sq,reduceIte,j4,j5,j6,j7,j8,j9,y1,y2,y3,S1,h0,h1,h2,h3,h4,aB,a0,aA,e]
  refine fh _ hl ⟨?_,?_,?_,?_,?_,?_,?_,?_⟩
  all_goals simp -implicitDefEqProofs only[op,ef,cl,sq,reduceIte,j4,j5,j6,j7,j8,j9,y1,y2,y3,S1,h0,h1,h2,h3,h4,aB,a0,aA]
open Go.Sort in
theorem Tz (A:C)(hA:(cZ ey.body 1).map (eD · 4)=some A)(c n a b b8:Nat)(wb wp:Bool)(d:Array ByteArray)(R:ar)(H0 H:af)(K:Out→af→Prop)(hp:xi R c n a b b8 wb wp)(hd:hJ c n H0 (fun x=>x=d) H)(hb:b≤n)(gb:a+12<b)(hs:n<16777216)
  (rest:∀R' H',xi R' c n a b b8 wb wp→R' 11=.int .i64 (choosePivot strLt d a b).1→R' 12=.int .i64 (gy (choosePivot strLt d a b).2)→hJ c n H0 (fun x=>x=d) H'→K (.ex .normal R') H'):eF env A R H K:=by
 simp[ey,cZ,eD,sq]at hA
 subst hA
 obtain⟨h0,h1,h2,h3,h4,aB,a0,aA⟩:=hp
 obtain⟨di,hc,hn,rfl,aq⟩:=hd
 simp -implicitDefEqProofs only[op,ef,cl,sq,reduceIte,j4,j5,j6,j7,j8,j9,y1,y2,y3,S1,h0,h1,h2,h3,h4,aB,a0,aA]
 refine ae _ _ _ _ _ _ _ _ (Gf c n di a b _ hn hc hb gb (by omega)) ?_
 rintro u H2⟨hu,hx⟩
 cases hu
 try simp -implicitDefEqProofs only[op,ef,cl,sq,reduceIte,j4,j5,j6,j7,j8,j9,y1,y2,y3,S1]
 refine rest _ _ ⟨?_,?_,?_,?_,?_,?_,?_,?_⟩ ?_ ?_ ⟨di,hx.get hc,hn,rfl,aq.trans (ay (F:=fun _=>False) hx) (fun _ h=>h.elim)⟩
 all_goals simp -implicitDefEqProofs only[op,ef,cl,sq,reduceIte,j4,j5,j6,j7,j8,j9,y1,y2,y3,S1,h0,h1,h2,h3,h4,aB,a0,aA]
open Go.Sort in
theorem TA (A:C)(hA:(cZ ey.body 1).map (Gb · 8)=some A)(c n a b b8:Nat)(wb wp:Bool)(d:Array ByteArray)(pv:Nat)(R:ar)(H0 H:af)(K:Out→af→Prop)(hp:xi R c n a b b8 wb wp)(bg:R 11=.int .i64 pv)(hd:hJ c n H0 (fun x=>x=d) H)(hb:b≤n)(gb:a+12<b)(hs:n<16777216)(l3:a≤pv∧pv<b)
  (ih:∀a' b' (d':Array ByteArray) H',b'-a'<b-a→a'≤b'→b'≤n→d'.size=n→H'[c]?=some (.cells (aJ eS d'.toList))→W env (.call 122 [.ax c 0 n 1,.int .i64 a',.int .i64 b',.int .i64 b8]) H' (ra c n (pdq strLt d' a' b' b8 true true) H'))
  (rest:∀R' H' a' b' (d':Array ByteArray) (JQ:Bool),a≤a'→a'≤b'→b'≤b→b'-a'<b-a→R' 0=.ax c 0 n 1→R' 1=.int .i64 (a':Nat)→R' 2=.int .i64 (b':Nat)→R' 3=.int .i64 b8→R' 0=.ax c 0 n 1→R' 8=.bool JQ→R' 9=.bool (partition strLt d a b pv).2.1 →
   pdq strLt d' a' b' b8 JQ (partition strLt d a b pv).2.1=(if (partition strLt d a b pv).1-a<b-(partition strLt d a b pv).1 then pdq strLt (pdq strLt (partition strLt d a b pv).2.2 a (partition strLt d a b pv).1 b8 true true) ((partition strLt d a b pv).1+1) b b8 (decide ((partition strLt d a b pv).1-a≥(b-a)/8)) (partition strLt d a b pv).2.1
    else pdq strLt (pdq strLt (partition strLt d a b pv).2.2 ((partition strLt d a b pv).1+1) b b8 true true) a (partition strLt d a b pv).1 b8 (decide (b-(partition strLt d a b pv).1≥(b-a)/8)) (partition strLt d a b pv).2.1) →
   hJ c n H0 (fun x=>x=d') H'→K (.ex .normal R') H'):eF env A R H K:=by
 simp[ey,cZ,Gb,sq]at hA
 subst hA
 obtain⟨h0,h1,h2,h3,h4,aB,a0,aA⟩:=hp
 obtain⟨di,hc,hn,rfl,aq⟩:=hd
 have pb:=partition_holds strLt lM di a b pv l3.1 l3.2 (by omega)
 simp -implicitDefEqProofs only[op,ef,cl,sq,reduceIte,j4,j5,j6,j7,j8,j9,y1,y2,y3,S1,h0,h1,h2,h3,h4,aB,a0,aA,bg]
 refine ae _ _ _ _ _ _ _ _ (OG c n di a b pv _ hn hc hb (by omega) (by omega) (by omega)) ?_
 rintro u H2⟨hu,d2,cu,gZ,e2,dN⟩
 cases hu
 generalize partition strLt di a b pv=r at *
 obtain⟨mid,ap,d4⟩:=r
 simp only at pb e2 rest ⊢
 subst e2
 obtain⟨m1,m2,_⟩:=pb
 have jO:=aq.trans dN fun _ h=>.inl h
 by_cases au:mid-a<b-mid
 ·rw[if_pos au]at rest
  simp -implicitDefEqProofs (maxSteps:=1000000) (disch:=omega) only[aa,aD,aE,aF,aG,aH,aI,wA,aZ,wS,aY,wM,S2,op,ef,cl,sq,reduceIte,j4,j5,j6,j7,j8,j9,y1,y2,y3,S1,Vs,h0,h1,h2,h3,h4,aB,a0,aA,bg,au]
  refine ae _ _ _ _ _ _ _ _ (ih a mid d2 _ (by omega) m1 (by omega) gZ cu) ?_
  rintro u H3⟨hu,d3,nL,zi,e3,oS⟩
  cases hu
  simp -implicitDefEqProofs (maxSteps:=1000000) (disch:=omega) only[aa,aD,aE,aF,aG,aH,aI,wA,aZ,wS,aY,wM,S2,op,ef,cl,sq,reduceIte,j4,j5,j6,j7,j8,j9,y1,y2,y3,S1,h0,h1,h2,h3,h4,aB,a0,aA,bg]
  refine rest _ _ (mid+1) b d3 (decide ((b-a)/8≤mid-a)) (by omega) (by omega) (Nat.le_refl _) (by omega) ?_ ?_ ?_ ?_ ?_ ?_ ?_ (by rw[e3]) ⟨d3,nL,zi,rfl,jO.trans oS fun _ h=>.inl h⟩
  all_goals simp -implicitDefEqProofs only[op,ef,cl,sq,reduceIte,j4,j5,j6,j7,j8,j9,y1,y2,y3,S1,h0,h1,h2,h3,h4,aB,a0,aA]
 ·rw[if_neg au]at rest
  simp -implicitDefEqProofs (maxSteps:=1000000) (disch:=omega) only[aa,aD,aE,aF,aG,aH,aI,wA,aZ,wS,aY,wM,S2,op,ef,cl,sq,reduceIte,j4,j5,j6,j7,j8,j9,y1,y2,y3,S1,Vs,h0,h1,h2,h3,h4,aB,a0,aA,bg,au]
  refine ae _ _ _ _ _ _ _ _ (ih (mid+1) b d2 _ (by omega) m2 (by omega) gZ cu) ?_
  rintro u H3⟨hu,d3,nL,zi,e3,oS⟩
  cases hu
  simp -implicitDefEqProofs (maxSteps:=1000000) (disch:=omega) only[aa,aD,aE,aF,aG,aH,aI,wA,aZ,wS,aY,wM,S2,op,ef,cl,sq,reduceIte,j4,j5,j6,j7,j8,j9,y1,y2,y3,S1,h0,h1,h2,h3,h4,aB,a0,aA,bg]
  refine rest _ _ a mid d3 (decide ((b-a)/8≤b-mid)) (by omega) (by omega) (by omega) (by omega) ?_ ?_ ?_ ?_ ?_ ?_ ?_ (by rw[e3]) ⟨d3,nL,zi,rfl,jO.trans oS fun _ h=>.inl h⟩
  all_goals simp -implicitDefEqProofs only[op,ef,cl,sq,reduceIte,j4,j5,j6,j7,j8,j9,y1,y2,y3,S1,h0,h1,h2,h3,h4,aB,a0,aA]
open Go.Sort in
theorem TB (c n:Nat)(hs:n<16777216):∀m a b b8 (d:Array ByteArray) H,b-a=m→a≤b→b≤n→b8<1000→d.size=n→H[c]?=some (.cells (aJ eS d.toList)) →
  W env (.call 122 [.ax c 0 n 1,.int .i64 (a:Nat),.int .i64 (b:Nat),.int .i64 (b8:Nat)]) H (ra c n (pdq strLt d a b b8 true true) H):=by
 intro m
 induction m using Nat.strongRecOn with
 | _ m ih =>
 intro a b b8 d H hm gb hb ZC hn hc
 subst hm
 refine W.bR rfl rfl rfl ?_
 simp -implicitDefEqProofs only[ey,op,ef,cl,sq,reduceIte,j4,j5,j6,j7,j8,j9,y1,y2,y3,S1]
 refine W.cG (fun (q:Nat×Nat×Nat×Bool×Bool) R H'=>At H' (fun H'=>hJ c n H (fun di=>pdq strLt di q.1 q.2.1 q.2.2.1 q.2.2.2.1 q.2.2.2.2=pdq strLt d a b b8 true true) H')∧R 0=.ax c 0 n 1∧R 1=.int .i64 q.1∧R 2=.int .i64 q.2.1∧R 3=.int .i64 q.2.2.1∧R 0=.ax c 0 n 1∧R 8=.bool q.2.2.2.1∧R 9=.bool q.2.2.2.2∧a≤q.1∧q.1≤q.2.1∧q.2.1≤b∧q.2.2.1≤b8) (fun q=>q.2.1-q.1) (a,b,b8,true,true) ⟨.i ⟨d,hc,hn,rfl,bh.refl _ _⟩,rfl,rfl,rfl,rfl,rfl,rfl,rfl,Nat.le_refl _,gb,Nat.le_refl _,Nat.le_refl _⟩ ?_
 rintro⟨a1,b1,l1,wb,wp⟩ R H1 ⟨⟨di,hd,a6,hP,aq⟩,h0,h1,h2,h3,h4,aB,a0,q1,q2,q3,q4⟩
 simp only at hP h1 h2 h3 aB a0 q1 q2 q3 q4 ⊢
 rw[pO,fE]
 refine Tw _ rfl c n a1 b1 l1 wb wp R H1 _ h0 h1 h2 h3 h4 aB a0 q2 (by omega) ?_
 intro R1 p1
 rw[dH,cO,fE]
 refine Tx _ rfl c n a1 b1 l1 wb wp di R1 H H1 _ p1 ⟨di,hd,a6,rfl,aq⟩ (by omega) q2 hs ?_ ?_
 ·rintro R' H' hle⟨d',gB,eI,rfl,pI⟩
  rw[pdq,if_pos hle]at hP
  try simp -implicitDefEqProofs only[op,ef,cl,sq,reduceIte,j4,j5,j6,j7,j8,j9,y1,y2,y3,S1]
  exact⟨rfl,_,gB,eI,hP,pI⟩
 intro R2 aA p2
 rw[dH,cO,fE]
 refine Ty _ rfl c n a1 b1 l1 wb wp di R2 H H1 _ p2 ⟨di,hd,a6,rfl,aq⟩ (by omega) (by omega) hs ?_ ?_
 ·rintro R' H' xF⟨d',gB,eI,rfl,pI⟩
  rw[pdq,if_neg aA,if_pos xF]at hP
  try simp -implicitDefEqProofs only[op,ef,cl,sq,reduceIte,j4,j5,j6,j7,j8,j9,y1,y2,y3,S1]
  exact⟨rfl,_,gB,eI,hP,pI⟩
 intro R3 xF p3
 rw[dH,cO,fE]
 refine Ts _ rfl c n a1 b1 l1 wb wp di R3 H H1 _ p3 ⟨di,hd,a6,rfl,aq⟩ (by omega) (by omega) hs (by omega) ?_
 rintro R4 H4 p4⟨d1,qY,Ck,e1,xK⟩
 obtain⟨eE,el⟩:∃l,l=if (!wb)=true then l1-1 else l1:=⟨_,rfl⟩
 have rR:eE≤l1:=by rw[el];split<;>omega
 rw[←el]at p4
 rw[dH,cO,fE]
 refine Tz _ rfl c n a1 b1 eE wb wp d1 R4 H H4 _ p4 ⟨d1,qY,Ck,rfl,xK⟩ (by omega) (by omega) hs ?_
 rintro R5 H5 p5 bg mN⟨JR,ZD,Oq,L8,Tj⟩
 subst L8
 have Tk:=choosePivot_holds strLt JR a1 b1 (by omega)
 obtain⟨cp,ec⟩:∃x,x=choosePivot strLt JR a1 b1:=⟨_,rfl⟩
 rw[←ec]at bg mN Tk
 rw[dH,cO,fE]
 refine Tt _ rfl c n a1 b1 eE wb wp JR cp.1 cp.2 R5 H H5 _ p5 bg mN ⟨JR,ZD,Oq,rfl,Tj⟩ (by omega) (by omega) hs Tk ?_
 rintro R6 H6 p6 bg mN⟨d2,ZE,ZF,e2,ZG⟩
 obtain⟨pv,ep⟩:∃x,x=if cp.2=.decreasing then(b1-1)-(cp.1-a1)else cp.1:=⟨_,rfl⟩
 obtain⟨hi,eh⟩:∃x,x=if cp.2=.decreasing then Hint.increasing else cp.2:=⟨_,rfl⟩
 rw[←ep]at bg
 rw[←eh]at mN
 have l3:a1≤pv∧pv<b1:=by rw[ep];split<;>omega
 rw[dH,cO,fE]
 obtain⟨pi,JP⟩:∃x,x=if (wb&&wp&&hi=.increasing)=true then partialInsertionSort strLt d2 a1 b1 else(d2,false):=⟨_,rfl⟩
 rw[BV aA xF e1 el ec e2 ep eh JP]at hP
 refine Tu _ rfl c n a1 b1 eE wb wp d2 pv hi R6 H H6 _ p6 bg mN ⟨d2,ZE,ZF,rfl,ZG⟩ (by omega) (by omega) hs pi JP ?_ ?_
 ·rintro R' H' FV⟨d',gB,eI,rfl,pI⟩
  rw[if_pos FV]at hP
  try simp -implicitDefEqProofs only[op,ef,cl,sq,reduceIte,j4,j5,j6,j7,j8,j9,y1,y2,y3,S1]
  exact⟨rfl,_,gB,eI,hP,pI⟩
 rintro R7 H7 FU p7 bg⟨d3,ZH,JS,e3,ZI⟩
 rw[if_neg (by rw[FU];simp),←e3]at hP
 rw[dH,cO,fE]
 refine Tv _ rfl c n a1 b1 eE wb wp d3 pv R7 H H7 _ p7 bg ⟨d3,ZH,JS,rfl,ZI⟩ (by omega) (by omega) hs l3 ?_ ?_
 ·rintro R' H' kg g0 g1 g2 g3 g4 Ou Ht⟨d',gB,eI,e',pI⟩
  have hr:=yN d3 l3.1 l3.2 (by omega)
  rw[if_pos kg,if_pos hr,←e']at hP
  try simp -implicitDefEqProofs only[op,ef,cl,sq,reduceIte,j4,j5,j6,j7,j8,j9,y1,y2,y3,S1]
  exact⟨((partitionEqual strLt d3 a1 b1 pv).1,b1,eE,wb,wp),by simp only;omega,.i ⟨_,gB,eI,hP,pI⟩,g0,g1,g2,g3,g4,Ou,Ht,by simp only;omega,by simp only;omega,by simp only;omega,by simp only;omega⟩
 rintro R8 H8 kg p8 bg⟨Am,QA,ZJ,ZK,Hu⟩
 subst ZK
 have hr:=partition_holds strLt lM Am a1 b1 pv l3.1 l3.2 (by omega)
 rw[if_neg (by rw[kg];simp),if_pos ⟨hr.1,hr.2.1⟩]at hP
 rw[dH,cO]
 refine TA _ rfl c n a1 b1 eE wb wp Am pv R8 H H8 _ p8 bg ⟨Am,QA,ZJ,rfl,Hu⟩ (by omega) (by omega) hs l3 (fun a' b' d' H' au Ov iY eI iA=>ih _ (by omega) a' b' eE d' H' rfl Ov iY (by omega) eI iA) ?_
 rintro R' H' a' b' d' JQ Ov Ox iY au g0 g1 g2 g3 g4 Ou Ht e'⟨d'',gB,eI,rfl,pI⟩
 try simp -implicitDefEqProofs only[op,ef,cl,sq,reduceIte,j4,j5,j6,j7,j8,j9,y1,y2,y3,S1]
 exact⟨(a',b',eE,JQ,(partition strLt Am a1 b1 pv).2.1),by simp only;omega,.i ⟨_,gB,eI,by simp only;rw[e'];exact hP,pI⟩,g0,g1,g2,g3,g4,Ou,Ht,by simp only;omega,Ox,by simp only;omega,by simp only;omega⟩
open Go.Sort in
theorem JY (c:Nat)(d:Array ByteArray)(H:af)(hc:H[c]?=some (.cells (aJ eS d.toList)))(hs:d.size<16777216) :
  W env (.call 99 [.ax c 0 d.size 1]) H (ra c d.size (sort strLt d) H):=by
 refine W.bR rfl rfl rfl ?_
 have w1:IntKind.u64.wrap (d.size:Int)=(d.size:Int):=pf (by omega)
 simp -implicitDefEqProofs only[Ju,op,ef,cl,sq,reduceIte,j4,j5,j6,j7,j8,j9,y1,y2,y3,S1,w1]
 refine ae _ _ _ _ _ _ _ _ (F5 d.size hs _) ?_
 rintro u H1⟨hu,rfl⟩
 cases hu
 have hb:=pW (n:=d.size) (k:=24) hs
 try simp -implicitDefEqProofs only[op,ef,cl,sq,reduceIte,j4,j5,j6,j7,j8,j9,y1,y2,y3,S1]
 refine ae _ _ _ _ _ _ _ _ (TB c d.size hs _ 0 d.size (bitsLen d.size) d _ rfl (Nat.zero_le _) (Nat.le_refl _) (by omega) rfl hc) ?_
 rintro u H2⟨hu,h2⟩
 cases hu
 try simp -implicitDefEqProofs only[op,ef,cl,sq,reduceIte,j4,j5,j6,j7,j8,j9,y1,y2,y3,S1]
 exact⟨rfl,h2⟩
theorem sm {d:Array ByteArray}(hn:d.toList.Nodup):(Go.Sort.sort strLt d).toList.Perm d.toList∧(Go.Sort.sort strLt d).toList.Pairwise (fun a b=>strLt a b=true):=by
 obtain⟨⟨hs,_,hp⟩,Ge⟩:=Go.Sort.sort_sorts strLt lM d
 have e1:(Go.Sort.sort strLt d).extract 0 d.size=Go.Sort.sort strLt d:=by
  conv=>lhs;arg 3;rw[←hs]
  simp
 have fy:(Go.Sort.sort strLt d).toList.Perm d.toList:=by
  rw[e1]at hp
  simpa using hp
 refine⟨fy,?_⟩
 have Iy:(Go.Sort.sort strLt d).toList.Nodup:=fy.nodup_iff.2 hn
 rw[List.pairwise_iff_getElem]
 intro i j hi hj qQ
 have h1:=Ge i j (Nat.zero_le _) qQ (by rw[←hs];simpa using hj)
 have gi:=iK (d:=Go.Sort.sort strLt d) (i:=i) (by simpa using hi)
 have gj:=iK (d:=Go.Sort.sort strLt d) (i:=j) (by simpa using hj)
 rw[List.getElem?_eq_getElem hi]at gi
 rw[List.getElem?_eq_getElem hj]at gj
 rw[Option.some.inj gi,Option.some.inj gj]
 cases h:strLt (Go.Sort.sort strLt d)[i]! (Go.Sort.sort strLt d)[j]! with
 | true=>rfl
 | false =>
  have e:=qJ h h1
  rw[←Option.some.inj gi,←Option.some.inj gj]at e
  have:=(List.getElem_inj Iy).1 e
  omega
theorem BW (es:List (ByteArray×T))(c mb:Nat)(H:af)(fB:(es.map (·.1)).Nodup)(ib:es.length≤8000000)(hc:H[c]?=some (.cells [.map mb]))(hm:H[mb]?=some (.map (ba T.str es))) :
  W env (.call 64 [.fn 100 [.ptr c 0]]) H (OD es H):=by
 refine W.bR rfl rfl rfl ?_
 simp -implicitDefEqProofs only[NJ,op,ef,cl,sq,reduceIte,j4,j5,j6,j7,j8,j9,y1,y2,y3,S1]
 refine ae _ _ _ _ _ _ _ _ (Oe es c mb H fB (by omega) hc hm) ?_
 rintro u H1⟨hx,t,b6,hu,Ah,lJ⟩
 cases hu
 have fy:b6.Perm (es.map (·.1)):=(List.perm_ext_iff_of_nodup lJ.FT fB).2 fun k=>lJ.BJ k
 have mV:b6.length=es.length:=by have:=lJ.len;simpa using this
 rcases Ah with⟨rfl,rfl⟩|⟨d,rfl,hd,Hf⟩
 ·simp -implicitDefEqProofs only[op,ef,cl,sq,reduceIte,j4,j5,j6,j7,j8,j9,y1,y2,y3,S1]
  refine ae _ _ _ _ _ _ _ _ (JV _) ?_
  rintro u H2⟨hu,rfl⟩
  cases hu
  simp -implicitDefEqProofs only[op,ef,cl,sq,reduceIte,j4,j5,j6,j7,j8,j9,y1,y2,y3,S1]
  exact⟨hx,_,[],rfl,nA _ _ _ _,fy,List.Pairwise.nil⟩
 ·simp -implicitDefEqProofs only[op,ef,cl,sq,reduceIte,j4,j5,j6,j7,j8,j9,y1,y2,y3,S1]
  have:=JY d b6.toArray H1 (by simpa using hd) (by simpa using (by omega:b6.length<16777216))
  simp -implicitDefEqProofs only[List.size_toArray]at this
  refine ae _ _ _ _ _ _ _ _ this ?_
  rintro u H2⟨hu,d2,h2,a6,rfl,aq⟩
  cases hu
  simp -implicitDefEqProofs only[op,ef,cl,sq,reduceIte,j4,j5,j6,j7,j8,j9,y1,y2,y3,S1]
  have hs:=sm (d:=b6.toArray) (by simpa using lJ.FT)
  refine⟨mM fun a x Tm=>aq.get (hx.get Tm) (by have:=aW Tm;omega),_,_,rfl,.inr ⟨d,?_,h2,Hf⟩,hs.1.trans fy,hs.2⟩
  rw[hs.1.length_eq]
theorem Gh (b:Bk)(s:dk)(F:Nat→Prop)(H:af)(hs:SH H b s F)(hi:fY s)(hn:s.ls.length≤8000000):W env (.call 20 [.ptr b.s 0]) H (OE s H):=by
 obtain⟨im,pm,sa⟩:=hs
 refine W.bR rfl rfl rfl ?_
 simp -implicitDefEqProofs only[Nd,op,ef,cl,sq,reduceIte,j4,j5,j6,j7,j8,j9,y1,y2,y3,S1,sa.hs]
 refine ae _ _ _ _ _ _ _ (fun o H'=>o=.val (.fn 100 [.ptr H.length 0])∧H'=H++[.cells [.map b.l]]) ?_ ?_
 ·refine W.bR rfl rfl rfl ?_
  simp -implicitDefEqProofs only[NK,op,ef,cl,sq,reduceIte,j4,j5,j6,j7,j8,j9,y1,y2,y3,S1]
  exact rfl
 rintro u H1⟨hu,rfl⟩
 cases hu
 have ll:=aW sa.hl
 have xf:(kd s.ls).map (·.1)=s.ls.map (·.1):=by simp[kd]
 simp -implicitDefEqProofs only[op,ef,cl,sq,reduceIte,j4,j5,j6,j7,j8,j9,y1,y2,y3,S1]
 refine ae _ _ _ _ _ _ _ _ (BW (kd s.ls) H.length b.l _ (by rw[xf];exact hi.yr) (by simpa[kd]using hn) (aU rfl) (by rw[aV ll];exact sa.hl)) ?_
 rintro t H2⟨xJ,_,l,hu,Ah,fy,JU⟩
 cases hu
 rw[xf]at fy
 have rR:l.length≤8000000:=by rw[fy.length_eq];simpa using hn
 have hlen:=Ah.len
 have jv:Ext H H2:=(Ext.rfl'.app _).trans xJ
 simp -implicitDefEqProofs only[op,ef,cl,sq,reduceIte,j4,j5,j6,j7,j8,j9,y1,y2,y3,S1,hlen]
 refine W.cG (fun (i:Nat) R H'=>At H' (fun H'=>∃kw,R 3=.sl kw ((ph s (l.take i)).map eL)∧Ext H H'∧Ext H2 H'∧lF H2.length H' kw∧gz kw (l.take i))∧R 0=.ptr b.s 0∧R 11=t∧R 12=.int .i64 l.length∧R 13=.int .i64 i∧i≤l.length) (fun i=>l.length-i) 0 ⟨.i ⟨.nil,rfl,jv,Ext.rfl',iH _ _,fun _=>rfl⟩,rfl,rfl,rfl,rfl,Nat.zero_le _⟩ ?_
 rintro i R H3⟨⟨kw,h3,pd,xg,mJ,mL⟩,h0,a0,aA,bg,kM⟩
 by_cases au:i<l.length
 ·obtain⟨m,hm⟩:=cj au
  have ws:=aC (show i<9223372036854775807 by omega)
  obtain⟨c,g1,g2,g3⟩:=LC (enc:=eS) (n:=1) (fun _=>rfl) (by decide) (Ah.ext xg) hm
  have Aj:=sa.lg (ay (F:=fun _=>False) pd) (fun _ _ _ h=>h)
  have lZ:=lh s m
  have cr:=all_map (enc:=eL) (n:=2) (fun _=>rfl) (ph s (l.take i))
  have U1:((ph s (l.take i)).map eL).length≤8000000:=by simp -implicitDefEqProofs only[ph,List.length_map,List.length_take];omega
  obtain⟨k',H5,ha,Oz,dG⟩:=kZ (bytes:=24) ((ph s (l.take i)).map eL) [[T.str m,.int .u64 (bE s m)]] mJ xg.len (by simp) (jn (by simp -implicitDefEqProofs only[List.length_cons,List.length_nil];omega))
  have tV:=uG ha (by simp)
  simp -implicitDefEqProofs only[op,ef,cl,sq,reduceIte,j4,j5,j6,j7,j8,j9,y1,y2,y3,S1]at ha
  simp -implicitDefEqProofs only[op,ef,cl,sq,reduceIte,j4,j5,j6,j7,j8,j9,y1,y2,y3,S1,h0,h3,a0,aA,bg,au,aa,g1,g2,g3,eS,Aj.hs,Aj.hl,fe,lZ,cr,ha,ws]
  refine⟨i+1,by omega,.i ⟨k',?_,dG.ext H (by have:=jv.len;omega) pd,dG.ext H2 (Nat.le_refl _) xg,Oz,fun h=>absurd h tV⟩,rfl,by omega⟩
  rw[cD hm]
  simp -implicitDefEqProofs only[ph,List.map_append,List.map_cons,List.map_nil,eL]
 ·have mK:i=l.length:=by omega
  subst mK
  rw[List.take_length]at h3 mL
  simp -implicitDefEqProofs only[op,ef,cl,sq,reduceIte,j4,j5,j6,j7,j8,j9,y1,y2,y3,S1,h3,aA,bg,au]
  exact⟨pd,kw,l,mL,rfl,fy,JU⟩
structure Vd where
 value:ByteArray
 keys:List ByteArray
 a9:Int
def Hd.vd (h:Hd):Vd:=⟨h.value,h.keys,h.a9⟩
structure Ab where
 v:Nm→Option Vd
 l:ByteArray→Option Nat
def Ab.last (a:Ab)(k:ByteArray):Nat:=(a.l k).getD 0
def Ab.has (a:Ab)(m:Nm):Bool:=(a.v m).isSome
def eb (s:dk):Ab:=⟨fun m=>(ah s.vs m).map Hd.vd,fun k=>ah s.ls k⟩
def Ab.emp:Ab:=⟨fun _=>none,fun _=>none⟩
def Ab.put (a:Ab)(n:Nat)(l:List (ByteArray×ByteArray))(ks:List ByteArray)(now:Int):Ab :=
 ⟨fun m=>match a.v m with
  | some h=>some h
  | none=>if m.2=n then(ah l m.1).map fun v=>⟨v,ks,if n<a.last m.1 then now else -1⟩else none,a.l⟩
def Ab.fresh (a:Ab)(n:Nat)(l:List (ByteArray×ByteArray)):Bool:=l.any fun p=>!a.has (p.1,n)
def Ab.oa (a : Ab)(n : Nat)(now : Int) : Ab :=
  ⟨fun m => (a.v m).map fun h => if h.a9 = -1 ∧ a.has (m.1, n) = true ∧ a.last m.1<n ∧ m.2<n then { h with a9 := now } else h,
   fun k => if a.has (k, n) = true ∧ a.last k<n then some n else a.l k⟩
def Ab.cut (a:Ab)(m0:Nm):Ab:=⟨fun m=>if m=m0 then none else a.v m,a.l⟩
theorem gm {a b:Ab}(h1:∀m,a.v m=b.v m)(h2:∀k,a.l k=b.l k):a=b:=by
 cases a;cases b;simp -implicitDefEqProofs only[Ab.mk.injEq];exact⟨funext h1,funext h2⟩
theorem eH {α β:Type}[DecidableEq α]{es:List (α×β)}(hn:(es.map (·.1)).Nodup){p:α×β}(hp:p∈es):ah es p.1=some p.2:=by
 induction es with
 | nil=>cases hp
 | cons e es ih =>
  rw[List.map_cons,List.nodup_cons]at hn
  rw[bJ]
  rcases List.mem_cons.1 hp with rfl|hp
  ·simp
  ·rw[if_neg,ih hn.2 hp]
   intro h
   exact hn.1 (h▸List.mem_map.2 ⟨p,hp,rfl⟩)
theorem kf.abs {s s':dk}{n:Nat}{l:List (ByteArray×ByteArray)}{ks:List ByteArray}{now:Int}{fr:Bool}(h:kf s s' n l ks now fr)(hn:(l.map (·.1)).Nodup):eb s'=(eb s).put n l ks now:=by
 refine gm (fun m=>?_) fun k=>by simp -implicitDefEqProofs only[eb,Ab.put,h.ls]
 simp -implicitDefEqProofs only[eb,Ab.put]
 by_cases hm:m.2=n∧m.1∈l.map (·.1)
 ·obtain⟨rfl,hm⟩:=hm
  obtain⟨p,hp,rS⟩:=List.mem_map.1 hm
  have e:m=(p.1,m.2):=by rw[rS]
  cases hl:ah s.vs m with
  | some x =>
   have:=h.jz p hp x (by rw[←e];exact hl)
   rw[←e]at this
   simp[this]
  | none =>
   obtain⟨kk,_,h2⟩:=h.new p hp (by rw[←e];exact hl)
   rw[←e]at h2
   have h3:=eH hn hp
   rw[rS]at h3 h2
   simp -implicitDefEqProofs only[h2,h3,Hd.vd,Option.map_some,Option.map_none,if_true];rfl
 ·have h1:=h.other m (by
   by_cases e:m.2=n
   ·exact .inr fun h=>hm ⟨e,h⟩
   ·exact .inl e)
  rw[h1]
  cases hl:ah s.vs m with
  | some x=>simp
  | none =>
   simp -implicitDefEqProofs only[Option.map_none]
   split
   ·rename_i e
    rw[cz.2 fun h=>hm ⟨e,h⟩];rfl
   ·rfl
theorem kf.fr {s s':dk}{n:Nat}{l:List (ByteArray×ByteArray)}{ks:List ByteArray}{now:Int}{fr:Bool}(h:kf s s' n l ks now fr):fr=(eb s).fresh n l:=by
 rw[Bool.eq_iff_iff,h.fresh]
 simp -implicitDefEqProofs only[Ab.fresh,List.any_eq_true,Ab.has,eb,Option.isSome_map,Bool.not_eq_true',Option.isSome_eq_false_iff,Option.isNone_iff_eq_none]
theorem sf.abs {s s':dk}{n:Nat}{now:Int}(hi:fY s)(h:sf s s' n now (s.cX n)):eb s'=(eb s).oa n now:=by
 have hp:∀k,k∈s.cX n↔(eb s).has (k,n)=true:=fun k=>by rw[hi.Jw];simp[Ab.has,eb]
 have gv:∀k,bE s k=(eb s).last k:=fun _=>rfl
 have hv:∀m,(eb s).v m=(ah s.vs m).map Hd.vd:=fun _=>rfl
 have yl:∀k,(eb s).l k=ah s.ls k:=fun _=>rfl
 obtain⟨a,ha⟩:∃a,a=eb s:=⟨_,rfl⟩
 rw[←ha]at hp gv hv yl ⊢
 refine gm (fun m=>?_) fun k=>?_
 ·obtain⟨h1,h2⟩:=h.vs.2 m
  show(ah s'.vs m).map Hd.vd=(a.v m).map _
  rw[hv]
  cases hl:ah s.vs m with
  | none=>rw[h1 hl];rfl
  | some x =>
   obtain⟨h3,h4⟩:=h2 x hl
   by_cases hc:(m.1∈s.cX n∧bE s m.1<n∧m.2<n)∧x.a9=-1
   ·rw[h3 hc]
    simp -implicitDefEqProofs only[Option.map_some,Option.some.injEq]
    rw[if_pos ⟨hc.2,(hp _).1 hc.1.1,gv _▸hc.1.2.1,hc.1.2.2⟩];rfl
   ·rw[h4 hc]
    simp -implicitDefEqProofs only[Option.map_some,Option.some.injEq]
    rw[if_neg]
    rintro⟨a,b,c,d⟩
    exact hc ⟨⟨(hp _).2 b,by rw[gv];exact c,d⟩,a⟩
 ·show ah s'.ls k=if _ then _ else a.l k
  rw[yl]
  by_cases hc:k∈s.cX n∧bE s k<n
  ·rw[h.on k hc.1 hc.2,if_pos ⟨(hp _).1 hc.1,by rw[←gv];exact hc.2⟩]
  ·rw[h.off k hc,if_neg fun hh=>hc ⟨(hp _).2 hh.1,by rw[gv];exact hh.2⟩]
theorem Gi {s:dk}(hi:fY s)(k:ByteArray)(n:Nat):eb (s.drop k n)=(eb s).cut (k,n):=by
 refine gm (fun m=>?_) fun k=>rfl
 simp -implicitDefEqProofs only[eb,Ab.cut,dk.drop,jq hi.nd]
 split<;>rfl
theorem Ap {α:Type}:∀{l l':List α},l.Nodup→(∀x∈l,x∈l')→l.length≤l'.length
 | [],_,_,_=>Nat.zero_le _
 | x :: l,l',hn,hs=>by
  obtain⟨a,b,rfl⟩:=List.append_of_mem (hs x List.mem_cons_self)
  rw[List.nodup_cons]at hn
  have:=Ap (l:=l) (l':=a++b) hn.2 fun y hy=>by
   have h:=hs y (List.mem_cons_of_mem _ hy)
   rcases List.mem_append.1 h with h|h
   ·exact List.mem_append_left _ h
   ·rcases List.mem_cons.1 h with rfl|h
    ·exact absurd hy hn.1
    ·exact List.mem_append_right _ h
  simp -implicitDefEqProofs only[List.length_append,List.length_cons]at this ⊢
  omega
theorem kf.OI {s s':dk}{n:Nat}{l:List (ByteArray×ByteArray)}{ks:List ByteArray}{now:Int}{fr:Bool}(h:kf s s' n l ks now fr)(hi:fY s'):s'.vs.length≤s.vs.length+l.length:=by
 have:=Ap (l:=s'.vs.map (·.1)) (l':=s.vs.map (·.1)++l.map fun p=>(p.1,n)) hi.nd fun m hm=>by
  rw[List.mem_append]
  by_cases hc:m.2=n∧m.1∈l.map (·.1)
  ·obtain⟨p,hp,e⟩:=List.mem_map.1 hc.2
   exact .inr (List.mem_map.2 ⟨p,hp,by rw[e,←hc.1]⟩)
  ·refine .inl ?_
   rw[mem_keys]at hm ⊢
   rwa[h.other m (by
    by_cases e:m.2=n
    ·exact .inr fun h=>hc ⟨e,h⟩
    ·exact .inl e)]at hm
 simpa using this
theorem VS.OI {v v':List (Nm×Hd)}{now:Int}{S:Nm→Prop}(h:VS v v' now S)(hn:(v.map (·.1)).Nodup):v'.length=v.length:=by
 have:=OA h.1 hn fun m=>by rw[mem_keys,mem_keys,h.some]
 simpa using this
def ja (H:af)(b:Bk)(a:Ab)(F:Nat→Prop)(n:Nat):Prop:=∃s,SH H b s F∧fY s∧eb s=a∧s.n≤n∧s.vs.length≤n
theorem ja.ext {H H':af}{b:Bk}{a:Ab}{F:Nat→Prop}{n:Nat}(h:ja H b a F n)(hx:Ext H H'):ja H' b a F n:=by
 obtain⟨s,h1,h2⟩:=h
 exact⟨s,h1.ext hx,h2⟩
theorem ja.le {H:af}{b:Bk}{a:Ab}{F:Nat→Prop}{n m:Nat}(h:ja H b a F n)(hm:n≤m):ja H b a F m:=by
 obtain⟨s,h1,h2,h3,h4,h5⟩:=h
 exact⟨s,h1,h2,h3,by omega,by omega⟩
def Hv (F F':Nat→Prop)(H H':af):Prop:=∀c,F' c→F c∨(H.length≤c∧c<H'.length)
theorem TC (H:af):W env (.call 28 []) H (fun o H'=>Ext H H'∧∃b F,o=.val (.ptr b.s 0)∧ja H' b Ab.emp F 0∧∀c,F c→H.length≤c∧c<H'.length) :=
 W.use (YT H) fun o H' ⟨hx,b,F,hu,sh,hF⟩=>⟨hx,b,F,hu,⟨_,sh,fY.emp,rfl,Nat.le_refl _,Nat.le_refl _⟩,hF⟩
theorem Gj {n:Nat}{l:List (ByteArray×ByteArray)}{ks:List ByteArray}(h:lY n l ks):(l.map (·.1)).Nodup:=by
 refine List.pairwise_map.2 (List.pairwise_iff_getElem.2 fun i j hi hj qQ e=>?_)
 have:=qS h i j _ _ qQ (List.getElem?_eq_getElem hi) (List.getElem?_eq_getElem hj)
 rw[e,fc]at this;cases this
def TD (b:Bk)(a:Ab)(F:Nat→Prop)(m n:Nat)(l:List (ByteArray×ByteArray))(ks:List ByteArray)(now:Int)(H:af):Out→af→Prop:=fun o H' =>
 ∃F',o=.val (.bF [.bool (a.fresh n l),.int .i64 0])∧ja H' b (a.put n l ks now) F' (m+l.length)∧bh F H H'∧Hv F F' H H'
theorem ZM {b:Bk}{a:Ab}{F:Nat→Prop}{m:Nat}(n:Nat)(k k':SK)(l:List (ByteArray×ByteArray))(ks:List ByteArray)(now:Int){H:af}(h:ja H b a F m)(hn:m+l.length≤8000000)(mL:gz k' ks)(hm:lY n l ks)(ht:bl now) :
  W env (.call 23 [.ptr b.s 0,.int .u64 n,.sl k (l.map eP),.sl k' (ks.map eS),.int .i64 now]) H (TD b a F m n l ks now H):=by
 obtain⟨s,sh,hi,rfl,h4,h5⟩:=h
 refine W.use (SJ b s F n k k' l ks now H sh hi (by omega) mL hm ht) fun o H' ⟨s',F',fr,hu,OJ,ka,hp,A5,aq,hg⟩=>⟨F',?_,⟨s',OJ,ka,hp.abs (Gj hm),by omega,?_⟩,aq,hg⟩
 ·rw[hu,hp.fr]
 ·have:=hp.OI ka;omega
def TE (b:Bk)(a:Ab)(F:Nat→Prop)(m n:Nat)(now:Int)(H:af):Out→af→Prop:=fun o H' =>
 ∃D:List ByteArray,D.Nodup∧(∀k,k∈D↔a.has (k,n)=true)∧o=.val (.bF [.int .i64 D.length,.int .i64 0])∧ja H' b (a.oa n now) F m∧bh F H H'
theorem ZN {b:Bk}{a:Ab}{F:Nat→Prop}{m:Nat}(n:Nat)(now:Int){H:af}(h:ja H b a F m)(hn:m≤8000000)(SM:65536≤n)(ht:bl now):W env (.call 24 [.ptr b.s 0,.int .u64 n,.int .i64 now]) H (TE b a F m n now H):=by
 obtain⟨s,sh,hi,rfl,h4,h5⟩:=h
 refine W.use (FP b s F n now H sh hi (by omega) SM ht) fun o H' ⟨s',hu,OJ,ka,hc,A5,_,_,aq⟩=>⟨s.cX n,hi.N2 n,fun k=>?_,hu,⟨s',OJ,ka,hc.abs hi,by omega,?_⟩,aq⟩
 ·rw[hi.Jw];simp[Ab.has,eb]
 ·have:=hc.vs.OI hi.nd;omega
def OK (b:Bk)(a:Ab)(F:Nat→Prop)(m:Nat)(k:ByteArray)(n:Nat)(H:af):Out→af→Prop:=fun o H' =>
 (a.v (k,n)=none∧o=.val (.int .i64 110)∧Ext H H')∨(∃h,a.v (k,n)=some h∧h.a9=-1∧o=.val (.int .i64 1)∧Ext H H') ∨
 ∃h,a.v (k,n)=some h∧h.a9≠-1∧o=.val (.int .i64 0)∧ja H' b (a.cut (k,n)) F m∧bh F H H'
theorem Gk {α β:Type}[DecidableEq α](es:List (α×β))(k:α):(lX es k).length≤es.length:=by
 unfold lX;split
 ·exact List.length_eraseIdx_le es _
 ·exact Nat.le_refl _
theorem TF {b:Bk}{a:Ab}{F:Nat→Prop}{m:Nat}(k:ByteArray)(n:Nat){H:af}(h:ja H b a F m)(hn:m≤8000000):W env (.call 25 [.ptr b.s 0,.str k,.int .u64 n]) H (OK b a F m k n H):=by
 obtain⟨s,sh,hi,rfl,h4,h5⟩:=h
 refine W.use (N9 b s F k n H sh hi (by omega)) fun o H' hq=>?_
 rcases hq with⟨h1,hu,hx⟩|⟨h,h1,h2,hu,hx⟩|⟨h,h1,h2,hu,OJ,aq⟩
 ·exact .inl ⟨by simp[eb,h1],hu,hx⟩
 ·exact .inr (.inl ⟨h.vd,by simp[eb,h1],h2,hu,hx⟩)
 ·exact .inr (.inr ⟨h.vd,by simp[eb,h1],h2,hu,⟨_,OJ,hi.drop k n,Gi hi k n,by simpa[dk.drop]using h4,Nat.le_trans (Gk _ _) h5⟩,aq⟩)
theorem TG {b:Bk}{a:Ab}{F:Nat→Prop}{m:Nat}(k:ByteArray){H:af}(h:ja H b a F m):W env (.call 22 [.ptr b.s 0,.str k]) H (mY (.int .u64 (a.last k:Nat)) H):=by
 obtain⟨s,sh,hi,rfl,h4,h5⟩:=h
 exact N3 b s F k H sh
def hO (o:Option Vd):Vd:=o.getD ⟨⟨#[]⟩,[],0⟩
theorem TH (o:Option Hd):(pw o).vd=hO (o.map Hd.vd):=by cases o<;>rfl
def Names (a:Ab)(l:List Nm):Prop:=l.Pairwise (fun x y=>aX x y=true)∧∀m,m∈l↔a.has m=true
theorem Names.uniq {a:Ab}{l l':List Nm}(h:Names a l)(h':Names a l'):l=l':=tD l l' h.1 h'.1 fun m=>by rw[h.2,h'.2]
def TI (a:Ab)(m:Nm):List T:=[.str m.1,.int .u64 m.2,.str (hO (a.v m)).value,.sl .arg ((hO (a.v m)).keys.map eS),.int .i64 (hO (a.v m)).a9]
theorem Names.nd {a:Ab}{l:List Nm}(h:Names a l):l.Nodup:=h.1.imp fun {x y} Gl=>by rintro rfl;rw[lK]at Gl;cases Gl
theorem tF {b:Bk}{a:Ab}{F:Nat→Prop}{m:Nat}{H:af}(h:ja H b a F m)(hn:m≤8000000):W env (.call 18 [.ptr b.s 0]) H (fun o H'=>Ext H H'∧∃k l,gz k l∧Names a l∧l.length≤m∧o=.val (.sl k (l.map (TI a)))):=by
 obtain⟨s,sh,hi,rfl,h4,h5⟩:=h
 refine W.use (Oy b s F H sh hi (by omega)) fun o H' ⟨hx,k,l,mL,hu,hp,JU⟩=>⟨hx,k,l,mL,⟨JU,fun m=>?_⟩,?_,?_⟩
 ·rw[hp.mem_iff,mem_keys];simp[Ab.has,eb]
 ·rw[hp.length_eq];simpa using h5
 ·rw[hu]
  congr 2
  rw[pg,List.map_map]
  refine List.map_congr_left fun m _=>?_
  have e:=TH (ah s.vs m)
  simp -implicitDefEqProofs only[Function.comp,eK,TI,eb,←e,Hd.vd]
def eW (x:Nm):List T:=[.str x.1,.int .u64 x.2]
def dv (a:Ab)(l:List ByteArray):Prop:=l.Pairwise (fun x y=>strLt x y=true)∧∀k,k∈l↔(a.l k).isSome=true
def ig (a:Ab)(k:ByteArray):Nm:=(k,a.last k)
theorem rb:∀(l l':List ByteArray),l.Pairwise (fun a b=>strLt a b=true)→l'.Pairwise (fun a b=>strLt a b=true)→(∀x,x∈l↔x∈l')→l=l'
 | [],[],_,_,_=>rfl
 | [],b :: l',_,_,h=>by have:=(h b).2 (by simp);cases this
 | a :: l,[],_,_,h=>by have:=(h a).1 (by simp);cases this
 | a :: l,b :: l',h1,h2,h=>by
  rw[List.pairwise_cons]at h1 h2
  have gb:a=b:=by
   rcases List.mem_cons.1 ((h a).1 (by simp))with e|ha
   ·exact e
   ·rcases List.mem_cons.1 ((h b).2 (by simp))with e|hb
    ·exact e.symm
    ·have x1:=h1.1 b hb
     have x2:=h2.1 a ha
     rw[lt_asymm x1]at x2;cases x2
  subst gb
  congr 1
  refine rb l l' h1.2 h2.2 fun x=>⟨fun hx=>?_,fun hx=>?_⟩
  ·rcases List.mem_cons.1 ((h x).1 (by simp[hx]))with e|jh
   ·subst e;have:=h1.1 x hx;rw[fc]at this;cases this
   ·exact jh
  ·rcases List.mem_cons.1 ((h x).2 (by simp[hx]))with e|jh
   ·subst e;have:=h2.1 x hx;rw[fc]at this;cases this
   ·exact jh
theorem dv.uniq {a:Ab}{l l':List ByteArray}(h:dv a l)(h':dv a l'):l=l':=rb l l' h.1 h'.1 fun m=>by rw[h.2,h'.2]
theorem uP {a:Ab}{n:Nat}{l:List (ByteArray×ByteArray)}{ks:List ByteArray}{now:Int}{m:Nm}:(a.put n l ks now).has m=(a.has m||(decide (m.2=n)&&(ah l m.1).isSome)):=by
 simp -implicitDefEqProofs only[Ab.has,Ab.put]
 cases h:a.v m with
 | some x=>simp
 | none =>
  by_cases e:m.2=n
  ·simp[e]
  ·simp[e]
theorem Aq {a:Ab}{n:Nat}{now:Int}{m:Nm}:(a.oa n now).has m=a.has m:=by
 simp -implicitDefEqProofs only[Ab.has,Ab.oa,Option.isSome_map]
theorem BX {α β:Type}[DecidableEq α]{es:List (α×β)}{k:α}(h:(ah es k).isSome=true):k∈es.map (·.1):=by rw[mem_keys];exact h
structure kr (H0 H:af)(b:Bk)(a:Ab)(F:Nat→Prop)(m:Nat):Prop where
 at_:ja H b a F m
 lg:bh (fun _=>False) H0 H
 new:∀c,F c→H0.length≤c∧c<H.length
theorem kr.ext {H0 H H':af}{b:Bk}{a:Ab}{F:Nat→Prop}{m:Nat}(h:kr H0 H b a F m)(hx:Ext H H'):kr H0 H' b a F m:=⟨h.at_.ext hx,h.lg.ext hx,fun c hc=>by have:=h.new c hc;have:=hx.len;omega⟩
theorem kr.go {H0 H H':af}{b:Bk}{a a':Ab}{F F':Nat→Prop}{m m':Nat}(h:kr H0 H b a F m)(ha:ja H' b a' F' m')(hf:bh F H H')(hg:Hv F F' H H'):kr H0 H' b a' F' m':=⟨ha,h.lg.more hf fun c hc=>(h.new c hc).1,fun c hc=>by
 have l1:=h.lg.1
 have l2:=hf.1
 rcases hg c hc with h'|h'
 ·have:=h.new c h';omega
 ·omega⟩
theorem kr.go' {H0 H H':af}{b:Bk}{a a':Ab}{F:Nat→Prop}{m m':Nat}(h:kr H0 H b a F m)(ha:ja H' b a' F m')(hf:bh F H H'):kr H0 H' b a' F m':=h.go ha hf fun _ h=>.inl h
theorem ja.keys {H:af}{b:Bk}{a:Ab}{F:Nat→Prop}{n:Nat}(h:ja H b a F n):∀m,(hO (a.v m)).keys.length≤1024:=fun m=>by
 obtain⟨s,_,hi,rfl,_⟩:=h
 simp -implicitDefEqProofs only[eb]
 cases e:ah s.vs m with
 | none=>simp[hO]
 | some x=>exact(hi.SD m x e).2
theorem ja.names {H:af}{b:Bk}{a:Ab}{F:Nat→Prop}{n:Nat}(h:ja H b a F n):∃l,Names a l∧l.length≤n:=by
 obtain⟨s,_,hi,rfl,_,hv⟩:=h
 obtain⟨hp,JU⟩:=nO (d:=(s.vs.map (·.1)).toArray) (by simpa using hi.nd)
 refine⟨_,⟨JU,fun m=>?_⟩,?_⟩
 ·rw[hp.mem_iff]
  show m∈(s.vs.map (·.1)).toArray.toList↔_
  rw[List.toList_toArray,mem_keys];simp[Ab.has,eb]
 ·rw[hp.length_eq];simpa using hv
theorem TJ {b:Bk}{a:Ab}{F:Nat→Prop}{m:Nat}(n:Nat)(k k':SK)(l:List (ByteArray×ByteArray))(ks:List ByteArray)(now:Int){H:af}(h:ja H b a F m)(hl:l.length≤8000000)(Px:ks.length≤8000000)(hm:¬(lY n l ks∧bl now)) :
  W env (.call 23 [.ptr b.s 0,.int .u64 n,.sl k (l.map eP),.sl k' (ks.map eS),.int .i64 now]) H (fun o H'=>o=.val (.bF [.bool false,.int .i64 1])∧Ext H H'):=by
 refine W.bR rfl rfl rfl ?_
 simp -implicitDefEqProofs only[Jn,op,ef,cl,sq,reduceIte,j4,j5,j6,j7,j8,j9,y1,y2,y3,S1]
 refine ae _ _ _ _ _ _ _ _ (Lu n k k' l ks _ (by omega) (by omega)) ?_
 rintro u H1⟨gw,bb,hu,hb⟩
 cases hu
 cases bb
 ·simp -implicitDefEqProofs only[op,ef,cl,sq,reduceIte,j4,j5,j6,j7,j8,j9,y1,y2,y3,S1];exact gw
 ·simp -implicitDefEqProofs only[op,ef,cl,sq,reduceIte,j4,j5,j6,j7,j8,j9,y1,y2,y3,S1]
  refine ae _ _ _ _ _ _ _ _ (qP now _) ?_
  rintro u H2⟨hu,rfl⟩
  cases hu
  have hf:(decide (0≤now)&&decide (now≤1099511627776))=false:=by
   rw[Bool.and_eq_false_iff,decide_eq_false_iff_not,decide_eq_false_iff_not]
   have:¬bl now:=fun h=>hm ⟨hb.1 rfl,h⟩
   unfold bl at this;omega
  simp -implicitDefEqProofs only[op,ef,cl,sq,reduceIte,j4,j5,j6,j7,j8,j9,y1,y2,y3,S1,hf]
  exact gw
def Hw (a:Ab):Prop:=∀m h,a.v m=some h→(h.a9=-1↔¬m.2<a.last m.1)
theorem Hw.emp:Hw Ab.emp:=fun m h e=>by cases e
theorem Hw.put {a:Ab}(h:Hw a){n:Nat}{l:List (ByteArray×ByteArray)}{ks:List ByteArray}{now:Int}(ht:0≤now):Hw (a.put n l ks now):=fun m x e=>by
 have hl:(a.put n l ks now).last m.1=a.last m.1:=rfl
 rw[hl]
 simp -implicitDefEqProofs only[Ab.put]at e
 cases h1:a.v m with
 | some y=>rw[h1]at e;cases e;exact h m _ h1
 | none =>
  rw[h1]at e
  simp only at e
  split at e
  ·rename_i en
   cases h2:ah l m.1 with
   | none=>rw[h2]at e;cases e
   | some v =>
    rw[h2]at e;cases e
    simp only
    split
    ·rename_i au;rw[en];constructor
     ·intro;omega
     ·intro hh;exact absurd au hh
    ·rename_i au;rw[en];simp[au]
  ·cases e
theorem Hw.oa {a:Ab}(h:Hw a){n:Nat}{now:Int}(ht:0≤now):Hw (a.oa n now):=fun m x e=>by
 have hl:(a.oa n now).last m.1=if a.has (m.1,n)=true∧a.last m.1<n then n else a.last m.1:=by
  show(if _ then some n else a.l m.1).getD 0=_
  by_cases hc:a.has (m.1,n)=true∧a.last m.1<n
  ·rw[if_pos hc,if_pos hc];rfl
  ·rw[if_neg hc,if_neg hc];rfl
 rw[hl]
 simp -implicitDefEqProofs only[Ab.oa]at e
 cases h1:a.v m with
 | none=>rw[h1]at e;cases e
 | some y =>
  have hy:=h m y h1
  rw[h1]at e;simp -implicitDefEqProofs only[Option.map_some,Option.some.injEq]at e;subst e
  by_cases hc:a.has (m.1,n)=true∧a.last m.1<n
  ·rw[if_pos hc]
   by_cases hs:y.a9=-1
   ·by_cases hm:m.2<n
    ·rw[if_pos ⟨hs,hc.1,hc.2,hm⟩];simp only;constructor
     ·intro;omega
     ·intro hh;exact absurd hm hh
    ·rw[if_neg fun hh=>hm hh.2.2.2];exact⟨fun _=>hm,fun _=>hs⟩
   ·rw[if_neg fun hh=>hs hh.1]
    have:m.2<a.last m.1:=Decidable.of_not_not fun hh=>hs (hy.2 hh)
    constructor
    ·intro hh;exact absurd hh hs
    ·intro hh;omega
  ·rw[if_neg hc,if_neg fun hh=>hc ⟨hh.2.1,hh.2.2.1⟩];exact hy
theorem BZ {α β:Type}[DecidableEq α](es:List (α×β))(k k':α)(v:β):ah (es++[(k,v)]) k'=(ah es k').or (if k'=k then some v else none):=by
 induction es with
 | nil=>simp[bJ,dC]
 | cons e es ih =>
  rw[List.cons_append,bJ,bJ,ih]
  split<;>simp
theorem Gm (a:Ab)(n:Nat)(l:List (ByteArray×ByteArray))(ks:List ByteArray)(now:Int)(m:Nm):(a.put n l ks now).v m=(a.v m).or (if m.2=n then(ah l m.1).map fun v=>⟨v,ks,if n<a.last m.1 then now else -1⟩else none):=by
 simp -implicitDefEqProofs only[Ab.put]
 cases a.v m<;>rfl
structure Kd where
 key:ByteArray
 id:Nat
 value:ByteArray
 kk:SK
 keys:List ByteArray
 a9:Int
def Kd.nm (x:Kd):Nm:=(x.key,x.id)
def Kd.vd (x:Kd):Vd:=⟨x.value,x.keys,x.a9⟩
def js (x:Kd):List T:=[.str x.key,.int .u64 x.id,.str x.value,.sl x.kk (x.keys.map eS),.int .i64 x.a9]
def TK (x:Kd):Prop:=gz x.kk x.keys∧x.keys.length≤8000000
def py (a:Ab)(x:Kd):Prop:=65536≤x.id∧fX x.keys∧x.key∈x.keys∧x.value.size≤65535∧if x.id<a.last x.key then bl x.a9 else x.a9=-1
set_option maxHeartbeats 8000000 in
theorem Ar {b:Bk}{a:Ab}{F:Nat→Prop}{m:Nat}(x:Kd)(hx:TK x){H:af}(h:ja H b a F m):W env (.call 91 [.ptr b.s 0,.agg (js x)]) H (fun o H'=>Ext H H'∧∃t,o=.val (.bool t)∧(t=true↔py a x)):=by
 obtain⟨s,⟨im,pm,sa⟩,hi,rfl,h4,h5⟩:=h
 have l0:=aW sa.hs
 have ll:=aW sa.hl
 have Lw:b.s<H.length+1:=by omega
 have Vg:b.s<H.length+2:=by omega
 have Vh:b.l<H.length+1:=by omega
 have Vi:b.l<H.length+2:=by omega
 have rR:=lh s x.key
 have gv:(eb s).last x.key=bE s x.key:=rfl
 have Cy:Ext H (H++[B.cells (js x)]++[B.cells [.str x.key,.int .u64 x.id,.str x.value,.sl x.kk (x.keys.map eS)]]):=(Ext.rfl'.app _).app _
 have no:¬py (eb s) x→((false:Bool)=true↔py (eb s) x):=fun h=>⟨fun e=>(by cases e),fun e=>absurd e h⟩
 have c0:(H++[B.cells (js x)]++[B.cells [.str x.key,.int .u64 x.id,.str x.value,.sl x.kk (x.keys.map eS)]])[H.length]?=some (.cells (js x)):=by rw[aV (by simp),aU rfl]
 simp -implicitDefEqProofs only[js]at Cy c0
 refine W.bR rfl rfl rfl ?_
 by_cases SM:x.id<65536
 ·simp -implicitDefEqProofs only[Js,js,op,ef,cl,sq,reduceIte,j4,j5,j6,j7,j8,j9,y1,y2,y3,S1,S2,SM]
  exact⟨Cy,false,rfl,no fun h=>by have:=h.1;omega⟩
 simp -implicitDefEqProofs only[Js,js,op,ef,cl,sq,reduceIte,j4,j5,j6,j7,j8,j9,y1,y2,y3,S1,S2,SM]
 refine ae _ _ _ _ _ _ _ _ (wY x.kk x.keys _ (by have:=hx.2;omega)) ?_
 rintro u H1⟨hu,rfl⟩
 cases hu
 cases hg:jW x.keys
 ·simp -implicitDefEqProofs only[op,ef,cl,sq,reduceIte,j4,j5,j6,j7,j8,j9,y1,y2,y3,S1,S2]
  exact⟨Cy,false,rfl,no fun h=>by have:=dD.2 h.2.1;rw[hg]at this;cases this⟩
 have Hk:=dD.1 hg
 simp -implicitDefEqProofs only[op,ef,cl,sq,reduceIte,j4,j5,j6,j7,j8,j9,y1,y2,y3,S1,S2]
 refine ae _ _ _ _ _ _ _ _ (FM x.kk x.keys x.key _ (by have:=hx.2;omega) Hk.iI) ?_
 rintro u H1⟨hu,rfl⟩
 cases hu
 cases hm:nG x.keys x.key
 ·simp -implicitDefEqProofs only[op,ef,cl,sq,reduceIte,j4,j5,j6,j7,j8,j9,y1,y2,y3,S1,S2]
  exact⟨Cy,false,rfl,no fun h=>pS.1 hm h.2.2.1⟩
 by_cases a6:65535<x.value.size
 ·simp -implicitDefEqProofs only[op,ef,cl,sq,reduceIte,j4,j5,j6,j7,j8,j9,y1,y2,y3,S1,S2,a6]
  exact⟨Cy,false,rfl,no fun h=>by have:=h.2.2.2.1;omega⟩
 have ok:∀t:Bool,(t=true↔if x.id<bE s x.key then bl x.a9 else x.a9=-1)→(t=true↔py (eb s) x):=fun t ht=>by
  rw[ht]
  exact⟨fun h=>⟨by omega,Hk,nH.1 hm,by omega,h⟩,fun h=>h.2.2.2.2⟩
 by_cases au:x.id<bE s x.key
 ·simp -implicitDefEqProofs only[op,ef,cl,sq,reduceIte,j4,j5,j6,j7,j8,j9,y1,y2,y3,S1,S2,a6,sa.hs,sa.hl,l0,Lw,Vg,ll,Vh,Vi,fe,rR,au,c0]
  refine ae _ _ _ _ _ _ _ _ (qP x.a9 _) ?_
  rintro u H1⟨hu,rfl⟩
  cases hu
  simp -implicitDefEqProofs only[op,ef,cl,sq,reduceIte,j4,j5,j6,j7,j8,j9,y1,y2,y3,S1]
  exact⟨Cy,_,rfl,ok _ (by rw[if_pos au];simp[bl])⟩
 ·simp -implicitDefEqProofs only[op,ef,cl,sq,reduceIte,j4,j5,j6,j7,j8,j9,y1,y2,y3,S1,S2,a6,sa.hs,sa.hl,l0,Lw,Vg,ll,Vh,Vi,fe,rR,au,c0]
  exact⟨Cy,_,rfl,ok _ (by rw[if_neg au];simp)⟩
theorem tG {α:Type}{R:α→α→Prop}(tr:∀a b c,R a b→R b c→R a c){l:List α}{i:Nat}{x:α}(hx:l[i]?=some x):(l.take (i+1)).Pairwise R↔(l.take i).Pairwise R∧(0<i→∀y,l[i-1]?=some y→R y x):=by
 rw[cD hx,List.pairwise_append]
 constructor
 ·rintro⟨h1,_,h3⟩
  exact⟨h1,fun h0 y hy=>h3 y (List.mem_of_getElem? (i:=i-1) (by rw[List.getElem?_take,if_pos (by omega)];exact hy)) x (by simp)⟩
 ·rintro⟨h1,h2⟩
  refine⟨h1,by simp,fun a ha c hc=>?_⟩
  simp -implicitDefEqProofs only[List.mem_singleton]at hc;subst hc
  have hi:=(List.getElem?_eq_some_iff.1 hx).1
  by_cases h0:0<i
  ·obtain⟨y,hy⟩:=cj (l:=l) (i:=i-1) (by omega)
   have e:l.take i=l.take (i-1)++[y]:=by rw[←cD hy,Nat.sub_add_cancel h0]
   rw[e]at h1 ha
   rw[List.pairwise_append]at h1
   rcases List.mem_append.1 ha with ha|ha
   ·exact tr _ _ _ (h1.2.2 a ha y (by simp)) (h2 h0 y hy)
   ·simp -implicitDefEqProofs only[List.mem_singleton]at ha;subst ha;exact h2 h0 a hy
  ·have:i=0:=by omega
   subst this;simp at ha
def jQ (ls:List Nm):Prop:=ls.Pairwise (fun a b=>strLt a.1 b.1=true)
def jR (l:List Kd):Prop:=l.Pairwise (fun x y=>aX x.nm y.nm=true)
def yO (l:List Kd):List (Nm×Vd):=l.map fun x=>(x.nm,x.vd)
def gg (kept:List Kd)(br:List Nm):Ab:=⟨fun m=>ah (yO kept) m,fun k=>ah br k⟩
def mO (kept:List Kd)(br:List Nm):Prop:=jQ br∧jR kept∧(∀x∈kept,py (gg [] br) x)∧∀e∈br,∃x∈kept,x.nm=e
theorem jQ.nd {ls:List Nm}(h:jQ ls):(ls.map (·.1)).Nodup:=List.pairwise_map.2 (h.imp fun {a b} gb e=>by rw[e,fc]at gb;cases gb)
theorem uQ (l:List Kd):(yO l).map (·.1)=l.map Kd.nm:=by simp[yO,Function.comp_def]
theorem jR.nd {l:List Kd}(h:jR l):(l.map Kd.nm).Nodup:=List.pairwise_map.2 (h.imp fun {a b} gb e=>by rw[e,lK]at gb;cases gb)
theorem nQ {α β:Type}[DecidableEq α]{es:List (α×β)}{k:α}{v:β}(h:ah es k=some v):(k,v)∈es:=by
 induction es with
 | nil=>cases h
 | cons e es ih =>
  rw[bJ]at h
  split at h
  ·rename_i e2;cases h;rw[e2];exact List.mem_cons_self
  ·exact List.mem_cons_of_mem _ (ih h)
theorem Gn {a a':Ab}(h:a.l=a'.l)(x:Kd):py a x↔py a' x:=by
 have:a.last=a'.last:=by funext k;simp[Ab.last,h]
 unfold py;rw[this]
theorem re {α β:Type}[DecidableEq α](es:List (α×β))(e:α×β)(k':α):ah (es++[e]) k'=(ah es k').or (if k'=e.1 then some e.2 else none):=BZ es e.1 k' e.2
theorem ja.TL {H:af}{b:Bk}{a:Ab}{F:Nat→Prop}{m:Nat}(h:ja H b a F m)(k:ByteArray)(n:Nat):∃im,H[b.s]?=some (.cells [.map b.v,.map b.i,.map b.p,.map b.l])∧H[b.l]?=some (.map (ba T.str im))∧F b.l ∧
  ja (H.set b.l (.map (ba T.str (ct im k (.int .u64 n))))) b ⟨a.v,fun k'=>if k'=k then some n else a.l k'⟩ F m:=by
 obtain⟨s,⟨im,pm,sa⟩,hi,rfl,h4,h5⟩:=h
 refine⟨kd s.ls,sa.hs,sa.hl,sa.F0.2.2.2.2,{ s with ls:=ct s.ls k n },⟨im,pm,?_⟩,?_,?_,h4,h5⟩
 ·have e:ct (kd s.ls) k (T.int .u64 n)=kd (ct s.ls k n):=nI (fun n:Nat=>T.int .u64 n) s.ls k n
  rw[e];exact sa.SL _
 ·exact VS.inv (v':=s.vs) (now:=0) hi (VS.nil hi.nd) _ (cW hi.yr _ _)
 ·refine gm (fun m=>rfl) fun k'=>?_
  simp -implicitDefEqProofs only[eb,bm]
theorem TM {b:Bk}{a:Ab}{F:Nat→Prop}{m:Nat}(x:Kd)(kk:SK){H:af}(h:ja H b a F m)(hn:m+1≤8000000)(hk:gz kk x.keys)(hl:x.keys.length≤1024)(gD:a.v x.nm=none) :
  W env (.call 68 [.ptr b.s 0,.agg [.str x.key,.int .u64 x.id],.agg [.str x.value,.sl kk (x.keys.map eS),.int .i64 x.a9]]) H (fun o H'=>o=.val (.bF [])∧∃F',ja H' b ⟨fun m'=>if m'=x.nm then some x.vd else a.v m',a.l⟩ F' (m+1)∧bh F H H'∧Hv F F' H H'):=by
 obtain⟨s,sh,hi,rfl,h4,h5⟩:=h
 have ZO:ah s.vs (x.key,x.id)=none:=by simpa[eb,Kd.nm]using gD
 refine W.use (Lv b s F x.key x.id ⟨x.value,kk,x.keys,x.a9⟩ H sh hi ZO (by omega) ⟨hk,hl⟩) fun o H' ⟨hu,s',F',OJ,ka,iq,Ho,A5,aq,hg⟩=>⟨hu,F',⟨s',OJ,ka,?_,by omega,?_⟩,aq,hg⟩
 ·refine gm (fun m'=>?_) fun k=>by simp -implicitDefEqProofs only[eb,Ho]
  have e0:(x.key,x.id)=x.nm:=rfl
  simp -implicitDefEqProofs only[eb,iq,bm,e0]
  by_cases e:m'=x.nm
  ·rw[if_pos e,if_pos e];rfl
  ·rw[if_neg e,if_neg e]
 ·rw[iq]
  have:∀(es:List (Nm×Hd)) k v,(ct es k v).length≤es.length+1:=fun es k v=>by unfold ct;split<;>simp
  have:=this s.vs (x.key,x.id) ⟨x.value,kk,x.keys,x.a9⟩
  omega
def TN (kept:List Kd)(br:List Nm)(H:af):Out→af→Prop:=fun o H' =>
 (mO kept br∧∃b F,o=.val (.bF [.ptr b.s 0,.int .i64 0])∧kr H H' b (gg kept br) F kept.length)∨(¬mO kept br∧o=.val (.bF [.b0,.int .i64 1])∧Ext H H')
set_option maxHeartbeats 2000000 in
theorem OL (k1 k2:SK)(kept:List Kd)(br:List Nm)(U1:kept.length≤8000000)(rR:br.length≤8000000)(mL:∀x∈kept,TK x)(H:af):W env (.call 58 [.sl k1 (kept.map js),.sl k2 (br.map eW)]) H (TN kept br H):=by
 refine W.bR rfl rfl rfl ?_
 simp -implicitDefEqProofs only[NC,op,ef,cl,sq,reduceIte,j4,j5,j6,j7,j8,j9,y1,y2,y3,S1]
 refine ae _ _ _ _ _ _ _ _ (TC _) ?_
 rintro u H1⟨gw,b,F,hu,v1,nF⟩
 cases hu
 have p1:kr H H1 b Ab.emp F 0:=⟨v1,ay gw,nF⟩
 simp -implicitDefEqProofs only[op,ef,cl,sq,reduceIte,j4,j5,j6,j7,j8,j9,y1,y2,y3,S1,List.length_map]
 refine W.fW 0 [(0,_),(1,_),(6,_),(17,_),(18,_)] (fun (i:Nat) R H'=>At H' (fun H'=>kr H H' b (gg [] (br.take i)) F 0∧jQ (br.take i))∧R 19=.int .i64 i∧i≤br.length) (fun i=>br.length-i) 0
  (fun R H'=>At H' (fun H'=>kr H H' b (gg [] br) F 0∧jQ br)) ⟨.i ⟨by rw[List.take_zero];exact p1,by rw[List.take_zero];exact List.Pairwise.nil⟩,rfl,Nat.zero_le _⟩ ?_ ?_
 ·rintro i R H2⟨⟨p2,Ai⟩,Gp,hi⟩
  by_cases au:i<br.length
  ·obtain⟨e,he⟩:=cj au
   have ie:=fx (e:=eW) (n:=2) (fun _=>rfl) (by decide) (k:=k2) he
   have l4:=aC (show i<9223372036854775807 by omega)
   have dG:=tG (R:=fun a b:Nm=>strLt a.1 b.1=true) (fun a b c h1 h2=>et h1 h2) he
   have TO:Ext H2 (H2++[.cells [.str e.1,.int .u64 e.2]]):=⟨_,rfl⟩
   have oW:¬jQ (br.take (i+1))→¬mO kept br:=fun h hl=>h (hl.1.sublist (List.take_sublist _ _))
   have go:(0<i→∀y,br[i-1]?=some y→strLt y.1 e.1=true)→jQ (br.take (i+1)):=fun h=>dG.2 ⟨Ai,h⟩
   obtain⟨im,hs,hl,hF,UP⟩:=(p2.at_.ext TO).TL e.1 e.2
   have hk:(0<i→∀y,br[i-1]?=some y→strLt y.1 e.1=true)→ja ((H2++[B.cells [.str e.1,.int .u64 e.2]]).set b.l (.map (ba T.str (ct im e.1 (.int .u64 e.2))))) b (gg [] (br.take (i+1))) F 0:=fun h=>by
    have e1:gg [] (br.take (i+1))=⟨(gg [] (br.take i)).v,fun k'=>if k'=e.1 then some e.2 else(gg [] (br.take i)).l k'⟩:=by
     refine gm (fun m=>rfl) fun k'=>?_
     have fB:=(go h).nd
     rw[cD he,List.map_append,List.nodup_append]at fB
     have gD:ah (br.take i) e.1=none:=cz.2 fun hh=>fB.2.2 _ hh e.1 (by simp) rfl
     simp -implicitDefEqProofs only[gg,cD he,re]
     by_cases e2:k'=e.1
     ·subst e2;simp[gD]
     ·simp -implicitDefEqProofs only[e2,if_false];cases ah (br.take i) k'<;>rfl
    rw[e1];exact UP
   have ir:∀h,kr H ((H2++[B.cells [.str e.1,.int .u64 e.2]]).set b.l (.map (ba T.str (ct im e.1 (.int .u64 e.2))))) b (gg [] (br.take (i+1))) F 0:=fun h=>(p2.ext TO).go' (hk h) ((bh.refl F _).set (.inl hF) _)
   have lb:=aW hs
   have ZP:=aW hl
   simp -implicitDefEqProofs only[List.length_append,List.length_cons,List.length_nil]at lb ZP
   by_cases n9:0<i
   ·obtain⟨y,hy⟩:=cj (l:=br) (i:=i-1) (by omega)
    have wp:=lD (show i<9223372036854775807 by omega) n9
    have iy:=fx (e:=eW) (n:=2) (fun _=>rfl) (by decide) (k:=k2) hy
    cases hc:strLt y.1 e.1
    ·simp -implicitDefEqProofs only[ak,ai,op,ef,cl,sq,reduceIte,j4,j5,j6,j7,j8,j9,y1,y2,y3,S1,S2,Gp,au,aa,ie,iy,eW,n9,wp,hc]
     exact .inr ⟨oW fun h=>(by have:=(dG.1 h).2 n9 y hy;rw[hc]at this;cases this),rfl,eM (p2.ext TO).lg⟩
    ·have cr:0<i→∀y,br[i-1]?=some y→strLt y.1 e.1=true:=fun _ y' Hj=>by rw[hy]at Hj;cases Hj;exact hc
     simp -implicitDefEqProofs only[ak,ai,op,ef,cl,sq,reduceIte,j4,j5,j6,j7,j8,j9,y1,y2,y3,S1,S2,Gp,au,aa,ie,iy,eW,n9,wp,hc,hs,hl,lb,ZP,mI,l4]
     exact⟨i+1,by omega,.i ⟨ir cr,go cr⟩,rfl,by omega⟩
   ·have cr:0<i→∀y,br[i-1]?=some y→strLt y.1 e.1=true:=fun h=>absurd h n9
    simp -implicitDefEqProofs only[ak,ai,op,ef,cl,sq,reduceIte,j4,j5,j6,j7,j8,j9,y1,y2,y3,S1,S2,Gp,au,aa,ie,eW,n9,hs,hl,lb,ZP,mI,l4]
    exact⟨i+1,by omega,.i ⟨ir cr,go cr⟩,rfl,by omega⟩
  ·have mA:i=br.length:=by omega
   subst mA
   rw[List.take_length]at p2 Ai
   simp -implicitDefEqProofs only[ak,ai,op,ef,cl,sq,reduceIte,j4,j5,j6,j7,j8,j9,y1,y2,y3,S1,Gp,au]
   exact .i ⟨p2,Ai⟩
 rintro R H2⟨p2,TP⟩
 simp -implicitDefEqProofs only[ak,ai,op,ef,cl,sq,reduceIte,j4,j5,j6,j7,j8,j9,y1,y2,y3,S1,List.length_map]
 refine W.fW 2 [(0,_),(6,_),(46,_),(47,_)] (fun (j:Nat) R H'=>At H' (fun H'=>∃F',kr H H' b (gg (kept.take j) br) F' j∧jR (kept.take j)∧∀x∈kept.take j,py (gg [] br) x)∧R 48=.int .i64 j∧j≤kept.length) (fun j=>kept.length-j) 0
  (fun R H'=>At H' (fun H'=>∃F',kr H H' b (gg kept br) F' kept.length∧jR kept∧∀x∈kept,py (gg [] br) x)) ⟨.i ⟨F,p2,by rw[List.take_zero];exact List.Pairwise.nil,by simp⟩,rfl,Nat.zero_le _⟩ ?_ ?_
 ·rintro j R H3⟨⟨F',p3,Ai,JZ⟩,J0,hj⟩
  by_cases au:j<kept.length
  ·obtain⟨x,hx⟩:=cj au
   have ix:=fx (e:=js) (n:=5) (fun _=>rfl) (by decide) (k:=k1) hx
   have wsj:=aC (show j<9223372036854775807 by omega)
   have dG:=tG (R:=fun x y:Kd=>aX x.nm y.nm=true) (fun a b c h1 h2=>lL h1 h2) hx
   have J1:=mL x (List.mem_of_getElem? hx)
   have oW:¬(jR (kept.take (j+1))∧py (gg [] br) x)→¬mO kept br:=fun h hl=>h ⟨hl.2.1.sublist (List.take_sublist _ _),hl.2.2.1 x (List.mem_of_getElem? hx)⟩
   have TO:Ext H3 (H3++[.cells [.str x.key,.int .u64 x.id,.str x.value,.sl x.kk (x.keys.map eS),.int .i64 x.a9]]++[.cells [.str x.key,.int .u64 x.id]]):=(Ext.rfl'.app _).app _
   have c0:(H3++[B.cells [.str x.key,.int .u64 x.id,.str x.value,.sl x.kk (x.keys.map eS),.int .i64 x.a9]]++[B.cells [.str x.key,.int .u64 x.id]])[H3.length]?=some (.cells [.str x.key,.int .u64 x.id,.str x.value,.sl x.kk (x.keys.map eS),.int .i64 x.a9]):=by rw[aV (by simp),aU rfl]
   have c1:(H3++[B.cells [.str x.key,.int .u64 x.id,.str x.value,.sl x.kk (x.keys.map eS),.int .i64 x.a9]]++[B.cells [.str x.key,.int .u64 x.id]])[H3.length+1]?=some (.cells [.str x.key,.int .u64 x.id]):=aU (by simp)
   have p4:=p3.ext TO
   have abB:(H3++[B.cells [.str x.key,.int .u64 x.id,.str x.value,.sl x.kk (x.keys.map eS),.int .i64 x.a9]]++[B.cells [.str x.key,.int .u64 x.id]]).length=H3.length+2:=by simp
   simp -implicitDefEqProofs only[ak,ai,op,ef,cl,sq,reduceIte,j4,j5,j6,j7,j8,j9,y1,y2,y3,S1,S2,S3,J0,au,aa,ix,js]
   generalize H3++[B.cells [.str x.key,.int .u64 x.id,.str x.value,.sl x.kk (x.keys.map eS),.int .i64 x.a9]]++[B.cells [.str x.key,.int .u64 x.id]]=H4 at *
   have fin:∀H5,Ext H4 H5→jR (kept.take (j+1))→(gg (kept.take j) br).v x.nm=none∧gg (kept.take (j+1)) br=⟨fun m'=>if m'=x.nm then some x.vd else(gg (kept.take j) br).v m',(gg (kept.take j) br).l⟩:=fun H5 _ hu=>by
    have fB:=hu.nd
    rw[cD hx,List.map_append,List.nodup_append]at fB
    have gD:ah (yO (kept.take j)) x.nm=none:=cz.2 fun hh=>by
     rw[uQ]at hh
     exact fB.2.2 _ hh x.nm (by simp) rfl
    refine⟨gD,gm (fun m=>?_) fun _=>rfl⟩
    have:yO (kept.take (j+1))=yO (kept.take j)++[(x.nm,x.vd)]:=by rw[cD hx];simp[yO]
    simp -implicitDefEqProofs only[gg,this,re]
    by_cases e2:m=x.nm
    ·subst e2;simp[gD]
    ·simp -implicitDefEqProofs only[e2,if_false];cases ah (yO (kept.take j)) m<;>rfl
   have lld:(gg (kept.take j) br).l=(gg [] br).l:=rfl
   by_cases TQ:0<j
   ·obtain⟨y,hy⟩:=cj (l:=kept) (i:=j-1) (by omega)
    have wp:=lD (show j<9223372036854775807 by omega) TQ
    have iy:=fx (e:=js) (n:=5) (fun _=>rfl) (by decide) (k:=k1) hy
    simp -implicitDefEqProofs only[ak,ai,op,ef,cl,sq,reduceIte,j4,j5,j6,j7,j8,j9,y1,y2,y3,S1,J0,aa,TQ,wp,iy,js,c0,c1]
    refine ae _ _ _ _ _ _ _ _ (cd y.nm x.nm _) ?_
    rintro u H5⟨hu,mZ⟩
    cases hu
    have mZ:Ext H4 H5:=mZ
    have p5:=p4.ext mZ
    have TR:=mZ.get c0
    have Sm:=mZ.get c1
    have Py:decide (0≤dz y.nm x.nm)=!aX y.nm x.nm:=by
     unfold aX
     rw[Bool.eq_iff_iff];simp
    cases hc:aX y.nm x.nm
    ·rw[hc]at Py
     simp -implicitDefEqProofs only[ak,ai,op,ef,cl,sq,reduceIte,j4,j5,j6,j7,j8,j9,y1,y2,y3,S1,Py]
     exact .inr ⟨oW fun h=>(by have:=(dG.1 h.1).2 TQ y hy;rw[hc]at this;cases this),rfl,eM p5.lg⟩
    ·rw[hc]at Py
     have Gq:jR (kept.take (j+1)):=dG.2 ⟨Ai,fun _ y' Hj=>by rw[hy]at Hj;cases Hj;exact hc⟩
     simp -implicitDefEqProofs only[ak,ai,op,ef,cl,sq,reduceIte,j4,j5,j6,j7,j8,j9,y1,y2,y3,S1,Py,J0,TR]
     refine ae _ _ _ _ _ _ _ _ (Ar x J1 p5.at_) ?_
     rintro u H6⟨rf,t,hu,ht⟩
     cases hu
     have yw:=ht.trans (Gn lld x)
     obtain⟨gD,CU⟩:=fin _ mZ Gq
     cases t
     ·simp -implicitDefEqProofs only[ak,ai,op,ef,cl,sq,reduceIte,j4,j5,j6,j7,j8,j9,y1,y2,y3,S1]
      exact .inr ⟨oW fun h=>(by have:=yw.2 h.2;cases this),rfl,eM (p5.ext rf).lg⟩
     ·have TS:=rf.get TR
      have TT:=rf.get Sm
      have Hk:=(yw.1 rfl).2.1.2.2
      simp -implicitDefEqProofs only[ak,ai,op,ef,cl,sq,reduceIte,j4,j5,j6,j7,j8,j9,y1,y2,y3,S1,J0,TS,TT]
      refine ae _ _ _ _ _ _ _ _ (pU x.kk x.keys _ J1.1 (by omega)) ?_
      rintro u H7⟨pj,kk,bN,hu⟩
      cases hu
      have p7:=(p5.ext rf).ext pj
      have ZQ:=pj.get TS
      have Sn:=pj.get TT
      simp -implicitDefEqProofs only[ak,ai,op,ef,cl,sq,reduceIte,j4,j5,j6,j7,j8,j9,y1,y2,y3,S1,ZQ,Sn]
      refine ae _ _ _ _ _ _ _ _ (TM x kk p7.at_ (by omega) bN Hk gD) ?_
      rintro u H8⟨hu,F8,a8,f8,g8⟩
      cases hu
      rw[←CU]at a8
      simp -implicitDefEqProofs only[ak,ai,op,ef,cl,sq,reduceIte,j4,j5,j6,j7,j8,j9,y1,y2,y3,S1,J0,wsj]
      refine⟨j+1,by omega,.i ⟨F8,p7.go a8 f8 g8,Gq,fun z hz=>?_⟩,rfl,by omega⟩
      rw[cD hx]at hz
      rcases List.mem_append.1 hz with hz|hz
      ·exact JZ z hz
      ·simp -implicitDefEqProofs only[List.mem_singleton]at hz;subst hz;exact yw.1 rfl
   ·have Gq:jR (kept.take (j+1)):=dG.2 ⟨Ai,fun h=>absurd h TQ⟩
    have p5:=p4
    have TR:=c0
    have Sm:=c1
    have mZ:Ext H4 H4:=Ext.rfl'
    simp -implicitDefEqProofs only[ak,ai,op,ef,cl,sq,reduceIte,j4,j5,j6,j7,j8,j9,y1,y2,y3,S1,TQ,J0,TR]
    refine ae _ _ _ _ _ _ _ _ (Ar x J1 p5.at_) ?_
    rintro u H6⟨rf,t,hu,ht⟩
    cases hu
    have yw:=ht.trans (Gn lld x)
    obtain⟨gD,CU⟩:=fin _ mZ Gq
    cases t
    ·simp -implicitDefEqProofs only[ak,ai,op,ef,cl,sq,reduceIte,j4,j5,j6,j7,j8,j9,y1,y2,y3,S1]
     exact .inr ⟨oW fun h=>(by have:=yw.2 h.2;cases this),rfl,eM (p5.ext rf).lg⟩
    ·have TS:=rf.get TR
     have TT:=rf.get Sm
     have Hk:=(yw.1 rfl).2.1.2.2
     simp -implicitDefEqProofs only[ak,ai,op,ef,cl,sq,reduceIte,j4,j5,j6,j7,j8,j9,y1,y2,y3,S1,J0,TS,TT]
     refine ae _ _ _ _ _ _ _ _ (pU x.kk x.keys _ J1.1 (by omega)) ?_
     rintro u H7⟨pj,kk,bN,hu⟩
     cases hu
     have p7:=(p5.ext rf).ext pj
     have ZQ:=pj.get TS
     have Sn:=pj.get TT
     simp -implicitDefEqProofs only[ak,ai,op,ef,cl,sq,reduceIte,j4,j5,j6,j7,j8,j9,y1,y2,y3,S1,ZQ,Sn]
     refine ae _ _ _ _ _ _ _ _ (TM x kk p7.at_ (by omega) bN Hk gD) ?_
     rintro u H8⟨hu,F8,a8,f8,g8⟩
     cases hu
     rw[←CU]at a8
     simp -implicitDefEqProofs only[ak,ai,op,ef,cl,sq,reduceIte,j4,j5,j6,j7,j8,j9,y1,y2,y3,S1,J0,wsj]
     refine⟨j+1,by omega,.i ⟨F8,p7.go a8 f8 g8,Gq,fun z hz=>?_⟩,rfl,by omega⟩
     rw[cD hx]at hz
     rcases List.mem_append.1 hz with hz|hz
     ·exact JZ z hz
     ·simp -implicitDefEqProofs only[List.mem_singleton]at hz;subst hz;exact yw.1 rfl
  ·have Y6:j=kept.length:=by omega
   subst Y6
   rw[List.take_length]at p3 Ai JZ
   simp -implicitDefEqProofs only[ak,ai,op,ef,cl,sq,reduceIte,j4,j5,j6,j7,j8,j9,y1,y2,y3,S1,J0,au]
   exact .i ⟨F',p3,Ai,JZ⟩
 rintro R H3⟨F',p3,ZR,JZ⟩
 obtain⟨s,⟨im,pm,sa⟩,hi,OM,hn3,hv3⟩:=p3.at_
 have Ho:∀k,ah s.ls k=ah br k:=fun k=>by have:=congrFun (congrArg Ab.l OM) k;exact this
 have iq:∀m,(ah s.vs m).isSome=(ah (yO kept) m).isSome:=fun m=>by
  have:=congrFun (congrArg Ab.v OM) m
  have h2:(ah s.vs m).map Hd.vd=ah (yO kept) m:=this
  rw[←h2];simp
 obtain⟨es,ib⟩:∃es,es=kd s.ls:=⟨_,rfl⟩
 have Dd:(ba T.str es).length=es.length:=by simp[ba]
 have fB:(es.map (·.1)).Nodup:=by rw[ib];simpa[kd,Function.comp_def]using hi.yr
 have l0:=aW sa.hs
 have ll:=aW sa.hl
 have lv:=aW sa.hv
 have ZS:=sa.hl
 rw[←ib]at ZS
 have ZT:b.s≠b.l:=by rintro e;have:=sa.hs;rw[e,sa.hl]at this;cases this
 have UR:b.l≠H3.length:=by omega
 simp -implicitDefEqProofs only[ak,ai,op,ef,cl,sq,reduceIte,j4,j5,j6,j7,j8,j9,y1,y2,y3,S1,sa.hs,ZS]
 refine W.wU [(6,_),(106,_)] (fun (b6:List ByteArray) R H'=>At H' (fun H'=>∃ix cur,RI es ix b6∧H'[b.l]?=some (.cQ (ba T.str es) ix H3.length cur)∧H'[H3.length]?=some (.tR b.l)∧bh (fun c=>c=b.l) H3 H'∧∀e∈s.ls,e.1∈b6→(ah s.vs e).isSome=true)) (fun b6=>es.length-b6.length) [] ?_ ?_
 ·refine .i ⟨List.range (ba T.str es).length,none,by rw[Dd];exact RI.start es,?_,?_,?_,by simp⟩
  ·rw[aV (by simpa using ll),bU ll]
  ·rw[aU (by simp)]
  ·exact((bh.refl (fun c=>c=b.l) H3).set (.inl rfl) _).app _
 rintro b6 R H5⟨ix,cur,lJ,hm,hit,aq,CA⟩
 have lm:=aW hm
 have li:=aW hit
 simp -implicitDefEqProofs only[ak,ai,op,ef,cl,sq,reduceIte,j4,j5,j6,j7,j8,j9,y1,y2,y3,S1]
 refine ym _ _ _ _ _ _ _ (by simp -implicitDefEqProofs only[ak,ai,op,ef,cl,sq,reduceIte,j4,j5,j6,j7,j8,j9,y1,y2,y3,S1]) hm ?_
 rintro t H6 (⟨rfl,rfl,rfl⟩|⟨i,e,ka,he,rfl,rfl⟩)
 ·simp -implicitDefEqProofs only[ak,ai,op,ef,cl,sq,reduceIte,j4,j5,j6,j7,j8,j9,y1,y2,y3,S1]
  have cr:∀e∈s.ls,(ah s.vs e).isSome=true:=fun e he=>CA e he ((lJ.BJ e.1).2 (by rw[ib];exact List.mem_map.2 ⟨(e.1,T.int .u64 e.2),List.mem_map.2 ⟨e,he,rfl⟩,rfl⟩))
  have hF:bh (fun _=>False) H3 (H5.set b.l (.map (ba T.str es))):=by
   refine⟨by rw[List.length_set];exact aq.1,fun c hc _=>?_⟩
   by_cases e:c=b.l
   ·subst e;rw[bU lm,ZS]
   ·rw[bf (Ne.symm e),aq.2 c hc e]
  refine .inl ⟨⟨TP,ZR,JZ,fun e he=>?_⟩,b,F',rfl,p3.go' ⟨s,⟨im,pm,sa.lg hF fun _ _ _ h=>h⟩,hi,OM,hn3,hv3⟩ (hF.mono fun _ h=>h.elim)⟩
  have h1:ah br e.1=some e.2:=eH TP.nd he
  rw[←Ho]at h1
  have h2:=cr _ (nQ h1)
  rw[iq]at h2
  have h3:e∈(yO kept).map (·.1):=BX h2
  rw[uQ]at h3
  obtain⟨x,hx,ZU⟩:=List.mem_map.1 h3
  exact⟨x,hx,ZU⟩
 obtain⟨⟨k,n⟩,oN⟩:=cj (l:=s.ls) (i:=i) (by have:=lJ.lt i ka;rw[ib]at this;simpa[kd]using this)
 have Ly:es[i]?=some (k,T.int .u64 n):=by rw[ib,kd,List.getElem?_map,oN];rfl
 have Co:e=(T.str k,T.int .u64 n):=by
  rw[ba,List.getElem?_map,Ly]at he;exact(Option.some.inj he).symm
 subst Co
 obtain⟨H6,J2⟩:∃H6,H6=H5.set b.l (.cQ (ba T.str es) (ix.erase i) H3.length (some i)):=⟨_,rfl⟩
 have m6:H6[b.l]?=some (.cQ (ba T.str es) (ix.erase i) H3.length (some i)):=by rw[J2];exact bU lm
 have i6:H6[H3.length]?=some (.tR b.l):=by rw[J2,bf UR];exact hit
 have f6:bh (fun c=>c=b.l) H3 H6:=by rw[J2];exact aq.set (.inl rfl) _
 have s6:=f6.get sa.hs ZT
 have v6:=f6.get sa.hv sa.vl
 have l60:=aW s6
 have l6v:=aW v6
 have l6l:=aW m6
 have l6i:=aW i6
 rw[←J2]
 have oM:∀z,iT (ah (dM s.vs) (k,n)) z true=.bF [iT (ah (dM s.vs) (k,n)) z false,.bool (ah s.vs (k,n)).isSome]:=fun z=>by
  unfold dM;rw[fN]
  cases ah s.vs (k,n)<;>rfl
 have hz:∃cs,cs.length=3∧iT (ah (dM s.vs) (k,n)) (.agg [.str ⟨#[]⟩,.sl .nil [],.int .i64 0]) false=.agg cs:=by
  unfold dM;rw[fN]
  cases ah s.vs (k,n)with
  | none=>exact⟨_,rfl,rfl⟩
  | some x=>exact⟨_,rfl,rfl⟩
 obtain⟨cs,uc,hlz⟩:=hz
 have lZ:=fun Hx z ok=>kW uH z ok Hx (dM s.vs) (k,n)
 simp -implicitDefEqProofs only[kN,eN]at lZ
 have kH:∀(X:B),(H6++[X]).set H6.length (.cells cs)=H6++[.cells cs]:=fun X=>uy rfl
 have dG:∀X:List T,X.length=3→pr (H6++[.cells X]) H6.length cs 0 (some (.cells X))=some (H6++[.cells cs]):=fun X hX=>by
  rw[gY,if_pos (by omega)]
  have e1:X.take 0++cs++X.drop (0+cs.length)=cs:=by rw[List.drop_eq_nil_of_le (by omega)];simp
  rw[e1,kH]
 have BN:=dG [.str ⟨#[]⟩,.sl .nil [],.int .i64 0] rfl
 cases ON:(ah s.vs (k,n)).isSome
 ·rw[ON]at oM
  simp -implicitDefEqProofs only[ak,ai,op,ef,cl,sq,reduceIte,j4,j5,j6,j7,j8,j9,y1,y2,y3,S1,S2,i6,m6,he,s6,v6,lZ,oM,hlz,uc,BN,List.length_set]
  refine .inr ⟨fun hl=>?_,rfl,?_⟩
  ·have h1:ah s.ls k=some n:=eH hi.yr (List.mem_of_getElem? oN)
   rw[Ho]at h1
   obtain⟨x,hx,ZU⟩:=hl.2.2.2 (k,n) (nQ h1)
   have:(ah (yO kept) (k,n)).isSome=true:=by rw[←mem_keys,uQ];exact List.mem_map.2 ⟨x,hx,ZU⟩
   rw[←iq,ON]at this;cases this
  ·exact eM (((p3.lg.more f6 fun c hc=>by rw[hc];exact(p3.new _ sa.F0.2.2.2.2).1)).app _)
 ·rw[ON]at oM
  simp -implicitDefEqProofs only[ak,ai,op,ef,cl,sq,reduceIte,j4,j5,j6,j7,j8,j9,y1,y2,y3,S1,S2,i6,m6,he,s6,v6,lZ,oM,hlz,uc,BN,List.length_set]
  refine⟨b6++[k],?_,.i ⟨_,_,lJ.step fB ka Ly,by rw[aV l6l];exact m6,by rw[aV l6i];exact i6,f6.app _,fun e KU I5=>?_⟩⟩
  ·have:=lJ.len;have:=List.length_pos_of_mem ka;rw[List.length_append,List.length_singleton];omega
  ·rcases List.mem_append.1 I5 with I5|I5
   ·exact CA e KU I5
   ·simp -implicitDefEqProofs only[List.mem_singleton]at I5
    have h1:=eH hi.yr KU
    have h2:ah s.ls k=some n:=eH hi.yr (List.mem_of_getElem? oN)
    rw[I5,h2]at h1
    have:e=(k,n):=Prod.ext I5 (Option.some.inj h1).symm
    rw[this,ON]
def AbT (a:Ab):Prop:=∀m h,a.v m=some h→h.a9=-1∨bl h.a9
def AbG (a:Ab):Prop:=∀m h,a.v m=some h→65536≤m.2∧fX h.keys∧m.1∈h.keys∧h.value.size≤65535
structure tH (a:Ab):Prop where
 S:Hw a
 T:AbT a
 G:AbG a
 L:∀k n,a.l k=some n→a.has (k,n)=true
theorem tH.emp:tH Ab.emp:=⟨Hw.emp,fun m h e=>(by cases e),fun m h e=>(by cases e),fun k n e=>(by cases e)⟩
theorem xj {a:Ab}{n:Nat}{l:List (ByteArray×ByteArray)}{ks:List ByteArray}{now:Int}{m:Nm}{x:Vd}(h:(a.put n l ks now).v m=some x):a.v m=some x∨(m.2=n∧∃v,(m.1,v)∈l∧x=⟨v,ks,if n<a.last m.1 then now else -1⟩):=by
 rw[Gm]at h
 cases h1:a.v m with
 | some y=>rw[h1]at h;exact .inl h
 | none =>
  rw[h1]at h
  simp -implicitDefEqProofs only[Option.none_or]at h
  split at h
  ·rename_i e
   cases h2:ah l m.1 with
   | none=>rw[h2]at h;cases h
   | some v=>rw[h2]at h;cases h;exact .inr ⟨e,v,nQ h2,rfl⟩
  ·cases h
theorem rh {a:Ab}{n:Nat}{now:Int}{m:Nm}{x:Vd}(h:(a.oa n now).v m=some x):∃y,a.v m=some y∧x.value=y.value∧x.keys=y.keys∧(x.a9=y.a9∨x.a9=now):=by
 simp -implicitDefEqProofs only[Ab.oa]at h
 cases h1:a.v m with
 | none=>rw[h1]at h;cases h
 | some y =>
  rw[h1]at h;simp -implicitDefEqProofs only[Option.map_some,Option.some.injEq]at h;subst h
  refine⟨y,rfl,?_⟩
  split
  ·exact⟨rfl,rfl,.inr rfl⟩
  ·exact⟨rfl,rfl,.inl rfl⟩
theorem As {n:Nat}{l:List (ByteArray×ByteArray)}{ks:List ByteArray}(h:lY n l ks){p:ByteArray×ByteArray}(hp:p∈l):p.1∈ks∧p.2.size≤65535:=by
 obtain⟨i,hi,e⟩:=List.getElem_of_mem hp
 exact(h.2.2.2 i hi p (by rw[List.getElem?_eq_getElem hi,e])).2
theorem tH.put {a:Ab}(h:tH a){n:Nat}{l:List (ByteArray×ByteArray)}{ks:List ByteArray}{now:Int}(hm:lY n l ks)(ht:bl now):tH (a.put n l ks now):=by
 refine⟨h.S.put ht.1,fun m x e=>?_,fun m x e=>?_,fun k n' e=>?_⟩
 ·rcases xj e with e|⟨_,v,_,rfl⟩
  ·exact h.T m x e
  ·simp only;split
   ·exact .inr ht
   ·exact .inl rfl
 ·rcases xj e with e|⟨rfl,v,hv,rfl⟩
  ·exact h.G m x e
  ·have:=As hm hv
   exact⟨hm.1,hm.2.1,this.1,this.2⟩
 ·rw[uP,h.L k n' e];rfl
theorem tH.oa {a:Ab}(h:tH a){n:Nat}{now:Int}(ht:bl now):tH (a.oa n now):=by
 refine⟨h.S.oa ht.1,fun m x e=>?_,fun m x e=>?_,fun k n' e=>?_⟩
 ·obtain⟨y,hy,_,_,hs⟩:=rh e
  rcases hs with hs|hs
  ·rw[hs];exact h.T m y hy
  ·rw[hs];exact .inr ht
 ·obtain⟨y,hy,h1,h2,_⟩:=rh e
  rw[h1,h2];exact h.G m y hy
 ·rw[Aq]
  simp -implicitDefEqProofs only[Ab.oa]at e
  split at e
  ·rename_i hc;cases e;exact hc.1
  ·exact h.L k n' e
def Ab.yP (a:Ab)(m:Nm):Ab:=match a.v m with
 | some h=>if h.a9=-1 then a else a.cut m
 | none=>a
theorem tH.yP {a:Ab}(h:tH a)(m:Nm):tH (a.yP m):=by
 unfold Ab.yP
 split
 ·rename_i x hx
  split
  ·exact h
  ·rename_i hs
   have cs:∀m' y,(a.cut m).v m'=some y→a.v m'=some y:=fun m' y e=>by
    simp -implicitDefEqProofs only[Ab.cut]at e;split at e
    ·cases e
    ·exact e
   refine⟨fun m' y e=>h.S m' y (cs m' y e),fun m' y e=>h.T m' y (cs m' y e),fun m' y e=>h.G m' y (cs m' y e),fun k n e=>?_⟩
   have e:a.l k=some n:=e
   have h1:=h.L k n e
   simp -implicitDefEqProofs only[Ab.has,Ab.cut]
   rw[if_neg]
   ·exact h1
   ·intro e2
    have h3:=h.S m x hx
    refine hs (h3.2 ?_)
    rw[←e2];simp[Ab.last,e]
 ·exact h
def bO (a:Ab)(m:Nm):Kd:=⟨m.1,m.2,(hO (a.v m)).value,.arg,(hO (a.v m)).keys,(hO (a.v m)).a9⟩
theorem Gr {a:Ab}{l:List Nm}(h:Names a l)(m:Nm):ah (yO (l.map (bO a))) m=a.v m:=by
 have hk:yO (l.map (bO a))=l.map fun m=>(m,hO (a.v m)):=by
  rw[yO,List.map_map];rfl
 rw[hk]
 have hn:((l.map fun m=>(m,hO (a.v m))).map (·.1)).Nodup:=by simpa[Function.comp_def]using h.nd
 cases hv:a.v m with
 | none =>
  refine cz.2 fun hh=>?_
  simp -implicitDefEqProofs only[List.map_map,List.mem_map,Function.comp]at hh
  obtain⟨x,hx,rfl⟩:=hh
  have:=(h.2 x).1 hx
  simp[Ab.has,hv]at this
 | some x =>
  have hm:m∈l:=(h.2 m).2 (by simp[Ab.has,hv])
  have:=eH hn (p:=(m,hO (a.v m))) (List.mem_map.2 ⟨m,hm,rfl⟩)
  rw[this,hv];rfl
theorem tI {a:Ab}{l:List ByteArray}(h:dv a l)(k:ByteArray):ah (l.map (ig a)) k=a.l k:=by
 have fB:l.Nodup:=h.1.imp fun {x y} Gl e=>by rw[e,fc]at Gl;cases Gl
 have hn:((l.map (ig a)).map (·.1)).Nodup:=by
  have:(l.map (ig a)).map (·.1)=l:=by simp[ig,Function.comp_def]
  rw[this];exact fB
 cases hv:a.l k with
 | none =>
  refine cz.2 fun hh=>?_
  simp -implicitDefEqProofs only[List.map_map,List.mem_map,Function.comp,ig]at hh
  obtain⟨x,hx,rfl⟩:=hh
  have:=(h.2 x).1 hx
  rw[hv]at this;cases this
 | some n =>
  have hm:k∈l:=(h.2 k).2 (by rw[hv];rfl)
  have:=eH hn (p:=ig a k) (List.mem_map.2 ⟨k,hm,rfl⟩)
  have h2:ah (l.map (ig a)) k=some (a.last k):=this
  rw[h2];simp[Ab.last,hv]
theorem B0 {a:Ab}{l:List Nm}{ls:List ByteArray}(h:Names a l)(hl:dv a ls):gg (l.map (bO a)) (ls.map (ig a))=a:=gm (fun m=>Gr h m) fun k=>tI hl k
theorem tH.load {a:Ab}(h:tH a){l:List Nm}{ls:List ByteArray}(hN:Names a l)(hL:dv a ls):mO (l.map (bO a)) (ls.map (ig a)):=by
 refine⟨List.pairwise_map.2 hL.1,List.pairwise_map.2 hN.1,fun x hx=>?_,fun e he=>?_⟩
 ·obtain⟨m,hm,rfl⟩:=List.mem_map.1 hx
  obtain⟨y,hy⟩:=Option.isSome_iff_exists.1 ((hN.2 m).1 hm)
  have gv:(gg [] (ls.map (ig a))).last m.1=a.last m.1:=by simp -implicitDefEqProofs only[Ab.last,gg,tI hL]
  have ZV:hO (a.v m)=y:=by rw[hy];rfl
  obtain⟨g1,g2,g3,g4⟩:=h.G m y hy
  have hS:=h.S m y hy
  have hT:=h.T m y hy
  have e1:(bO a m).id=m.2:=rfl
  have e2:(bO a m).key=m.1:=rfl
  have e3:(bO a m).keys=y.keys:=by simp -implicitDefEqProofs only[bO,ZV]
  have e4:(bO a m).value=y.value:=by simp -implicitDefEqProofs only[bO,ZV]
  have e5:(bO a m).a9=y.a9:=by simp -implicitDefEqProofs only[bO,ZV]
  unfold py
  rw[e1,e2,e3,e4,e5,gv]
  refine⟨g1,g2,g3,g4,?_⟩
  split
  ·rename_i au
   rcases hT with hT|hT
   ·exact absurd au (hS.1 hT)
   ·exact hT
  ·rename_i au;exact hS.2 au
 ·obtain⟨k,hk,rfl⟩:=List.mem_map.1 he
  obtain⟨n,hn⟩:=Option.isSome_iff_exists.1 ((hL.2 k).1 hk)
  have hla:a.last k=n:=by simp[Ab.last,hn]
  have:=h.L k n hn
  refine⟨bO a (k,n),List.mem_map.2 ⟨(k,n),(hN.2 _).2 this,rfl⟩,?_⟩
  show(k,n)=(k,a.last k)
  rw[hla]
theorem TU {b:Bk}{a:Ab}{F:Nat→Prop}{m:Nat}(k:ByteArray)(n:Nat){H:af}(h:ja H b a F m)(hn:m≤7000000):W env (.call 25 [.ptr b.s 0,.str k,.int .u64 n]) H (fun o H'=>∃e,o=.val (.int .i64 e)∧ja H' b (a.yP (k,n)) F m∧bh F H H'):=by
 refine W.use (TF k n h (by omega)) fun o H' hq=>?_
 rcases hq with⟨h1,hu,hx⟩|⟨x,h1,h2,hu,hx⟩|⟨x,h1,h2,hu,h',aq⟩
 ·exact⟨_,hu,by simp -implicitDefEqProofs only[Ab.yP,h1];exact h.ext hx,ay hx⟩
 ·exact⟨_,hu,by simp -implicitDefEqProofs only[Ab.yP,h1,if_pos h2];exact h.ext hx,ay hx⟩
 ·exact⟨_,hu,by simp -implicitDefEqProofs only[Ab.yP,h1,if_neg h2];exact h',aq⟩
end Go.Proofs.YtdcpehdijdllpaaGreat.St
end

section
namespace Go.Proofs.YtdcpehdijdllpaaGreat.St
open Go.Rmp Go.Proofs.YtdcpehdijdllpaaGreat.Ir
set_option maxRecDepth 10000
theorem pY {b:Bk}{a:Ab}{F:Nat→Prop}{m:Nat}{H:af}(h:ja H b a F m)(hn:m≤8000000)(Qv:∀k n,a.l k=some n→a.has (k,n)=true):W env (.call 20 [.ptr b.s 0]) H (fun o H'=>Ext H H'∧∃k l,gz k l∧dv a l∧l.length≤m∧o=.val (.sl k ((l.map (ig a)).map eW))):=by
 obtain⟨s,sh,hi,rfl,h4,h5⟩:=h
 have hl:s.ls.length≤s.vs.length:=by
  have fB:s.ls.Nodup:=by
   have:=hi.yr
   exact(List.pairwise_map.1 this).imp fun {a b} h e=>h (by rw[e])
  have:=Ap (l:=s.ls) (l':=s.vs.map (·.1)) fB fun e he=>by
   have h1:=eH hi.yr he
   have h2:=Qv e.1 e.2 h1
   rw[mem_keys]
   simpa[Ab.has,eb]using h2
  simpa using this
 refine W.use (Gh b s F H sh hi (by omega)) fun o H' ⟨hx,k,l,mL,hu,hp,JU⟩=>⟨hx,k,l,mL,⟨JU,fun x=>?_⟩,?_,?_⟩
 ·rw[hp.mem_iff,mem_keys];rfl
 ·rw[hp.length_eq,List.length_map];omega
 ·rw[hu,ph,List.map_map,List.map_map];rfl
end Go.Proofs.YtdcpehdijdllpaaGreat.St
end

section
namespace Go.Proofs.YtdcpehdijdllpaaGreat.St
open Go.Rmp Go.Proofs.YtdcpehdijdllpaaGreat.Ir
set_option maxRecDepth 10000
theorem Hv.refl (G:Nat→Prop)(H H':af):Hv G G H H':=fun _ h=>.inl h
end Go.Proofs.YtdcpehdijdllpaaGreat.St
end

section
namespace Go.Proofs.YtdcpehdijdllpaaGreat.St
open Go.Rmp Go.Proofs.YtdcpehdijdllpaaGreat.Ir
set_option maxRecDepth 10000
theorem TV {p:Nat}(n:Nat)(now:Int){H:af}(hm:¬(65536≤n∧bl now)):W env (.call 24 [.ptr p 0,.int .u64 n,.int .i64 now]) H (fun o H'=>o=.val (.bF [.int .i64 0,.int .i64 1])∧H'=H):=by
 refine W.bR rfl rfl rfl ?_
 by_cases hn:n<65536
 ·simp -implicitDefEqProofs only[EW,op,ef,cl,sq,reduceIte,j4,j5,j6,j7,j8,j9,y1,y2,y3,S1,hn]
 ·simp -implicitDefEqProofs only[EW,op,ef,cl,sq,reduceIte,j4,j5,j6,j7,j8,j9,y1,y2,y3,S1,hn]
  refine ae _ _ _ _ _ _ _ _ (qP now _) ?_
  rintro u H2⟨hu,rfl⟩
  cases hu
  have hf:(decide (0≤now)&&decide (now≤1099511627776))=false:=by
   rw[Bool.and_eq_false_iff,decide_eq_false_iff_not,decide_eq_false_iff_not]
   have:¬bl now:=fun h=>hm ⟨by omega,h⟩
   unfold bl at this;omega
  simp -implicitDefEqProofs only[op,ef,cl,sq,reduceIte,j4,j5,j6,j7,j8,j9,y1,y2,y3,S1,hf]
end Go.Proofs.YtdcpehdijdllpaaGreat.St
end

section
namespace Go.Proofs.YtdcpehdijdllpaaGreat.St
open Go.Rmp
def nR (a:Nat)(l:List Nat):Nat:=l.foldl (fun v c=>v*256+c) a
def dr:Nat→Nat→List Nat
 | 0,_=>[]
 | k+1,v=>v/256^k%256 :: dr k v
def dR (l:List Nat):Prop:=∀x∈l,x<256
theorem dR.app {l m:List Nat}(h:dR l)(h':dR m):dR (l++m):=fun x hx=>(List.mem_append.1 hx).elim (h x) (h' x)
theorem dR.take {l:List Nat}(h:dR l)(n:Nat):dR (l.take n):=fun x hx=>h x (List.mem_of_mem_take hx)
theorem dR.drop {l:List Nat}(h:dR l)(n:Nat):dR (l.drop n):=fun x hx=>h x (List.mem_of_mem_drop hx)
theorem bj:∀k v,(dr k v).length=k
 | 0,_=>rfl
 | k+1,v=>by simp[dr,bj k v]
theorem eQ:∀k v,dR (dr k v)
 | 0,_=>fun x hx=>by cases hx
 | k+1,v=>fun x hx=>by
  rcases List.mem_cons.1 hx with rfl|h
  ·exact Nat.mod_lt _ (by decide)
  ·exact eQ k v x h
theorem yQ:∀k a v,nR a (dr k v)=a*256^k+v%256^k
 | 0,a,v=>by simp[nR,dr,Nat.mod_one]
 | k+1,a,v=>by
  show nR (a*256+v/256^k%256) (dr k v)=_
  rw[yQ k]
  have h1:v%256^(k+1)=v%256^k+256^k*(v/256^k%256):=Nat.mod_mul
  rw[h1,Nat.pow_succ,Nat.add_mul,Nat.mul_comm (256^k) (v/256^k%256),Nat.mul_assoc a,Nat.mul_comm 256 (256^k)]
  omega
theorem uR:∀(l:List Nat) (a:Nat),dR l→nR a l<(a+1)*256^l.length
 | [],a,_=>by simp[nR]
 | c :: l,a,h=>by
  have hc:=h c (by simp)
  have:=uR l (a*256+c) fun x hx=>h x (List.mem_cons_of_mem _ hx)
  show nR (a*256+c) l<_
  refine Nat.lt_of_lt_of_le this ?_
  rw[List.length_cons,Nat.pow_succ,Nat.mul_comm (256^l.length) 256,←Nat.mul_assoc]
  exact Nat.mul_le_mul_right _ (by omega)
theorem rl (a c:Nat)(l:List Nat):nR a (c :: l)=nR (a*256+c) l:=rfl
theorem yR:∀(l:List Nat) (a:Nat),nR a l=a*256^l.length+nR 0 l
 | [],a=>by simp[nR]
 | c :: l,a=>by
  rw[rl,rl,yR l (a*256+c),yR l (0*256+c),List.length_cons,Nat.pow_succ,Nat.add_mul,Nat.zero_mul,Nat.zero_add,Nat.mul_assoc,Nat.mul_comm 256]
  omega
theorem Gs:∀(l:List Nat),dR l→dr l.length (nR 0 l)=l
 | [],_=>rfl
 | c :: l,h=>by
  have hc:=h c (by simp)
  have hl:dR l:=fun x hx=>h x (List.mem_cons_of_mem _ hx)
  have h1:nR 0 (c :: l)=c*256^l.length+nR 0 l:=by rw[rl,yR];simp
  have h2:nR 0 l<256^l.length:=by have:=uR l 0 hl;simpa using this
  have h3:0<256^l.length:=Nat.pow_pos (by decide)
  rw[h1]
  show(c*256^l.length+nR 0 l)/256^l.length%256 :: dr l.length (c*256^l.length+nR 0 l)=_
  have e1:(c*256^l.length+nR 0 l)/256^l.length=c:=by
   rw[Nat.mul_comm,Nat.mul_add_div h3,Nat.div_eq_of_lt h2];rfl
  have e2:∀k v w m,k≤m→dr k (w*256^m+v)=dr k v:=by
   intro k
   induction k with
   | zero=>intros;rfl
   | succ k ih =>
    intro v w m hm
    have hp:0<256^k:=Nat.pow_pos (by decide)
    obtain⟨d,rfl⟩:∃d,m=k+1+d:=⟨m-(k+1),by omega⟩
    have e:w*256^(k+1+d)=256^k*(256*(w*256^d)):=by
     rw[Nat.pow_add,Nat.pow_succ]
     rw[Nat.mul_comm w,Nat.mul_assoc,Nat.mul_assoc,Nat.mul_comm (256^d) w]
    show(w*256^(k+1+d)+v)/256^k%256 :: dr k (w*256^(k+1+d)+v)=v/256^k%256 :: dr k v
    rw[ih v w _ (by omega),e,Nat.mul_add_div hp,Nat.mul_add_mod]
  rw[e1,e2 _ _ _ _ (Nat.le_refl _),Gs l hl,Nat.mod_eq_of_lt hc]
def tL (s:ByteArray):List Nat:=s.data.toList.map UInt8.toNat
def uS (l:List Nat):ByteArray:=⟨(l.map UInt8.ofNat).toArray⟩
theorem rm (s:ByteArray):(tL s).length=s.size:=by simp[tL]
theorem OO (s:ByteArray):dR (tL s):=fun x hx=>by
 obtain⟨c,_,rfl⟩:=List.mem_map.1 hx
 exact UInt8.toNat_lt c
theorem TW (s:ByteArray):uS (tL s)=s:=by
 obtain⟨⟨l⟩⟩:=s
 unfold uS tL
 congr 2
 simp -implicitDefEqProofs only[List.map_map]
 refine(List.map_congr_left fun c _=>?_).trans (List.map_id _)
 simp
theorem Gt {l:List Nat}(h:dR l):tL (uS l)=l:=by
 unfold uS tL
 simp -implicitDefEqProofs only[List.map_map]
 refine(List.map_congr_left fun c hc=>?_).trans (List.map_id _)
 have:=h c hc
 simp[Function.comp,UInt8.toNat_ofNat',Nat.mod_eq_of_lt this]
theorem Gu (l:List Nat):(uS l).size=l.length:=by
 show(l.map UInt8.ofNat).toArray.size=_
 simp
def pN (k:Nat)(l:List Nat):Option (Nat×List Nat):=if l.length<k then none else some (nR 0 (l.take k),l.drop k)
def pT (m:Nat)(l:List Nat):Option (ByteArray×List Nat):=match pN 4 l with
 | none=>none
 | some (n,r)=>if m<n then none else if r.length<n then none else some (uS (r.take n),r.drop n)
def pM {α:Type}(p:List Nat→Option (α×List Nat))(l:List Nat):Nat→Option (List α×List Nat)
 | 0=>some ([],l)
 | n+1=>match pM p l n with
  | none=>none
  | some (xs,r)=>match p r with
   | none=>none
   | some (x,r')=>some (xs++[x],r')
theorem Au {α : Type}{p : List Nat → Option (α×List Nat)}{l : List Nat}{i n : Nat}(h : pM p l i = none)(hi : i ≤ n) : pM p l n = none := by
  induction n with
  | zero => obtain rfl : i = 0 := by omega
            exact h
  | succ n ih =>
    by_cases e : i = n + 1
    · rw[←e]; exact h
    · have := ih (by omega)
      simp -implicitDefEqProofs only[pM, this]
theorem iL {α:Type}{p:List Nat→Option (α×List Nat)}{l r:List Nat}{n:Nat}{xs:List α}(h:pM p l n=some (xs,r)):pM p l (n+1)=match p r with
  | none=>none
  | some (x,r')=>some (xs++[x],r'):=by simp -implicitDefEqProofs only[pM,h]
theorem uT {α:Type}{p:List Nat→Option (α×List Nat)}{l r:List Nat}:∀{n:Nat} {xs:List α},pM p l n=some (xs,r)→xs.length=n
 | 0,xs,h=>by simp -implicitDefEqProofs only[pM,Option.some.injEq,Prod.mk.injEq]at h;rw[←h.1];rfl
 | n+1,xs,h=>by
  cases h1:pM p l n with
  | none=>simp -implicitDefEqProofs only[pM,h1]at h;cases h
  | some y =>
   obtain⟨ys,r1⟩:=y
   rw[iL h1]at h
   cases h2:p r1 with
   | none=>rw[h2]at h;cases h
   | some z =>
    obtain⟨z,r2⟩:=z
    rw[h2]at h
    simp -implicitDefEqProofs only[Option.some.injEq,Prod.mk.injEq]at h
    rw[←h.1,List.length_append,uT h1];rfl
def eT (s:ByteArray):List Nat:=dr 4 s.size++tL s
theorem uU (s:ByteArray):dR (eT s):=(eQ _ _).app (OO s)
theorem hU (s:ByteArray):(eT s).length=4+s.size:=by simp[eT,bj,rm]
theorem yS {k v:Nat}(r:List Nat)(h:v<256^k):pN k (dr k v++r)=some (v,r):=by
 unfold pN
 rw[if_neg (by simp[bj]),List.take_left' (bj k v),List.drop_left' (bj k v),yQ,Nat.mod_eq_of_lt h]
 simp
theorem iV {k v:Nat}{l r:List Nat}(hb:dR l)(h:pN k l=some (v,r)):l=dr k v++r∧v<256^k∧dR r:=by
 unfold pN at h
 split at h
 ·cases h
 ·rename_i hl
  simp -implicitDefEqProofs only[Option.some.injEq,Prod.mk.injEq]at h
  obtain⟨rfl,rfl⟩:=h
  have hk:(l.take k).length=k:=by rw[List.length_take];omega
  have e:=Gs (l.take k) (hb.take k)
  rw[hk]at e
  refine⟨by rw[e,List.take_append_drop],?_,hb.drop k⟩
  have:=uR (l.take k) 0 (hb.take k)
  rw[hk]at this;simpa using this
theorem J3 {m:Nat}{s:ByteArray}(r:List Nat)(h:s.size≤m)(h4:s.size<4294967296):pT m (eT s++r)=some (s,r):=by
 unfold pT eT
 rw[List.append_assoc,yS _ h4]
 simp only
 rw[if_neg (by omega),if_neg (by simp[rm]),List.take_left' (rm s),List.drop_left' (rm s),TW]
theorem uV {m:Nat}{s:ByteArray}{l r:List Nat}(hb:dR l)(h:pT m l=some (s,r)):l=eT s++r∧s.size≤m∧s.size<4294967296∧dR r:=by
 unfold pT at h
 cases h1:pN 4 l with
 | none=>rw[h1]at h;cases h
 | some x =>
  obtain⟨n,r1⟩:=x
  rw[h1]at h
  simp only at h
  obtain⟨e1,e2,e3⟩:=iV hb h1
  split at h
  ·cases h
  ·split at h
   ·cases h
   ·rename_i h2 h3
    simp -implicitDefEqProofs only[Option.some.injEq,Prod.mk.injEq]at h
    obtain⟨rfl,rfl⟩:=h
    have hs:(uS (r1.take n)).size=n:=by rw[Gu,List.length_take];omega
    refine⟨?_,by rw[hs];omega,by rw[hs];exact e2,e3.drop n⟩
    unfold eT
    rw[hs,Gt (e3.take n),List.append_assoc,List.take_append_drop]
    exact e1
theorem TX {α:Type}{p:List Nat→Option (α×List Nat)}{e:α→List Nat}(r:List Nat):∀(n:Nat) (xs:List α) (l:List Nat),(∀x∈xs,∀r,p (e x++r)=some (x,r))→n≤xs.length→l=xs.flatMap e++r→pM p l n=some (xs.take n,(xs.drop n).flatMap e++r)
 | 0,xs,l,_,_,hl=>by simp[pM,hl]
 | n+1,xs,l,hx,hn,hl=>by
  rw[iL (TX r n xs l hx (by omega) hl)]
  have au:n<xs.length:=by omega
  rw[List.drop_eq_getElem_cons au,List.flatMap_cons,List.append_assoc,hx _ (List.getElem_mem au)]
  simp -implicitDefEqProofs only[Option.some.injEq,Prod.mk.injEq,and_true]
  rw[List.take_succ_eq_append_getElem au]
theorem Gv {α:Type}{p:List Nat→Option (α×List Nat)}{e:α→List Nat}(xs:List α)(r:List Nat)(hx:∀x∈xs,∀r,p (e x++r)=some (x,r)):pM p (xs.flatMap e++r) xs.length=some (xs,r):=by
 have:=TX r xs.length xs _ hx (Nat.le_refl _) rfl
 simpa using this
theorem yT {α:Type}{p:List Nat→Option (α×List Nat)}{e:α→List Nat}{Q:α→Prop}{l:List Nat}(hb:dR l)(hp:∀l x r,dR l→p l=some (x,r)→l=e x++r∧Q x∧dR r):∀{n:Nat} {xs:List α} {r:List Nat},pM p l n=some (xs,r)→l=xs.flatMap e++r∧(∀x∈xs,Q x)∧dR r
 | 0,xs,r,h=>by
  simp -implicitDefEqProofs only[pM,Option.some.injEq,Prod.mk.injEq]at h
  obtain⟨rfl,rfl⟩:=h
  exact⟨rfl,(fun x hx=>by simp at hx),hb⟩
 | n+1,xs,r,h=>by
  cases h1:pM p l n with
  | none=>simp -implicitDefEqProofs only[pM,h1]at h;cases h
  | some y =>
   obtain⟨ys,r1⟩:=y
   obtain⟨i1,i2,i3⟩:=yT hb hp h1
   rw[iL h1]at h
   cases h2:p r1 with
   | none=>rw[h2]at h;cases h
   | some z =>
    obtain⟨z,r2⟩:=z
    rw[h2]at h
    simp -implicitDefEqProofs only[Option.some.injEq,Prod.mk.injEq]at h
    obtain⟨rfl,rfl⟩:=h
    obtain⟨j1,j2,j3⟩:=hp _ _ _ i3 h2
    refine⟨by rw[List.flatMap_append,List.append_assoc];simp -implicitDefEqProofs only[List.flatMap_cons,List.flatMap_nil,List.append_nil];rw[←j1];exact i1,fun x hx=>?_,j3⟩
    rcases List.mem_append.1 hx with hx|hx
    ·exact i2 x hx
    ·simp at hx;subst hx;exact j2
def OP:Nat:=3988292384
def tJ (w:Nat):Nat:=w/2 ^^^ (if w%2=1 then OP else 0)
def dP:Nat→Nat→Nat
 | 0,w=>w
 | n+1,w=>dP n (tJ w)
theorem xk (n m w:Nat):dP (n+m) w=dP m (dP n w):=by
 induction n generalizing w with
 | zero=>simp[dP]
 | succ n ih=>rw[Nat.succ_add];exact ih _
theorem OQ {w:Nat}(h:w<4294967296):tJ w<4294967296:=by
 unfold tJ
 refine Nat.xor_lt_two_pow (n:=32) (by omega) ?_
 split
 ·decide
 ·decide
theorem lN:∀n {w:Nat},w<4294967296→dP n w<4294967296
 | 0,_,h=>h
 | n+1,_,h=>lN n (OQ h)
theorem Gw (a b:Nat):(a ^^^ b)/2=a/2 ^^^ b/2:=by
 have:=Nat.shiftRight_xor_distrib (a:=a) (b:=b) (i:=1)
 simpa[Nat.shiftRight_succ]using this
theorem J4 (a b:Nat):(a ^^^ b)%2=(a%2+b%2)%2:=by
 have h1:(a ^^^ b).testBit 0=(a.testBit 0 ^^ b.testBit 0):=Nat.testBit_xor ..
 simp -implicitDefEqProofs only[Nat.testBit_zero]at h1
 have ha:=Nat.mod_two_eq_zero_or_one a
 have hb:=Nat.mod_two_eq_zero_or_one b
 have hc:=Nat.mod_two_eq_zero_or_one (a ^^^ b)
 rcases ha with ha|ha<;>rcases hb with hb|hb<;>rcases hc with hc|hc<;>simp_all
theorem J5 (a b:Nat):tJ (a ^^^ b)=tJ a ^^^ tJ b:=by
 unfold tJ
 rw[Gw,J4]
 have ha:=Nat.mod_two_eq_zero_or_one a
 have hb:=Nat.mod_two_eq_zero_or_one b
 rcases ha with ha|ha<;>rcases hb with hb|hb<;>simp[ha,hb]
 ·rw[Nat.xor_assoc]
 ·rw[Nat.xor_assoc,Nat.xor_assoc,Nat.xor_comm OP]
 ·rw[Nat.xor_assoc,Nat.xor_comm OP,Nat.xor_assoc,Nat.xor_self,Nat.xor_zero]
theorem xl:∀n a b,dP n (a ^^^ b)=dP n a ^^^ dP n b
 | 0,_,_=>rfl
 | n+1,a,b=>by
  show dP n (tJ (a ^^^ b))=_
  rw[J5,xl n];rfl
theorem nT (x:Nat):tJ (2*x)=x:=by unfold tJ;simp
theorem OS (q:Nat):dP 4 (16*q)=q:=by
 have e:16*q=2*(2*(2*(2*q))):=by omega
 rw[e]
 show tJ (tJ (tJ (tJ (2*(2*(2*(2*q)))))))=q
 rw[nT,nT,nT,nT]
theorem J6 (w:Nat):w=16*(w/16) ^^^ w%16:=by
 refine Nat.eq_of_testBit_eq fun i=>?_
 have e1:16*(w/16)=2^4*(w/2^4):=rfl
 have e2:w%16=w%2^4:=rfl
 rw[Nat.testBit_xor,e1,e2,Nat.testBit_two_pow_mul,Nat.testBit_mod_two_pow,Nat.testBit_div_two_pow]
 by_cases h:4≤i
 ·have:i-4+4=i:=by omega
  have h':¬i<4:=by omega
  simp[h,h',this]
 ·have h':i<4:=by omega
  simp[h,h']
theorem B1 (w:Nat):dP 4 w=w/16 ^^^ dP 4 (w%16):=by
 have h:=J6 w
 have e:dP 4 w=dP 4 (16*(w/16) ^^^ w%16):=by rw[←h]
 rw[e,xl,OS]
def J7 (w c:Nat):Nat:=dP 8 (w ^^^ c)
def sn (w:Nat)(l:List Nat):Nat:=l.foldl J7 w
def iW (l:List Nat):Nat:=4294967295-sn 4294967295 l
theorem J8 {w c:Nat}(h:w<4294967296)(hc:c<256):J7 w c<4294967296:=lN 8 (Nat.xor_lt_two_pow (n:=32) h (by omega))
theorem uW:∀(l:List Nat) {w:Nat},w<4294967296→dR l→sn w l<4294967296
 | [],_,h,_=>h
 | c :: l,w,h,hb=>uW l (J8 h (hb c (by simp))) fun x hx=>hb x (List.mem_cons_of_mem _ hx)
theorem B2 (w:Nat)(l:List Nat)(c:Nat):sn w (l++[c])=J7 (sn w l) c:=by simp[sn]
theorem J9 (l:List Nat):iW l<4294967296:=by unfold iW;omega
end Go.Proofs.YtdcpehdijdllpaaGreat.St
end

section
namespace Go.Proofs.YtdcpehdijdllpaaGreat.St
open Go.Rmp Go.Proofs.YtdcpehdijdllpaaGreat.Ir
set_option maxRecDepth 10000
theorem wrap32 {n:Nat}(h:n<4294967296):IntKind.u32.wrap (n:Int)=(n:Int):=by
 unfold IntKind.wrap
 simp -implicitDefEqProofs only[IntKind.signed,IntKind.bits]
 simp
 omega
theorem gE {n:Nat}(h:n<18446744073709551616):IntKind.u64.wrap (n:Int)=(n:Int):=ux (by omega)
theorem yU (n:Nat):IntKind.u8.wrap (n:Int)=((n%256:Nat):Int):=by
 unfold IntKind.wrap
 simp -implicitDefEqProofs only[IntKind.signed,IntKind.bits]
 simp
theorem Vt (n m:Nat):(n:Int).fdiv (2^m)=((n/2^m:Nat):Int):=by
 rw[Int.fdiv_eq_ediv_of_nonneg _ (Int.le_of_lt (Int.pow_pos (by decide)))]
 simp
theorem LD (w a b:Nat)(ha:a<2^w)(hb:b<2^w):(BitVec.ofInt w (a:Int) &&& BitVec.ofInt w (b:Int)).toNat=a &&& b:=by
 simp[Nat.mod_eq_of_lt ha,Nat.mod_eq_of_lt hb]
theorem TY (w a b:Nat)(ha:a<2^w)(hb:b<2^w):(BitVec.ofInt w (a:Int) ||| BitVec.ofInt w (b:Int)).toNat=a ||| b:=by
 simp[Nat.mod_eq_of_lt ha,Nat.mod_eq_of_lt hb]
theorem LF (w a b:Nat)(ha:a<2^w)(hb:b<2^w):(BitVec.ofInt w (a:Int) ^^^ BitVec.ofInt w (b:Int)).toNat=a ^^^ b:=by
 simp[Nat.mod_eq_of_lt ha,Nat.mod_eq_of_lt hb]
theorem Av {a b:Nat}(ha:a<4294967296)(hb:b<4294967296):IntKind.u32.wrap ((BitVec.ofInt IntKind.u32.bits (a:Int) ^^^ BitVec.ofInt IntKind.u32.bits (b:Int)).toNat:Nat)=((a ^^^ b:Nat):Int):=by
 have e:(BitVec.ofInt IntKind.u32.bits (a:Int) ^^^ BitVec.ofInt IntKind.u32.bits (b:Int)).toNat=a ^^^ b:=LF 32 a b ha hb
 rw[e,wrap32 (Nat.xor_lt_two_pow (n:=32) ha hb)]
theorem TZ {a:Nat}(ha:a<4294967296):IntKind.u32.wrap ((BitVec.ofInt IntKind.u32.bits (a:Int) &&& BitVec.ofInt IntKind.u32.bits 1).toNat:Nat)=((a%2:Nat):Int):=by
 have e:(BitVec.ofInt IntKind.u32.bits (a:Int) &&& BitVec.ofInt IntKind.u32.bits 1).toNat=a &&& 1:=LD 32 a 1 ha (by decide)
 rw[e,Nat.and_one_is_mod,wrap32 (by omega)]
theorem Gx {a:Nat}(ha:a<4294967296):IntKind.u32.wrap ((BitVec.ofInt IntKind.u32.bits (a:Int) &&& BitVec.ofInt IntKind.u32.bits 15).toNat:Nat)=((a%16:Nat):Int):=by
 have e:(BitVec.ofInt IntKind.u32.bits (a:Int) &&& BitVec.ofInt IntKind.u32.bits 15).toNat=a &&& 15:=LD 32 a 15 ha (by decide)
 have e2:a &&& 15=a%16:=Nat.and_two_pow_sub_one_eq_mod a 4
 rw[e,e2,wrap32 (by omega)]
theorem T0 (a:Nat):(a:Int).fdiv (2^(min (1:Int).toNat IntKind.u32.bits))=((a/2:Nat):Int):=Vt a 1
theorem LG (a:Nat):(a:Int).fdiv (2^(min (4:Int).toNat IntKind.u32.bits))=((a/16:Nat):Int):=Vt a 4
theorem LH {a:Nat}(ha:a<4294967296):IntKind.u32.wrap ((BitVec.ofInt IntKind.u32.bits (if IntKind.u32.signed then -1 else IntKind.u32.max) ^^^ BitVec.ofInt IntKind.u32.bits (a:Int)).toNat:Nat)=((4294967295-a:Nat):Int):=by
 have e:(BitVec.ofInt IntKind.u32.bits (if IntKind.u32.signed then -1 else IntKind.u32.max) ^^^ BitVec.ofInt IntKind.u32.bits (a:Int)).toNat=4294967295 ^^^ a:=LF 32 4294967295 a (by decide) ha
 have e2:(4294967295 ^^^ a:Nat)=4294967295-a:=by
  have:=BitVec.toNat_not (x:=BitVec.ofNat 32 a)
  have h3 : ~~~ (BitVec.ofNat 32 a)=BitVec.allOnes 32 ^^^ BitVec.ofNat 32 a:=by rw[BitVec.allOnes_xor]
  rw[h3,BitVec.toNat_xor,BitVec.toNat_allOnes,BitVec.toNat_ofNat,Nat.mod_eq_of_lt ha]at this
  exact this
 rw[e,e2,wrap32 (by omega)]
theorem Ka (w:Nat)(hw:w<4294967296)(H:af):W env (.call 113 [.int .u32 w]) H (mY (.int .u32 (tJ w)) H):=by
 have h1:=TZ hw
 have h2:=T0 w
 have h3:IntKind.u32.wrap ((BitVec.ofInt IntKind.u32.bits ((w/2:Nat):Int) ^^^ BitVec.ofInt IntKind.u32.bits 3988292384).toNat:Nat)=((w/2 ^^^ 3988292384:Nat):Int):=Av (a:=w/2) (b:=3988292384) (by omega) (by decide)
 have e1:(((w%2:Nat):Int)==1)=decide (w%2=1):=by
  rcases Nat.mod_two_eq_zero_or_one w with h|h<;>rw[h]<;>rfl
 refine W.bR rfl rfl rfl ?_
 by_cases ho:w%2=1
 ·have e:tJ w=w/2 ^^^ 3988292384:=by unfold tJ;rw[if_pos ho];rfl
  simp -implicitDefEqProofs only[z8,op,ef,cl,sq,reduceIte,j4,j5,j6,j7,j8,j9,y1,y2,y3,S1,h1,h2,h3,e1,ho,e]
 ·have e:tJ w=w/2:=by unfold tJ;rw[if_neg ho];simp
  simp -implicitDefEqProofs only[z8,op,ef,cl,sq,reduceIte,j4,j5,j6,j7,j8,j9,y1,y2,y3,S1,h1,h2,h3,e1,ho,e]
theorem B3 (k w:Nat):dP (k+1) w=tJ (dP k w):=by rw[xk];rfl
def eg (i:Nat):List T:=(List.range 16).map fun j=>T.int .u32 (if j<i then dP 4 j else 0:Nat)
theorem nU (i:Nat):(eg i).length=16:=rfl
theorem Gy {i:Nat}(h:i<16):(eg i).set i (.int .u32 (dP 4 i))=eg (i+1):=by
 refine List.ext_getElem? fun j=>?_
 rw[List.getElem?_set,nU]
 unfold eg
 rw[List.getElem?_map,List.getElem?_map]
 by_cases e:i=j
 ·subst e
  rw[if_pos rfl,if_pos h]
  simp[h]
 ·rw[if_neg e]
  by_cases hj:j<16
  ·simp -implicitDefEqProofs only[List.getElem?_range hj,Option.map_some]
   by_cases h1:j<i
   ·have:j<i+1:=by omega
    simp[h1,this]
   ·have:¬j<i+1:=by omega
    simp[h1,this]
  ·simp[hj]
theorem Gz (H:af):W env (.call 83 []) H (fun o H'=>Ext H H'∧o=.val (.agg (eg 16))):=by
 refine W.bR rfl rfl rfl ?_
 obtain⟨H1,vw⟩:∃H1,H1=H++[B.cells (eg 0)]:=⟨_,rfl⟩
 obtain⟨H2,B4⟩:∃H2,H2=H1++[B.cells (eg 0)]:=⟨_,rfl⟩
 have z:[T.int .u32 0,T.int .u32 0,T.int .u32 0,T.int .u32 0,T.int .u32 0,T.int .u32 0,T.int .u32 0,T.int .u32 0,T.int .u32 0,T.int .u32 0,T.int .u32 0,T.int .u32 0,T.int .u32 0,T.int .u32 0,T.int .u32 0,T.int .u32 0]=eg 0:=rfl
 simp -implicitDefEqProofs only[NQ,op,ef,cl,sq,reduceIte,j4,j5,j6,j7,j8,j9,y1,y2,y3,S1,S2]
 rw[z,←vw,←B4]
 have l1:H1.length=H.length+1:=by rw[vw];simp
 refine W.fW 0 [(0,_),(1,_)] (fun (i:Nat) R H'=>At H' (fun H'=>∃c0,H'[H.length]?=some (.cells c0)∧c0.length=16∧H'[H1.length]?=some (.cells (eg i))∧Ext H H')∧R 4=.int .i64 i∧i≤16) (fun i=>16-i) 0
  (fun R H'=>At H' (fun H'=>∃c0,H'[H.length]?=some (.cells c0)∧c0.length=16∧H'[H1.length]?=some (.cells (eg 16))∧Ext H H')) ⟨.i ⟨eg 0,by rw[B4,vw];rw[List.append_assoc];exact aU rfl,rfl,by rw[B4];exact aU rfl,by rw[B4,vw];exact(Ext.rfl'.app _).app _⟩,rfl,Nat.zero_le _⟩ ?_ ?_
 ·rintro i R H3⟨⟨c0,d0,dl,d1,hx⟩,g4,hi⟩
  by_cases au:i<16
  rotate_left
  ·have mA:i=16:=by omega
   subst mA
   have e:decide (((16:Nat):Int)<16)=false:=by decide
   simp -implicitDefEqProofs only[ak,ai,op,ef,cl,sq,reduceIte,j4,j5,j6,j7,j8,j9,y1,y2,y3,S1,g4,e,dq]
   exact .i ⟨c0,d0,dl,d1,hx⟩
  have e:decide ((i:Int)<16)=true:=by simp;omega
  have wc:=wrap32 (n:=i) (by omega)
  simp -implicitDefEqProofs only[ak,ai,op,ef,cl,sq,reduceIte,j4,j5,j6,j7,j8,j9,y1,y2,y3,S1,g4,e,wc]
  refine W.fW 2 [(0,_),(1,_),(2,_),(4,_)] (fun (k:Nat) R H'=>H'=H3∧R 3=.int .u32 (dP k i:Nat)∧R 9=.int .i64 k∧k≤4) (fun k=>4-k) 0
   (fun R H'=>H'=H3∧R 3=.int .u32 (dP 4 i:Nat)) ⟨rfl,rfl,rfl,Nat.zero_le _⟩ ?_ ?_
  ·rintro k R H4⟨rfl,g3,g9,hk⟩
   by_cases lZ:k<4
   rotate_left
   ·have KM:k=4:=by omega
    subst KM
    have e:decide (((4:Nat):Int)<4)=false:=by decide
    simp -implicitDefEqProofs only[ak,ai,op,ef,cl,sq,reduceIte,j4,j5,j6,j7,j8,j9,y1,y2,y3,S1,g3,g9,e,dq]
   have e:decide ((k:Int)<4)=true:=by simp;omega
   have wk:=aC (show k<9223372036854775807 by omega)
   simp -implicitDefEqProofs only[ak,ai,op,ef,cl,sq,reduceIte,j4,j5,j6,j7,j8,j9,y1,y2,y3,S1,g3,g9,e]
   refine ae _ _ _ _ _ _ _ _ (Ka (dP k i) (lN k (by omega)) _) ?_
   rintro u H5⟨hu,rfl⟩
   cases hu
   simp -implicitDefEqProofs only[op,ef,cl,sq,reduceIte,j4,j5,j6,j7,j8,j9,y1,y2,y3,S1,g9,wk]
   exact⟨k+1,by omega,by rw[B3],rfl,lZ⟩
  rintro R H4⟨rfl,g3⟩
  have wi:=aC (show i<9223372036854775807 by omega)
  have Su:=aW d1
  have dG:pr H4 H1.length [.int .u32 (dP 4 i:Nat)] (i*1) (some (.cells (eg i)))=some (H4.set H1.length (.cells (eg (i+1)))):=by
   have e:(eg i).set i (.int .u32 (dP 4 i))=(eg i).take i++.int .u32 (dP 4 i) :: (eg i).drop (i+1):=by rw[List.set_eq_take_append_cons_drop,if_pos (by rw[nU];exact au)]
   rw[←Gy au,e,Nat.mul_one,gY,if_pos (by rw[nU];simp;omega)]
   simp
  have ji:H1.length≠H.length:=by omega
  simp -implicitDefEqProofs only[ak,ai,op,ef,cl,sq,reduceIte,j4,j5,j6,j7,j8,j9,y1,y2,y3,S1,g3,g4,aa,au,d1,wi,dG]
  exact⟨i+1,by omega,.i ⟨c0,by rw[bf ji];exact d0,dl,bU Su,hx.set (by omega) _⟩,rfl,au⟩
 rintro R H3⟨c0,d0,dl,d1,hx⟩
 have t1:(eg 16).length=16:=rfl
 have t2:List.take 16 (eg 16)=eg 16:=rfl
 have l0:=aW d0
 have t3:pr H3 H.length (eg 16) 0 (some (.cells c0))=some (H3.set H.length (.cells (eg 16))):=by
  rw[gY,if_pos (by rw[t1,dl];decide),List.take_zero,List.nil_append,List.drop_of_length_le (by rw[t1,dl];decide),List.append_nil]
 have t4:(H3.set H.length (.cells (eg 16)))[H.length]?=some (.cells (eg 16)):=bU l0
 have t5:sd 16 0 (some (.cells (eg 16)))=some (eg 16):=rfl
 simp -implicitDefEqProofs only[ak,ai,op,ef,cl,sq,reduceIte,j4,j5,j6,j7,j8,j9,y1,y2,y3,S1,d1,d0,t1,t2,t3,t4,t5,l0]
 exact hx.set (Nat.le_refl _) _
theorem drop_cons {α:Type}{l:List α}{i:Nat}{x:α}(h:l[i]?=some x):l.drop i=x :: l.drop (i+1):=by
 obtain⟨hi,he⟩:=List.getElem?_eq_some_iff.1 h
 rw[List.drop_eq_getElem_cons hi,he]
theorem fj {α:Type}{l:List α}{i:Nat}{x:α}(hx:l[i]?=some x):l.take (i+1)=l.take i++[x]:=by rw[List.take_add_one,hx];rfl
theorem Aw {i:Nat}(h:i<16):sd 1 (i*1) (some (.cells (eg 16)))=some [.int .u32 (dP 4 i:Nat)]:=by
 have hg:(eg 16)[i]?=some (.int .u32 (dP 4 i:Nat)):=by
  unfold eg
  rw[List.getElem?_map,List.getElem?_range h,Option.map_some,if_pos h]
 rw[mH,if_pos (by rw[nU];omega),Nat.mul_one,drop_cons hg];rfl
theorem LI {w:Nat}:w/16 ^^^ dP 4 (w%16)=dP 4 w:=(B1 w).symm
theorem T1 (k:SK)(l:List Nat)(hb:dR l)(hl:l.length≤4294967296)(H:af):W env (.call 46 [.int .u32 0,.sl k (l.map fun n=>[T.int .u8 (n:Nat)])]) H (fun o H'=>Ext H H'∧o=.val (.int .u32 (iW l:Nat))):=by
 refine W.bR rfl rfl rfl ?_
 simp -implicitDefEqProofs only[Nt,op,ef,cl,sq,reduceIte,j4,j5,j6,j7,j8,j9,y1,y2,y3,S1]
 refine ae _ _ _ _ _ _ _ _ (Gz _) ?_
 rintro u H1⟨gw,hu⟩
 cases hu
 have gw:Ext H H1:=gw
 have n0:=LH (a:=0) (by decide)
 have z:[T.int .u32 0,T.int .u32 0,T.int .u32 0,T.int .u32 0,T.int .u32 0,T.int .u32 0,T.int .u32 0,T.int .u32 0,T.int .u32 0,T.int .u32 0,T.int .u32 0,T.int .u32 0,T.int .u32 0,T.int .u32 0,T.int .u32 0,T.int .u32 0]=eg 0:=rfl
 obtain⟨H2,B4⟩:∃H2,H2=H1++[B.cells (eg 16)]:=⟨_,rfl⟩
 have xJ:Ext H H2:=by rw[B4];exact gw.app _
 have d2:H2[H1.length]?=some (.cells (eg 16)):=by rw[B4];exact aU rfl
 have t1:(eg 16).length=16:=rfl
 have t6:pr (H1++[B.cells (eg 0)]) H1.length (eg 16) 0 (some (.cells (eg 0)))=some H2:=by
  rw[gY,if_pos (by decide),oJ,B4];rfl
 have u0:KH UnOp.xor (T.int .u32 0)=some (.int .u32 4294967295):=rfl
 simp -implicitDefEqProofs only[op,ef,cl,sq,reduceIte,j4,j5,j6,j7,j8,j9,y1,y2,y3,S1,z,S2,t1,t6,u0]
 refine W.fW 0 [(5,_),(12,_),(13,_)] (fun (i:Nat) R H'=>H'=H2∧R 6=.int .u32 (sn 4294967295 (l.take i):Nat)∧R 14=.int .i64 i∧i≤l.length) (fun i=>l.length-i) 0
  (fun R H'=>H'=H2∧R 6=.int .u32 (sn 4294967295 l:Nat)) ⟨rfl,rfl,rfl,Nat.zero_le _⟩ ?_ ?_
 ·rintro i R H3⟨rfl,g6,CD,hi⟩
  by_cases au:i<l.length
  rotate_left
  ·have mA:i=l.length:=by omega
   subst mA
   rw[List.take_length]at g6
   simp -implicitDefEqProofs only[ak,ai,op,ef,cl,sq,reduceIte,j4,j5,j6,j7,j8,j9,y1,y2,y3,S1,List.length_map,g6,CD,au,dq]
  obtain⟨c,hc⟩:=cj au
  have abF:c<256:=hb c (List.mem_of_getElem? hc)
  have ic:=fx (e:=fun n:Nat=>[T.int .u8 (n:Nat)]) (n:=1) (fun _=>rfl) (by decide) (k:=k) hc
  have l4:=aC (show i<9223372036854775807 by omega)
  obtain⟨w,hw⟩:∃w,w=sn 4294967295 (l.take i):=⟨_,rfl⟩
  have Cz:w<4294967296:=by rw[hw];exact uW _ (by decide) (hb.take i)
  rw[←hw]at g6
  have x1:=Av (a:=w) (b:=c) Cz (by omega)
  have w1:=wrap32 (n:=c) (by omega)
  obtain⟨a,ha⟩:∃a,a=w ^^^ c:=⟨_,rfl⟩
  have ML:a<4294967296:=by rw[ha];exact Nat.xor_lt_two_pow (n:=32) Cz (by omega)
  have kc:=lN 4 ML
  rw[←ha]at x1
  have s1:=LG a
  have m1:=Gx ML
  have k1:a%16<16:=Nat.mod_lt _ (by decide)
  have g1:=Aw k1
  have x2:=Av (a:=a/16) (b:=dP 4 (a%16)) (by omega) (lN 4 (by omega))
  rw[LI]at x2
  have s2:=LG (dP 4 a)
  have m2:=Gx kc
  have k2:dP 4 a%16<16:=Nat.mod_lt _ (by decide)
  have g2:=Aw k2
  have x3:=Av (a:=dP 4 a/16) (b:=dP 4 (dP 4 a%16)) (by omega) (lN 4 (by omega))
  rw[LI]at x3
  simp -implicitDefEqProofs only[ak,ai,op,ef,cl,sq,reduceIte,j4,j5,j6,j7,j8,j9,y1,y2,y3,S1,List.length_map,g6,CD,au,aa,ic,cV,w1,x1,s1,m1,k1,d2,g1,x2,s2,m2,k2,g2,x3,l4]
  refine⟨i+1,by omega,?_,rfl,au⟩
  rw[fj hc,B2,←hw]
  unfold J7
  rw[←ha,show(8:Nat)=4+4 from rfl,xk]
 rintro R H3⟨rfl,g6⟩
 have Cz:sn 4294967295 l<4294967296:=uW _ (by decide) hb
 have u1:KH UnOp.xor (T.int .u32 (sn 4294967295 l:Nat))=some (.int .u32 (iW l:Nat)):=by
  have:=LH Cz
  simp -implicitDefEqProofs only[KH]
  rw[this];rfl
 simp -implicitDefEqProofs only[ak,ai,op,ef,cl,sq,reduceIte,j4,j5,j6,j7,j8,j9,y1,y2,y3,S1,g6,u1]
 exact xJ
def eB (n:Nat):List T:=[.int .u8 n]
theorem LJ (k:SK)(l:List Nat)(hb:dR l)(hl:l.length≤4294967296)(H:af):W env (.call 14 [.sl k (l.map eB)]) H (fun o H'=>Ext H H'∧o=.val (.int .u32 (iW l:Nat))):=by
 refine W.bR rfl rfl rfl ?_
 simp -implicitDefEqProofs only[M9,op,ef,cl,sq,reduceIte,j4,j5,j6,j7,j8,j9,y1,y2,y3,S1]
 refine ae _ _ _ _ _ _ _ _ (T1 k l hb hl _) ?_
 rintro u H1⟨gw,hu⟩
 cases hu
 simp -implicitDefEqProofs only[op,ef,cl,sq,reduceIte,j4,j5,j6,j7,j8,j9,y1,y2,y3,S1]
 exact gw
theorem GA {l:List Nat}:∀c∈l.map eB,c.map T.erase=c:=fun c hc=>by
 obtain⟨x,_,rfl⟩:=List.mem_map.1 hc;rfl
structure Kp (n0:Nat)(C:Nat→Prop)(H H':af):Prop where
 len:H.length≤H'.length
 get:∀b x,H[b]?=some x→(∀e,x≠.tok e)→¬C b→H'[b]?=some x
 ext:∀H0:af,H0.length≤n0→Ext H0 H→Ext H0 H'
theorem Kp.rfl' {n0:Nat}{C:Nat→Prop}{H:af}:Kp n0 C H H:=⟨Nat.le_refl _,fun _ _ h _ _=>h,fun _ _ h=>h⟩
theorem Kp.trans {n0:Nat}{C:Nat→Prop}{H H' vE:af}(h:Kp n0 C H H')(h':Kp n0 C H' vE):Kp n0 C H vE :=
 ⟨Nat.le_trans h.len h'.len,fun b x hx ht hc=>h'.get b x (h.get b x hx ht hc) ht hc,fun H0 h0 hx=>h'.ext H0 h0 (h.ext H0 h0 hx)⟩
theorem Kp.set {n0 c:Nat}{C:Nat→Prop}{H H':af}(h:Kp n0 C H H')(hc:C c)(h0:n0≤c)(x:B):Kp n0 C H (H'.set c x) :=
 ⟨by simpa using h.len,fun b y hy ht hb=>by rw[bf (fun e=>hb (by subst e;exact hc))];exact h.get b y hy ht hb,fun H0 hl hx=>(h.ext H0 hl hx).set (by omega) x⟩
theorem OT {n0:Nat}{H:af}{k:SK}(bs new:List Nat)(hk:lF n0 H k)(ji:n0≤H.length)(hl:bs.length+new.length≤4294967296) :
  ∃k' H',gM H 1 k (bs.map eB) (new.map eB)=some (.sl k' ((bs++new).map eB),H')∧lF n0 H' k'∧(∀C,Kp n0 C H H')∧(gz k bs→gz k' (bs++new)):=by
 cases new with
 | nil=>exact⟨k,H,by simp[gM],hk,fun C=>Kp.rfl',fun h=>by rw[List.append_nil];exact h⟩
 | cons c new =>
  obtain⟨k',H',h1,h2,h3⟩:=kZ (bytes:=1) (bs.map eB) ((c :: new).map eB) hk ji (by simp) (jn (by simp -implicitDefEqProofs only[List.length_map];omega))
  refine⟨k',H',?_,h2,fun C=>⟨h3.len,fun b x hx ht _=>h3.cells hk hx ht,h3.ext⟩,fun _ e=>absurd e (uG h1 (by simp))⟩
  rw[h1,List.map_append]
  have:((c :: new).map eB).map (fun c=>c.map T.erase)=(c :: new).map eB:=by rw[List.map_map];rfl
  rw[this]
theorem xm (l:List Nat):(l.map eB).all (fun c=>c.length==1)=true:=all_map (enc:=eB) (n:=1) (fun _=>rfl) l
theorem T2 (s:ByteArray):(s.data.toList.map fun c=>[T.int .u8 c.toNat])=(tL s).map eB:=by unfold tL eB;rw[List.map_map];rfl
theorem elS (s:ByteArray):∀Hx,bK Hx 1 (T.str s)=some ((tL s).map eB):=fun Hx=>by rw[←T2];rfl
theorem Ax:∀(n v m:Nat),m<n→(dr n v)[n-(m+1)]?=some (v/256^m%256)
 | 0,v,m,h=>by omega
 | n+1,v,m,h=>by
  by_cases e:m=n
  ·subst e;simp[dr]
  ·have e1:n+1-(m+1)=(n-(m+1))+1:=by omega
   rw[e1]
   show(dr n v)[n-(m+1)]?=_
   exact Ax n v m (by omega)
theorem GB {n v m:Nat}(h:m<n):(dr n v).take (n-m)=(dr n v).take (n-(m+1))++[v/256^m%256]:=by
 have e:n-m=n-(m+1)+1:=by omega
 rw[e,fj (Ax n v m h)]
theorem ZW (m:Nat):2^(8*m)=256^m:=by rw[Nat.pow_mul]
theorem ZX {m:Nat}(v:Nat)(h:m≤7):(v:Int).fdiv (2^(min ((8*m:Nat):Int).toNat IntKind.u64.bits))=((v/256^m:Nat):Int):=by
 have e:min ((8*m:Nat):Int).toNat IntKind.u64.bits=8*m:=by
  show min (8*m) 64=8*m
  omega
 rw[e,Vt,ZW]
structure PW (n0:Nat)(H:af)(c:Nat)(out:List Nat):Prop where
 at_:∃k,H[c]?=some (.cells [.int .i64 2147483647,.sl k (out.map eB),.int .i64 0])∧lF n0 H k∧gz k out
 lo:n0≤c
theorem PW.ext {n0:Nat}{H H':af}{c:Nat}{out:List Nat}(h:PW n0 H c out)(hx:Ext H H'):PW n0 H' c out:=by
 obtain⟨⟨k,h1,h2,h4⟩,h3⟩:=h
 exact⟨⟨k,hx.get h1,h2.ext hx,h4⟩,h3⟩
def LK (n0:Nat)(c:Nat)(out:List Nat)(H:af):Out→af→Prop:=fun o H'=>o=.val (.bF [])∧PW n0 H' c out∧Kp n0 (fun b=>b=c) H H'
theorem rn {n0:Nat}{H:af}{c:Nat}{out:List Nat}(h:PW n0 H c out)(n:Nat)(hn:out.length+n≤2147483647):W env (.call 72 [.ptr c 0,.int .i64 n]) H (mY (.bool true) H):=by
 obtain⟨⟨k,h1,h2,h4⟩,h3⟩:=h
 refine W.bR rfl rfl rfl ?_
 have w0:IntKind.i64.wrap (2147483647-(out.length:Int))=((2147483647-out.length:Nat):Int):=by rw[wrap64 (by omega)];omega
 have w1:decide ((n:Int)>((2147483647-out.length:Nat):Int))=false:=by simp;omega
 simp -implicitDefEqProofs only[NO,op,ef,cl,sq,reduceIte,j4,j5,j6,j7,j8,j9,y1,y2,y3,S1,h1,List.length_map,w0,w1]
theorem T3 (H:af):W env (.call 29 [.int .i64 2147483647]) H (fun o H'=>Ext H H'∧o=.val (.ptr H.length 0)∧PW H.length H' H.length []):=by
 refine W.bR rfl rfl rfl ?_
 have e:(if (0:Int)>2147483647 then(0:Int)else 2147483647)=2147483647:=by decide
 simp -implicitDefEqProofs only[Nk,op,ef,cl,sq,reduceIte,j4,j5,j6,j7,j8,j9,y1,y2,y3,S1,e]
 exact⟨Ext.rfl'.app _,⟨.nil,aU rfl,iH _ _,fun _=>rfl⟩,Nat.le_refl _⟩
theorem xn {n0:Nat}{H:af}{c:Nat}{out:List Nat}(h:PW n0 H c out)(ji:n0≤H.length)(v n:Nat)(hn:n≤8)(hl:out.length+n≤4294967296) :
  W env (.call 73 [.ptr c 0,.int .u64 v,.int .i64 n]) H (LK n0 c (out++dr n v) H):=by
 refine W.bR rfl rfl rfl ?_
 have w0:IntKind.i64.wrap ((n:Int)-1)=(n:Int)-1:=wrap64 (by omega)
 simp -implicitDefEqProofs only[NP,op,ef,cl,sq,reduceIte,j4,j5,j6,j7,j8,j9,y1,y2,y3,S1,w0]
 refine W.fW 0 [(0,_),(1,_)] (fun (m:Nat) R H'=>At H' (fun H'=>PW n0 H' c (out++(dr n v).take (n-m))∧n0≤H'.length∧Kp n0 (fun b=>b=c) H H')∧R 6=.int .i64 ((m:Int)-1)∧m≤n) (fun m=>m) n
  (fun R H'=>At H' (fun H'=>PW n0 H' c (out++dr n v)∧Kp n0 (fun b=>b=c) H H')) ⟨.i ⟨by rw[Nat.sub_self,List.take_zero,List.append_nil];exact h,ji,Kp.rfl'⟩,rfl,Nat.le_refl _⟩ ?_ ?_
 ·rintro m R H1⟨⟨hp,A5,qU⟩,g6,hm⟩
  cases m with
  | zero =>
   have e:decide ((((0:Nat):Int)-1)≥0)=false:=by decide
   rw[Nat.sub_zero,List.take_of_length_le (by rw[bj];omega)]at hp
   simp -implicitDefEqProofs only[ak,ai,op,ef,cl,sq,reduceIte,j4,j5,j6,j7,j8,j9,y1,y2,y3,S1,g6,e,dq]
   exact .i ⟨hp,qU⟩
  | succ m =>
   obtain⟨⟨k,d,hk,mL⟩,n5⟩:=hp
   have e7:(((m+1:Nat):Int)-1)=((m:Nat):Int):=by omega
   have e:decide (((m:Nat):Int)≥0)=true:=by simp
   have w8:IntKind.i64.wrap (8*((m:Nat):Int))=((8*m:Nat):Int):=by rw[wrap64 (by omega)];simp
   have s8:=ZX (m:=m) v (by omega)
   have n8:¬(((8*m:Nat):Int)<0):=by omega
   have w1:IntKind.i64.wrap ((m:Int)-1)=(m:Int)-1:=wrap64 (by omega)
   obtain⟨k2,H2,ha,xW,lV,yV⟩:=OT (out++(dr n v).take (n-(m+1))) [v/256^m%256] hk A5 (by simp -implicitDefEqProofs only[List.length_append,List.length_take,bj,List.length_cons,List.length_nil];omega)
   rw[List.append_assoc,←GB (show m<n by omega)]at ha yV
   have hB:=xm (out++(dr n v).take (n-(m+1)))
   have A3:gM H1 1 k ((out++(dr n v).take (n-(m+1))).map eB) [[.int .u8 ((v/256^m%256:Nat):Int)]]=some (.sl k2 ((out++(dr n v).take (n-m)).map eB),H2):=ha
   rw[e7]at g6
   have m8:=yU (v/256^m)
   have d2:=(lV fun _=>False).get c _ d (by simp) (fun h=>h)
   have l2:=aW d2
   simp -implicitDefEqProofs only[ak,ai,op,ef,cl,sq,reduceIte,j4,j5,j6,j7,j8,j9,y1,y2,y3,S1,g6,e,w8,n8,s8,m8,hB,A3,w1,d,d2,l2]
   exact⟨m,by omega,.i ⟨⟨⟨k2,bU l2,xW.set d2 (by simp) _,yV mL⟩,n5⟩,by have:=(lV fun _=>False).len;simp;omega,(qU.trans (lV _)).set rfl n5 _⟩,rfl,by omega⟩
 rintro R H1⟨hp,qU⟩
 simp -implicitDefEqProofs only[ak,ai,op,ef,cl,sq,reduceIte,j4,j5,j6,j7,j8,j9,y1,y2,y3,S1]
 exact⟨rfl,hp,qU⟩
theorem ZY {n0:Nat}{H:af}{c:Nat}{out:List Nat}(h:PW n0 H c out)(ji:n0≤H.length)(v:Nat)(hv:v<4294967296)(hl:out.length+4≤2147483647) :
  W env (.call 30 [.ptr c 0,.int .u32 v]) H (LK n0 c (out++dr 4 v) H):=by
 refine W.bR rfl rfl rfl ?_
 have w0:=gE (n:=v) (by omega)
 simp -implicitDefEqProofs only[Nl,op,ef,cl,sq,reduceIte,j4,j5,j6,j7,j8,j9,y1,y2,y3,S1]
 refine ae _ _ _ _ _ _ _ _ (rn h 4 hl) ?_
 rintro u H1⟨hu,rfl⟩
 cases hu
 simp -implicitDefEqProofs only[op,ef,cl,sq,reduceIte,j4,j5,j6,j7,j8,j9,y1,y2,y3,S1,w0]
 refine ae _ _ _ _ _ _ _ _ (xn h ji v 4 (by decide) (by omega)) ?_
 rintro u H1⟨hu,h1⟩
 cases hu
 simp -implicitDefEqProofs only[op,ef,cl,sq,reduceIte,j4,j5,j6,j7,j8,j9,y1,y2,y3,S1]
 exact⟨rfl,h1⟩
theorem u31 {n0:Nat}{H:af}{c:Nat}{out:List Nat}(h:PW n0 H c out)(ji:n0≤H.length)(v:Nat)(hv:v<256)(hl:out.length+1≤2147483647) :
  W env (.call 31 [.ptr c 0,.int .u8 v]) H (LK n0 c (out++dr 1 v) H):=by
 refine W.bR rfl rfl rfl ?_
 have w0:=gE (n:=v) (by omega)
 simp -implicitDefEqProofs only[Nn,op,ef,cl,sq,reduceIte,j4,j5,j6,j7,j8,j9,y1,y2,y3,S1]
 refine ae _ _ _ _ _ _ _ _ (rn h 1 hl) ?_
 rintro u H1⟨hu,rfl⟩
 cases hu
 simp -implicitDefEqProofs only[op,ef,cl,sq,reduceIte,j4,j5,j6,j7,j8,j9,y1,y2,y3,S1,w0]
 refine ae _ _ _ _ _ _ _ _ (xn h ji v 1 (by decide) (by omega)) ?_
 rintro u H1⟨hu,h1⟩
 cases hu
 simp -implicitDefEqProofs only[op,ef,cl,sq,reduceIte,j4,j5,j6,j7,j8,j9,y1,y2,y3,S1]
 exact⟨rfl,h1⟩
theorem u32 {n0:Nat}{H:af}{c:Nat}{out:List Nat}(h:PW n0 H c out)(ji:n0≤H.length)(v:Nat)(hl:out.length+8≤2147483647) :
  W env (.call 32 [.ptr c 0,.int .u64 v]) H (LK n0 c (out++dr 8 v) H):=by
 refine W.bR rfl rfl rfl ?_
 simp -implicitDefEqProofs only[No,op,ef,cl,sq,reduceIte,j4,j5,j6,j7,j8,j9,y1,y2,y3,S1]
 refine ae _ _ _ _ _ _ _ _ (rn h 8 hl) ?_
 rintro u H1⟨hu,rfl⟩
 cases hu
 simp -implicitDefEqProofs only[op,ef,cl,sq,reduceIte,j4,j5,j6,j7,j8,j9,y1,y2,y3,S1]
 refine ae _ _ _ _ _ _ _ _ (xn h ji v 8 (by decide) (by omega)) ?_
 rintro u H1⟨hu,h1⟩
 cases hu
 simp -implicitDefEqProofs only[op,ef,cl,sq,reduceIte,j4,j5,j6,j7,j8,j9,y1,y2,y3,S1]
 exact⟨rfl,h1⟩
theorem uX {n0:Nat}{H:af}{c:Nat}{out:List Nat}(h:PW n0 H c out)(ji:n0≤H.length)(s:ByteArray)(hl:out.length+(4+s.size)≤2147483647) :
  W env (.call 33 [.ptr c 0,.str s]) H (LK n0 c (out++eT s) H):=by
 refine W.bR rfl rfl rfl ?_
 have w0:=gE (n:=s.size) (by omega)
 have w4:IntKind.i64.wrap (4+(s.size:Int))=((4+s.size:Nat):Int):=by rw[wrap64 (by omega)];simp
 simp -implicitDefEqProofs only[Np,op,ef,cl,sq,reduceIte,j4,j5,j6,j7,j8,j9,y1,y2,y3,S1,w4]
 refine ae _ _ _ _ _ _ _ _ (rn h (4+s.size) hl) ?_
 rintro u H1⟨hu,rfl⟩
 cases hu
 simp -implicitDefEqProofs only[op,ef,cl,sq,reduceIte,j4,j5,j6,j7,j8,j9,y1,y2,y3,S1,w0]
 refine ae _ _ _ _ _ _ _ _ (xn h ji s.size 4 (by decide) (by omega)) ?_
 rintro u H1⟨hu,⟨⟨k,d,hk,mL⟩,n5⟩,qU⟩
 cases hu
 obtain⟨k2,H2,ha,xW,lV,yV⟩:=OT (out++dr 4 s.size) (tL s) hk (Nat.le_trans ji qU.len) (by simp -implicitDefEqProofs only[List.length_append,bj,rm];omega)
 rw[List.append_assoc]at ha yV
 have hB:=xm (out++dr 4 s.size)
 have hs:=elS s
 have d2:=(lV fun _=>False).get c _ d (by simp) (fun h=>h)
 have l2:=aW d2
 simp -implicitDefEqProofs only[op,ef,cl,sq,reduceIte,j4,j5,j6,j7,j8,j9,y1,y2,y3,S1,d,hB,hs,ha,d2,l2]
 exact⟨rfl,⟨⟨k2,bU l2,xW.set d2 (by simp) _,yV mL⟩,n5⟩,(qU.trans (lV _)).set rfl n5 _⟩
def Ay (l:List ByteArray):List Nat:=dr 4 l.length++l.flatMap eT
theorem Az (l:List ByteArray):(Ay l).length=4+(l.flatMap eT).length:=by simp[Ay,bj]
theorem lO {α:Type}{e:α→List Nat}{l:List α}{i:Nat}{x:α}(h:l[i]?=some x):(l.take (i+1)).flatMap e=(l.take i).flatMap e++e x:=by
 rw[fj h,List.flatMap_append];simp
theorem lP {α:Type}{e:α→List Nat}(l:List α)(i:Nat):((l.take i).flatMap e).length≤(l.flatMap e).length:=by
 have h:l.flatMap e=(l.take i).flatMap e++(l.drop i).flatMap e:=by rw[←List.flatMap_append,List.take_append_drop]
 rw[h,List.length_append];omega
theorem Kb {n0:Nat}{H:af}{c:Nat}{out:List Nat}(h:PW n0 H c out)(ji:n0≤H.length)(kl:SK)(l:List ByteArray)(hl:out.length+(Ay l).length≤2147483647)(rR:l.length<4294967296) :
  W env (.call 34 [.ptr c 0,.sl kl (l.map eS)]) H (LK n0 c (out++Ay l) H):=by
 rw[Az]at hl
 refine W.bR rfl rfl rfl ?_
 simp -implicitDefEqProofs only[Nq,op,ef,cl,sq,reduceIte,j4,j5,j6,j7,j8,j9,y1,y2,y3,S1]
 refine W.fW 0 [(0,_),(1,_),(9,_),(10,_)] (fun (i:Nat) R H'=>H'=H∧R 4=.int .i64 ((4+((l.take i).flatMap eT).length:Nat):Int)∧R 11=.int .i64 i∧i≤l.length) (fun i=>l.length-i) 0
  (fun R H'=>H'=H∧R 4=.int .i64 ((4+(l.flatMap eT).length:Nat):Int)) ⟨rfl,rfl,rfl,Nat.zero_le _⟩ ?_ ?_
 ·rintro i R H1⟨rfl,g4,Ht,hi⟩
  by_cases au:i<l.length
  rotate_left
  ·have mA:i=l.length:=by omega
   subst mA
   rw[List.take_length]at g4
   simp -implicitDefEqProofs only[ak,ai,op,ef,cl,sq,reduceIte,j4,j5,j6,j7,j8,j9,y1,y2,y3,S1,List.length_map,g4,Ht,au,dq]
  obtain⟨s,hs⟩:=cj au
  have is:=fx (e:=eS) (n:=1) (fun _=>rfl) (by decide) (k:=kl) hs
  have l4:=aC (show i<9223372036854775807 by omega)
  have hf:=lO (e:=eT) hs
  have hle:=lP (e:=eT) l (i+1)
  have yp:((l.take (i+1)).flatMap eT).length=((l.take i).flatMap eT).length+(4+s.size):=by rw[hf,List.length_append,hU]
  have w4:IntKind.i64.wrap (4+(s.size:Int))=((4+s.size:Nat):Int):=by rw[wrap64 (by omega)];simp
  have w5:IntKind.i64.wrap (((4+((l.take i).flatMap eT).length:Nat):Int)+((4+s.size:Nat):Int))=((4+((l.take (i+1)).flatMap eT).length:Nat):Int):=by rw[wrap64 (by omega),yp];omega
  simp -implicitDefEqProofs only[ak,ai,op,ef,cl,sq,reduceIte,j4,j5,j6,j7,j8,j9,y1,y2,y3,S1,List.length_map,g4,Ht,au,aa,is,eS,cV,w4,w5,l4]
  exact⟨i+1,by omega,rfl,rfl,au⟩
 rintro R H1⟨rfl,g4⟩
 have w0:=gE (n:=l.length) (by omega)
 simp -implicitDefEqProofs only[ak,ai,op,ef,cl,sq,reduceIte,j4,j5,j6,j7,j8,j9,y1,y2,y3,S1,g4]
 refine ae _ _ _ _ _ _ _ _ (rn h (4+(l.flatMap eT).length) hl) ?_
 rintro u H2⟨hu,rfl⟩
 cases hu
 simp -implicitDefEqProofs only[op,ef,cl,sq,reduceIte,j4,j5,j6,j7,j8,j9,y1,y2,y3,S1,List.length_map,w0]
 refine ae _ _ _ _ _ _ _ _ (xn h ji l.length 4 (by decide) (by omega)) ?_
 rintro u H3⟨hu,hp,qU⟩
 cases hu
 simp -implicitDefEqProofs only[op,ef,cl,sq,reduceIte,j4,j5,j6,j7,j8,j9,y1,y2,y3,S1,List.length_map]
 refine W.fW 2 [(0,_),(30,_),(31,_)] (fun (i:Nat) R H'=>At H' (fun H'=>PW n0 H' c (out++dr 4 l.length++(l.take i).flatMap eT)∧n0≤H'.length∧Kp n0 (fun b=>b=c) H2 H')∧R 32=.int .i64 i∧i≤l.length) (fun i=>l.length-i) 0
  (fun R H'=>At H' (fun H'=>PW n0 H' c (out++Ay l)∧Kp n0 (fun b=>b=c) H2 H')) ⟨.i ⟨by simpa using hp,Nat.le_trans ji qU.len,qU⟩,rfl,Nat.zero_le _⟩ ?_ ?_
 ·rintro i R H4⟨⟨hp,A5,qU⟩,ZZ,hi⟩
  by_cases au:i<l.length
  rotate_left
  ·have mA:i=l.length:=by omega
   subst mA
   rw[List.take_length,List.append_assoc]at hp
   simp -implicitDefEqProofs only[ak,ai,op,ef,cl,sq,reduceIte,j4,j5,j6,j7,j8,j9,y1,y2,y3,S1,List.length_map,ZZ,au,dq]
   exact .i ⟨hp,qU⟩
  obtain⟨s,hs⟩:=cj au
  have is:=fx (e:=eS) (n:=1) (fun _=>rfl) (by decide) (k:=kl) hs
  have l4:=aC (show i<9223372036854775807 by omega)
  have hf:=lO (e:=eT) hs
  have hle:=lP (e:=eT) l (i+1)
  have yp:((l.take (i+1)).flatMap eT).length=((l.take i).flatMap eT).length+(4+s.size):=by rw[hf,List.length_append,hU]
  simp -implicitDefEqProofs only[ak,ai,op,ef,cl,sq,reduceIte,j4,j5,j6,j7,j8,j9,y1,y2,y3,S1,List.length_map,ZZ,au,aa,is,eS,cV]
  refine ae _ _ _ _ _ _ _ _ (uX hp A5 s (by simp -implicitDefEqProofs only[List.length_append,bj];omega)) ?_
  rintro u H5⟨hu,hp5,T4⟩
  cases hu
  rw[List.append_assoc,←hf]at hp5
  simp -implicitDefEqProofs only[op,ef,cl,sq,reduceIte,j4,j5,j6,j7,j8,j9,y1,y2,y3,S1,ZZ,l4]
  exact⟨i+1,by omega,.i ⟨hp5,Nat.le_trans A5 T4.len,qU.trans T4⟩,rfl,au⟩
 rintro R H4⟨hp,qU⟩
 simp -implicitDefEqProofs only[ak,ai,op,ef,cl,sq,reduceIte,j4,j5,j6,j7,j8,j9,y1,y2,y3,S1]
 exact⟨rfl,hp,qU⟩
theorem jt {H:af}{bytes:Nat}(new:List (List T))(hr:db new.length bytes=true)(he:∀c∈new,c.map T.erase=c):∃k' H',gM H bytes .full [] new=some (.sl k' new,H')∧Ext H H'∧lF H.length H' k'∧k'≠.nil:=by
 cases new with
 | nil=>exact⟨.full,H,by simp[gM],Ext.rfl',.inr (.inl rfl),by simp⟩
 | cons c new =>
  refine⟨.own H.length (c :: new).length,H++[.tok (c :: new).length],?_,Ext.rfl'.app _,.inr (.inr ⟨_,_,rfl,Nat.le_refl _,aU rfl⟩),by simp⟩
  unfold gM
  simp -implicitDefEqProofs only[List.length_nil,Nat.zero_add,hr,if_true,List.nil_append]
  have e:(c :: new).map (fun x=>x.map T.erase)=c :: new:=(List.map_congr_left he).trans (List.map_id _)
  rw[e]
theorem AA (k:SK)(l:List Nat)(hk:gz k l)(hl:l.length≤4294967296)(H:af):W env (.call 74 [.sl k (l.map eB)]) H (fun o H'=>Ext H H'∧∃k',lF H.length H' k'∧gz k' l∧o=.val (.sl k' (l.map eB))):=by
 refine W.bR rfl rfl rfl ?_
 obtain⟨k',H1,ha,hx,mJ,kx⟩:=jt (H:=H) (bytes:=1) (l.map eB) (jn (by simp -implicitDefEqProofs only[List.length_map];omega)) GA
 have cr:=all_map (enc:=eB) (n:=1) (fun _=>rfl) l
 by_cases hn:k=.nil
 ·subst hn
  have:=hk rfl
  subst this
  have e0:dU .slice (.sl .nil []) (.sl .nil [])=some true:=rfl
  simp -implicitDefEqProofs only[EZ,op,ef,cl,sq,reduceIte,j4,j5,j6,j7,j8,j9,y1,y2,y3,S1,List.map_nil,e0,Option.map_some]
  exact⟨Ext.rfl',.nil,iH _ _,fun _=>rfl,rfl⟩
 by_cases he:k=.arg∧l=[]
 ·obtain⟨rfl,rfl⟩:=he
  have e0:dU .slice (.sl .arg []) (.sl .nil [])=none:=rfl
  simp -implicitDefEqProofs only[EZ,op,ef,cl,sq,reduceIte,j4,j5,j6,j7,j8,j9,y1,y2,y3,S1,List.map_nil,e0,Option.map_none]
  intro t
  cases t
  ·rw[List.map_nil]at ha
   simp -implicitDefEqProofs only[op,ef,cl,sq,reduceIte,j4,j5,j6,j7,j8,j9,y1,y2,y3,S1]
   simp -implicitDefEqProofs only[op,ef,cl,sq,reduceIte,j4,j5,j6,j7,j8,j9,y1,y2,y3,S1,ha]
   exact⟨hx,k',mJ,(fun h=>absurd h kx),rfl⟩
  ·simp -implicitDefEqProofs only[op,ef,cl,sq,reduceIte,j4,j5,j6,j7,j8,j9,y1,y2,y3,S1]
   exact⟨Ext.rfl',.nil,iH _ _,fun _=>rfl,rfl⟩
 have gD:dU .slice (.sl k (l.map eB)) (.sl .nil [])=some false:=by
  cases k with
  | nil=>exact absurd rfl hn
  | arg=>cases l with
   | nil=>exact absurd ⟨rfl,rfl⟩ he
   | cons a l=>rfl
  | full=>rfl
  | own t e=>rfl
 simp -implicitDefEqProofs only[EZ,op,ef,cl,sq,reduceIte,j4,j5,j6,j7,j8,j9,y1,y2,y3,S1,gD,cr,ha]
 exact⟨hx,k',mJ,(fun h=>absurd h kx),rfl⟩
theorem T5 {n0:Nat}{H:af}{c:Nat}{out:List Nat}(h:PW n0 H c out)(hl:out.length≤2147483647):W env (.call 35 [.ptr c 0]) H (fun o H'=>Ext H H'∧∃k',lF H.length H' k'∧gz k' out∧o=.val (.bF [.sl k' (out.map eB),.int .i64 0])):=by
 obtain⟨⟨k,h1,h2,h4⟩,h3⟩:=h
 refine W.bR rfl rfl rfl ?_
 simp -implicitDefEqProofs only[Nr,op,ef,cl,sq,reduceIte,j4,j5,j6,j7,j8,j9,y1,y2,y3,S1,h1]
 refine ae _ _ _ _ _ _ _ _ (AA k out h4 (by omega) _) ?_
 rintro u H1⟨hx,k',mJ,mL,hu⟩
 cases hu
 simp -implicitDefEqProofs only[op,ef,cl,sq,reduceIte,j4,j5,j6,j7,j8,j9,y1,y2,y3,S1]
 exact⟨hx,k',mJ,mL,rfl⟩
theorem OU (n m:Nat):IntKind.u8.wrap ((n:Int).fdiv (2^m))=((n/2^m%256:Nat):Int):=by rw[Vt,yU]
theorem s24 (n:Nat):IntKind.u8.wrap ((n:Int).fdiv (2^(min (24:Int).toNat IntKind.u32.bits)))=((n/16777216%256:Nat):Int):=OU n 24
theorem s16 (n:Nat):IntKind.u8.wrap ((n:Int).fdiv (2^(min (16:Int).toNat IntKind.u32.bits)))=((n/65536%256:Nat):Int):=OU n 16
theorem s08 (n:Nat):IntKind.u8.wrap ((n:Int).fdiv (2^(min (8:Int).toNat IntKind.u32.bits)))=((n/256%256:Nat):Int):=OU n 8
theorem nm4 (n:Nat):(dr 4 n).map eB=[[T.int .u8 ((n/16777216%256:Nat):Int)],[T.int .u8 ((n/65536%256:Nat):Int)],[T.int .u8 ((n/256%256:Nat):Int)],[T.int .u8 ((n%256:Nat):Int)]]:=by
 simp[dr,eB]
theorem GC (k:SK)(l:List Nat)(hb:dR l)(hl:l.length≤4294967296)(H:af):W env (.call 36 [.sl k (l.map eB)]) H (fun o H'=>Ext H H'∧o=.val (.sl .full ((dr 4 (iW l)).map eB))):=by
 refine W.bR rfl rfl rfl ?_
 simp -implicitDefEqProofs only[Ns,op,ef,cl,sq,reduceIte,j4,j5,j6,j7,j8,j9,y1,y2,y3,S1]
 refine ae _ _ _ _ _ _ _ _ (LJ k l hb hl _) ?_
 rintro u H1⟨gw,hu⟩
 cases hu
 have a1:=s24 (iW l)
 have a2:=s16 (iW l)
 have a3:=s08 (iW l)
 have a4:=yU (iW l)
 rw[nm4]
 simp -implicitDefEqProofs only[op,ef,cl,sq,reduceIte,j4,j5,j6,j7,j8,j9,y1,y2,y3,S1,a1,a2,a3,a4]
 exact gw
def rI (x:Nm):List Nat:=eT x.1++dr 8 x.2
def mo (x:Kd):List Nat:=eT x.key++(dr 8 x.id++(eT x.value++Ay x.keys))
def body (gen:Nat)(L:List Nm)(K:List Kd):List Nat:=dr 4 1918987632++(dr 1 1++(dr 8 gen++(dr 4 L.length++(L.flatMap rI++(dr 4 K.length++K.flatMap mo)))))
def whole (b:List Nat):List Nat:=b++dr 4 (iW b)
theorem Kc (l:List ByteArray):dR (Ay l):=(eQ _ _).app fun x hx=>by
 obtain⟨s,_,h⟩:=List.mem_flatMap.1 hx;exact uU s x h
theorem Ke (x:Nm):dR (rI x):=(uU _).app (eQ _ _)
theorem Kf (x:Kd):dR (mo x):=(uU _).app ((eQ _ _).app ((uU _).app (Kc _)))
theorem xo {α:Type}{e:α→List Nat}(h:∀x,dR (e x))(l:List α):dR (l.flatMap e):=fun x hx=>by
 obtain⟨s,_,h'⟩:=List.mem_flatMap.1 hx;exact h s x h'
theorem ju (gen:Nat)(L:List Nm)(K:List Kd):dR (body gen L K) :=
 (eQ _ _).app ((eQ _ _).app ((eQ _ _).app ((eQ _ _).app ((xo Ke _).app ((eQ _ _).app (xo Kf _))))))
theorem rp (gen:Nat)(L:List Nm)(K:List Kd):(body gen L K).length=21+(L.flatMap rI).length+(K.flatMap mo).length:=by
 simp -implicitDefEqProofs only[body,List.length_append,bj];omega
theorem LK.go {H0 H H':af}{c:Nat}{out:List Nat}{u:Out}(hx:Ext H0 H)(h:LK H0.length c out H u H'):u=.val (.bF [])∧PW H0.length H' c out∧Ext H0 H' :=
 ⟨h.1,h.2.1,h.2.2.ext H0 (Nat.le_refl _) hx⟩
set_option maxHeartbeats 4000000 in
theorem pZ {b:Bk}{a:Ab}{F:Nat→Prop}{m:Nat}{H:af}(h:ja H b a F m)(hm:m≤8000000)(Qv:∀k n,a.l k=some n→a.has (k,n)=true){N:List Nm}(hN:Names a N){ls:List ByteArray}(hL:dv a ls)(gen:Int)(hg:1≤gen∧gen<9223372036854775808)
  (a6:(body gen.toNat (ls.map (ig a)) (N.map (bO a))).length≤2147483647) :
  W env (.call 10 [.int .i64 gen,.ptr b.s 0]) H (fun o H'=>Ext H H'∧∃k,k≠.nil∧o=.val (.bF [.sl k ((whole (body gen.toNat (ls.map (ig a)) (N.map (bO a)))).map eB),.int .i64 0])):=by
 obtain⟨g,rfl⟩:∃g:Nat,gen=(g:Int):=⟨gen.toNat,by omega⟩
 rw[Int.toNat_natCast]at a6 ⊢
 have kc:=rp g (ls.map (ig a)) (N.map (bO a))
 have e0:dU .ptr (.ptr b.s 0) .b0=some false:=rfl
 have e1:¬((g:Int)<1):=by omega
 have wg:=gE (n:=g) (by omega)
 obtain⟨L,MN⟩:∃L,L=ls.map (ig a):=⟨_,rfl⟩
 obtain⟨K,T6⟩:∃K,K=N.map (bO a):=⟨_,rfl⟩
 rw[←MN,←T6]at kc a6 ⊢
 refine W.bR rfl rfl rfl ?_
 simp -implicitDefEqProofs only[M8,op,ef,cl,sq,reduceIte,j4,j5,j6,j7,j8,j9,y1,y2,y3,S1,e0,e1]
 refine ae _ _ _ _ _ _ _ _ (T3 _) ?_
 rintro u H1⟨gw,hu,p1⟩
 cases hu
 have gw:Ext H H1:=gw
 simp -implicitDefEqProofs only[op,ef,cl,sq,reduceIte,j4,j5,j6,j7,j8,j9,y1,y2,y3,S1]
 refine ae _ _ _ _ _ _ _ _ (ZY p1 gw.len 1918987632 (by decide) (by simp)) ?_
 intro u H2 hq
 obtain⟨hu,p2,xJ⟩:=hq.go gw
 cases hu
 simp -implicitDefEqProofs only[op,ef,cl,sq,reduceIte,j4,j5,j6,j7,j8,j9,y1,y2,y3,S1]
 refine ae _ _ _ _ _ _ _ _ (u31 p2 xJ.len 1 (by decide) (by simp[bj])) ?_
 intro u H3 hq
 obtain⟨hu,p3,pd⟩:=hq.go xJ
 cases hu
 simp -implicitDefEqProofs only[op,ef,cl,sq,reduceIte,j4,j5,j6,j7,j8,j9,y1,y2,y3,S1,wg]
 refine ae _ _ _ _ _ _ _ _ (u32 p3 pd.len g (by simp[bj])) ?_
 intro u H4 hq
 obtain⟨hu,p4,uM⟩:=hq.go pd
 cases hu
 simp -implicitDefEqProofs only[op,ef,cl,sq,reduceIte,j4,j5,j6,j7,j8,j9,y1,y2,y3,S1]
 refine ae _ _ _ _ _ _ _ _ (pY (h.ext uM) hm Qv) ?_
 rintro u H5⟨mZ,kL,ls',_,hL',hlen,hu⟩
 cases hu
 have mZ:Ext H4 H5:=mZ
 have els:=hL'.uniq hL
 subst els
 rw[←MN]
 have Vu:L.length≤8000000:=by rw[MN,List.length_map];omega
 have p5:=p4.ext mZ
 have T7:=uM.trans mZ
 have wL:=wrap32 (n:=L.length) (by omega)
 obtain⟨o4,Z0⟩:∃o4,o4=dr 4 1918987632++(dr 1 1++dr 8 g):=⟨_,rfl⟩
 have eo4:[]++dr 4 1918987632++dr 1 1++dr 8 g=o4:=by rw[Z0];simp -implicitDefEqProofs only[List.nil_append,List.append_assoc]
 rw[eo4]at p5
 have lo4:o4.length=13:=by rw[Z0];simp -implicitDefEqProofs only[List.length_append,bj]
 simp -implicitDefEqProofs only[op,ef,cl,sq,reduceIte,j4,j5,j6,j7,j8,j9,y1,y2,y3,S1,List.length_map,wL]
 refine ae _ _ _ _ _ _ _ _ (ZY p5 T7.len L.length (by omega) (by omega)) ?_
 intro u H6 hq
 obtain⟨hu,p6,rf⟩:=hq.go T7
 cases hu
 have hc6:=p6.lo
 simp -implicitDefEqProofs only[op,ef,cl,sq,reduceIte,j4,j5,j6,j7,j8,j9,y1,y2,y3,S1,List.length_map]
 refine W.fW 0 [(1,_),(6,_),(37,_),(38,_)] (fun (i:Nat) R H'=>At H' (fun H'=>PW H.length H' H.length (o4++dr 4 L.length++(L.take i).flatMap rI)∧Ext H H')∧R 39=.int .i64 i∧i≤L.length) (fun i=>L.length-i) 0
  (fun R H'=>At H' (fun H'=>PW H.length H' H.length (o4++dr 4 L.length++L.flatMap rI)∧Ext H H')) ⟨.i ⟨by simpa using p6,rf⟩,rfl,Nat.zero_le _⟩ ?_ ?_
 ·rintro i R H7⟨⟨p7,pj⟩,Z1,hi⟩
  by_cases au:i<L.length
  rotate_left
  ·have mA:i=L.length:=by omega
   subst mA
   rw[List.take_length]at p7
   simp -implicitDefEqProofs only[ak,ai,op,ef,cl,sq,reduceIte,j4,j5,j6,j7,j8,j9,y1,y2,y3,S1,Z1,au,dq]
   exact .i ⟨p7,pj⟩
  obtain⟨x,hx⟩:=cj au
  have ix:=fx (e:=eW) (n:=2) (fun _=>rfl) (by decide) (k:=kL) hx
  have l4:=aC (show i<9223372036854775807 by omega)
  have OW:∀Hx,nZ Hx 2 (.cP (eW x))=some (eW x):=fun _=>rfl
  have hf:=lO (e:=rI) hx
  have hle:=lP (e:=rI) L (i+1)
  have yp:((L.take (i+1)).flatMap rI).length=((L.take i).flatMap rI).length+(4+x.1.size+8):=by
   rw[hf,List.length_append]
   show _+(eT x.1++dr 8 x.2).length=_
   rw[List.length_append,hU,bj]
  obtain⟨H8,GD⟩:∃H8,H8=H7++[B.cells (eW x)]:=⟨_,rfl⟩
  have rJ:Ext H7 H8:=⟨_,GD⟩
  have d8:H8[H7.length]?=some (.cells (eW x)):=by rw[GD];exact aU rfl
  have bG:H7.length≠H.length:=by
   obtain⟨⟨_,d,_⟩,_⟩:=p7;have:=aW d;omega
  have p8:=p7.ext rJ
  have GF:=pj.trans rJ
  simp -implicitDefEqProofs only[eW]at GD d8 OW ix
  simp -implicitDefEqProofs only[ak,ai,op,ef,cl,sq,reduceIte,j4,j5,j6,j7,j8,j9,y1,y2,y3,S1,Z1,au,aa,eW,ix,OW,S2]
  rw[←GD]
  refine ae _ _ _ _ _ _ _ _ (uX p8 GF.len x.1 (by simp -implicitDefEqProofs only[List.length_append,bj];omega)) ?_
  intro u H9 hq
  have d9:=hq.2.2.get _ _ d8 (by simp) bG
  obtain⟨hu,p9,AB⟩:=hq.go GF
  cases hu
  simp -implicitDefEqProofs only[op,ef,cl,sq,reduceIte,j4,j5,j6,j7,j8,j9,y1,y2,y3,S1,d9]
  refine ae _ _ _ _ _ _ _ _ (u32 p9 AB.len x.2 (by simp -implicitDefEqProofs only[List.length_append,bj,hU];omega)) ?_
  intro u xp hq
  obtain⟨hu,Hz,ki⟩:=hq.go AB
  cases hu
  rw[List.append_assoc,List.append_assoc]at Hz
  have Z2:PW H.length xp H.length (o4++dr 4 L.length++(L.take (i+1)).flatMap rI):=by
   rw[hf,show rI x=eT x.1++dr 8 x.2 from rfl]
   simpa only[List.append_assoc]using Hz
  simp -implicitDefEqProofs only[op,ef,cl,sq,reduceIte,j4,j5,j6,j7,j8,j9,y1,y2,y3,S1,Z1,l4]
  exact⟨i+1,by omega,.i ⟨Z2,ki⟩,rfl,au⟩
 rintro R H7⟨p7,pj⟩
 simp -implicitDefEqProofs only[ak,ai,op,ef,cl,sq,reduceIte,j4,j5,j6,j7,j8,j9,y1,y2,y3,S1]
 refine ae _ _ _ _ _ _ _ _ (tF (h.ext pj) hm) ?_
 rintro u H8⟨rJ,kK,N',_,hN',abH,hu⟩
 cases hu
 have rJ:Ext H7 H8:=rJ
 have eN:=hN'.uniq hN
 subst eN
 have eKK:N'.map (TI a)=K.map js:=by rw[T6,List.map_map];rfl
 rw[eKK]
 have hKl:K.length≤8000000:=by rw[T6,List.length_map];omega
 have OX:∀x∈K,x.keys.length≤1024:=fun x hx=>by
  rw[T6]at hx
  obtain⟨n,_,rfl⟩:=List.mem_map.1 hx
  exact h.keys n
 have aex:∀x∈K,x.kk=.arg:=fun x hx=>by
  rw[T6]at hx
  obtain⟨n,_,rfl⟩:=List.mem_map.1 hx
  rfl
 have p8:=p7.ext rJ
 have GF:=pj.trans rJ
 have wK:=wrap32 (n:=K.length) (by omega)
 simp -implicitDefEqProofs only[op,ef,cl,sq,reduceIte,j4,j5,j6,j7,j8,j9,y1,y2,y3,S1,List.length_map,wK]
 refine ae _ _ _ _ _ _ _ _ (ZY p8 GF.len K.length (by omega) (by simp -implicitDefEqProofs only[List.length_append,bj];omega)) ?_
 intro u H9 hq
 obtain⟨hu,p9,AB⟩:=hq.go GF
 cases hu
 obtain⟨o9,Z3⟩:∃o9,o9=o4++dr 4 L.length++L.flatMap rI++dr 4 K.length:=⟨_,rfl⟩
 rw[←Z3]at p9
 have lo9:o9.length=21+(L.flatMap rI).length:=by rw[Z3];simp -implicitDefEqProofs only[List.length_append,bj];omega
 simp -implicitDefEqProofs only[op,ef,cl,sq,reduceIte,j4,j5,j6,j7,j8,j9,y1,y2,y3,S1,List.length_map]
 refine W.fW 2 [(6,_),(59,_),(60,_)] (fun (i:Nat) R H'=>At H' (fun H'=>PW H.length H' H.length (o9++(K.take i).flatMap mo)∧Ext H H')∧R 61=.int .i64 i∧i≤K.length) (fun i=>K.length-i) 0
  (fun R H'=>At H' (fun H'=>PW H.length H' H.length (o9++K.flatMap mo)∧Ext H H')) ⟨.i ⟨by simpa using p9,AB⟩,rfl,Nat.zero_le _⟩ ?_ ?_
 ·rintro i R xp⟨⟨Hz,ki⟩,Z4,hi⟩
  by_cases au:i<K.length
  rotate_left
  ·have mA:i=K.length:=by omega
   subst mA
   rw[List.take_length]at Hz
   simp -implicitDefEqProofs only[ak,ai,op,ef,cl,sq,reduceIte,j4,j5,j6,j7,j8,j9,y1,y2,y3,S1,Z4,au,dq]
   exact .i ⟨Hz,ki⟩
  obtain⟨x,hx⟩:=cj au
  have hxm:=List.mem_of_getElem? hx
  have ix:=fx (e:=js) (n:=5) (fun _=>rfl) (by decide) (k:=kK) hx
  have l4:=aC (show i<9223372036854775807 by omega)
  have OW:∀Hx,nZ Hx 5 (.cP (js x))=some (js x):=fun _=>rfl
  have hf:=lO (e:=mo) hx
  have hle:=lP (e:=mo) K (i+1)
  have yp:((K.take (i+1)).flatMap mo).length=((K.take i).flatMap mo).length+(4+x.key.size+8+(4+x.value.size)+(Ay x.keys).length):=by
   rw[hf,List.length_append]
   show _+(eT x.key++(dr 8 x.id++(eT x.value++Ay x.keys))).length=_
   simp -implicitDefEqProofs only[List.length_append,hU,bj];omega
  obtain⟨xq,Kg⟩:∃xq,xq=xp++[B.cells (js x)]:=⟨_,rfl⟩
  have uY:Ext xp xq:=⟨_,Kg⟩
  have d11:xq[xp.length]?=some (.cells (js x)):=by rw[Kg];exact aU rfl
  have bG:xp.length≠H.length:=by
   obtain⟨⟨_,d,_⟩,_⟩:=Hz;have:=aW d;omega
  have p11:=Hz.ext uY
  have LL:=ki.trans uY
  simp -implicitDefEqProofs only[js]at Kg d11 OW ix
  simp -implicitDefEqProofs only[ak,ai,op,ef,cl,sq,reduceIte,j4,j5,j6,j7,j8,j9,y1,y2,y3,S1,Z4,au,aa,js,ix,OW,S2]
  rw[←Kg]
  refine ae _ _ _ _ _ _ _ _ (uX p11 LL.len x.key (by simp -implicitDefEqProofs only[List.length_append];omega)) ?_
  intro u yW hq
  have d12:=hq.2.2.get _ _ d11 (by simp) bG
  obtain⟨hu,p12,gn⟩:=hq.go LL
  cases hu
  simp -implicitDefEqProofs only[op,ef,cl,sq,reduceIte,j4,j5,j6,j7,j8,j9,y1,y2,y3,S1,d12]
  refine ae _ _ _ _ _ _ _ _ (u32 p12 gn.len x.id (by simp -implicitDefEqProofs only[List.length_append,hU];omega)) ?_
  intro u yX hq
  have d13:=hq.2.2.get _ _ d12 (by simp) bG
  obtain⟨hu,p13,l6⟩:=hq.go gn
  cases hu
  simp -implicitDefEqProofs only[op,ef,cl,sq,reduceIte,j4,j5,j6,j7,j8,j9,y1,y2,y3,S1,d13]
  refine ae _ _ _ _ _ _ _ _ (uX p13 l6.len x.value (by simp -implicitDefEqProofs only[List.length_append,hU,bj];omega)) ?_
  intro u CE hq
  have d14:=hq.2.2.get _ _ d13 (by simp) bG
  obtain⟨hu,p14,yY⟩:=hq.go l6
  cases hu
  simp -implicitDefEqProofs only[op,ef,cl,sq,reduceIte,j4,j5,j6,j7,j8,j9,y1,y2,y3,S1,d14]
  refine ae _ _ _ _ _ _ _ _ (Kb p14 yY.len x.kk x.keys (by simp -implicitDefEqProofs only[List.length_append,hU,bj];omega) (by have:=OX x hxm;omega)) ?_
  intro u B5 hq
  obtain⟨hu,p15,yZ⟩:=hq.go yY
  cases hu
  have Z5:PW H.length B5 H.length (o9++(K.take (i+1)).flatMap mo):=by
   rw[hf,show mo x=eT x.key++(dr 8 x.id++(eT x.value++Ay x.keys)) from rfl]
   simpa only[List.append_assoc]using p15
  simp -implicitDefEqProofs only[op,ef,cl,sq,reduceIte,j4,j5,j6,j7,j8,j9,y1,y2,y3,S1,Z4,l4]
  exact⟨i+1,by omega,.i ⟨Z5,yZ⟩,rfl,au⟩
 rintro R xp⟨Hz,ki⟩
 have T8:o9++K.flatMap mo=body g L K:=by rw[Z3,Z0];unfold body;simp -implicitDefEqProofs only[List.append_assoc]
 rw[T8]at Hz
 have WA:=ju g L K
 have Ji:body g L K≠[]:=fun e=>by rw[e]at kc;simp at kc;omega
 generalize body g L K=bd at *
 simp -implicitDefEqProofs only[ak,ai,op,ef,cl,sq,reduceIte,j4,j5,j6,j7,j8,j9,y1,y2,y3,S1]
 refine ae _ _ _ _ _ _ _ _ (T5 Hz a6) ?_
 rintro u xq⟨uY,k',mJ,mL,hu⟩
 cases hu
 have uY:Ext xp xq:=uY
 simp -implicitDefEqProofs only[op,ef,cl,sq,reduceIte,j4,j5,j6,j7,j8,j9,y1,y2,y3,S1]
 refine ae _ _ _ _ _ _ _ _ (GC k' bd WA (by omega) _) ?_
 rintro u yW⟨gn,hu⟩
 cases hu
 have gn:Ext xq yW:=gn
 obtain⟨k2,yX,ha,xW,lV,yV⟩:=OT bd (dr 4 (iW bd)) (mJ.ext gn) (Nat.le_trans uY.len gn.len) (by rw[bj];omega)
 have hB:=xm bd
 have hB2:=xm (dr 4 (iW bd))
 have l6:Ext H yX:=(lV fun _=>False).ext H (by have:=ki.len;omega) ((ki.trans uY).trans gn)
 simp -implicitDefEqProofs only[op,ef,cl,sq,reduceIte,j4,j5,j6,j7,j8,j9,y1,y2,y3,S1,hB,hB2,ha]
 exact⟨l6,k2,fun e=>Ji (by have:=yV mL e;simp at this;exact this.1),rfl⟩
end Go.Proofs.YtdcpehdijdllpaaGreat.St
end

section
namespace Go.Proofs.YtdcpehdijdllpaaGreat.St
open Go.Rmp Go.Proofs.YtdcpehdijdllpaaGreat.Ir
set_option maxRecDepth 10000
structure RD (H:af)(c:Nat)(st:Option (List Nat)):Prop where
 at_:∃k rest e,H[c]?=some (.cells [.sl k (rest.map eB),.int .i64 e])∧rest.length≤4294967296∧dR rest∧(∀l,st=some l→e=0∧rest=l)∧(st=none→e≠0)
theorem RD.ext {H H':af}{c:Nat}{st:Option (List Nat)}(h:RD H c st)(hx:Ext H H'):RD H' c st:=by
 obtain⟨k,rest,e,h1,h2⟩:=h.at_
 exact⟨k,rest,e,hx.get h1,h2⟩
theorem RD.ok {H:af}{c:Nat}{l:List Nat}(h:RD H c (some l)):∃k,H[c]?=some (.cells [.sl k (l.map eB),.int .i64 0])∧l.length≤4294967296∧dR l:=by
 obtain⟨k,rest,e,h1,h2,h3,h4,_⟩:=h.at_
 obtain⟨rfl,rfl⟩:=h4 l rfl
 exact⟨k,h1,h2,h3⟩
theorem RD.bad {H:af}{c:Nat}(h:RD H c none):∃k rest e,H[c]?=some (.cells [.sl k (rest.map eB),.int .i64 e])∧rest.length≤4294967296∧dR rest∧e≠0:=by
 obtain⟨k,rest,e,h1,h2,h3,_,h5⟩:=h.at_
 exact⟨k,rest,e,h1,h2,h3,h5 rfl⟩
theorem RD.Vv {H:af}{c:Nat}{k:SK}{l:List Nat}(h:H[c]?=some (.cells [.sl k (l.map eB),.int .i64 0]))(hl:l.length≤4294967296)(hb:dR l):RD H c (some l) :=
 ⟨k,l,0,h,hl,hb,fun l' e=>⟨rfl,Option.some.inj e⟩,fun e=>by cases e⟩
theorem RD.Vw {H:af}{c:Nat}{k:SK}{l:List Nat}{e:Int}(h:H[c]?=some (.cells [.sl k (l.map eB),.int .i64 e]))(hl:l.length≤4294967296)(hb:dR l)(he:e≠0):RD H c none :=
 ⟨k,l,e,h,hl,hb,fun l' e=>(by cases e),fun _=>he⟩
theorem GG {x:X}{lo hi:Option X}{R:ar}{Hx:af}{k:SK}{l:List Nat}{a b:Nat}(hx:x.ev R=.sl k (l.map eB))(ha:gh R 0 lo=some a)(hb:gh R l.length hi=some b)(h1:a≤b)(h2:b≤l.length) :
  al R Hx (.gp 1 x lo hi none)=some (.sl (k.cut l.length a b) (((l.take b).drop a).map eB),Hx):=by
 have cr:=xm l
 simp -implicitDefEqProofs only[al,hx,ha,List.length_map,hb]
 rw[if_pos ⟨h1,h2,cr⟩,←List.map_take,←List.map_drop]
theorem rq {k:SK}{l:List Nat}{n:Nat}(h:n≤l.length):∀R Hx a b,(X.r a).ev R=.sl k (l.map eB)→(X.r b).ev R=.int .i64 (n:Nat)→al R Hx (.gp 1 (.r a) none (some (.r b)) none)=some (.sl (k.cut l.length 0 n) ((l.take n).map eB),Hx):=fun R Hx a b ha hb=>by
 have:=GG (Hx:=Hx) (lo:=none) (hi:=some (.r b)) (a:=0) (b:=n) ha rfl (by simp -implicitDefEqProofs only[gh,hb,aa]) (Nat.zero_le _) h
 simpa using this
theorem ru {k:SK}{l:List Nat}{n:Nat}(h:n≤l.length):∀R Hx a b,(X.r a).ev R=.sl k (l.map eB)→(X.r b).ev R=.int .i64 (n:Nat)→al R Hx (.gp 1 (.r a) (some (.r b)) none none)=some (.sl (k.cut l.length n l.length) ((l.drop n).map eB),Hx):=fun R Hx a b ha hb=>by
 have:=GG (Hx:=Hx) (lo:=some (.r b)) (hi:=none) (a:=n) (b:=l.length) ha (by simp -implicitDefEqProofs only[gh,hb,aa]) rfl h (Nat.le_refl _)
 simpa using this
theorem B6 {k:SK}{l:List Nat}(h:4≤l.length):∀R Hx a,(X.r a).ev R=.sl k (l.map eB)→al R Hx (.gp 1 (.r a) (some (.c (.int .i64 4))) none none)=some (.sl (k.cut l.length 4 l.length) ((l.drop 4).map eB),Hx):=fun R Hx a ha=>by
 have:=GG (Hx:=Hx) (lo:=some (.c (.int .i64 4))) (hi:=none) (a:=4) (b:=l.length) ha rfl rfl h (Nat.le_refl _)
 simpa using this
theorem Kh {k:SK}{l:List Nat}{n:Nat}(h:4+n≤l.length):∀R Hx a b,(X.r a).ev R=.sl k (l.map eB)→(X.r b).ev R=.int .i64 ((4+n:Nat):Int)→al R Hx (.gp 1 (.r a) (some (.c (.int .i64 4))) (some (.r b)) none)=some (.sl (k.cut l.length 4 (4+n)) (((l.drop 4).take n).map eB),Hx):=fun R Hx a b ha hb=>by
 have:=GG (Hx:=Hx) (lo:=some (.c (.int .i64 4))) (hi:=some (.r b)) (a:=4) (b:=4+n) ha rfl (by simp -implicitDefEqProofs only[gh,hb,aa]) (by omega) h
 have e:(l.take (4+n)).drop 4=(l.drop 4).take n:=by rw[List.drop_take];congr 1;omega
 rw[e]at this
 exact this
theorem Z6 {v:Nat}(h:v*256<18446744073709551616):IntKind.u64.wrap ((v:Int)*2^(min (8:Int).toNat IntKind.u64.bits))=((v*256:Nat):Int):=by
 have e:(v:Int)*2^(min (8:Int).toNat IntKind.u64.bits)=((v*256:Nat):Int):=by
  show(v:Int)*256=_
  simp
 rw[e,gE h]
theorem or8 {v c:Nat}(h:v*256<18446744073709551616)(hc:c<256):IntKind.u64.wrap ((BitVec.ofInt IntKind.u64.bits ((v*256:Nat):Int) ||| BitVec.ofInt IntKind.u64.bits (c:Int)).toNat:Nat)=((v*256+c:Nat):Int):=by
 have e:(BitVec.ofInt IntKind.u64.bits ((v*256:Nat):Int) ||| BitVec.ofInt IntKind.u64.bits (c:Int)).toNat=v*256 ||| c:=TY 64 _ _ h (by omega)
 have e2:v*256 ||| c=v*256+c:=by
  rw[Nat.mul_comm]
  exact(Nat.two_pow_add_eq_or_of_lt (i:=8) (by omega) v).symm
 rw[e,e2,gE (by omega)]
theorem GH (l:List Nat)(c:Nat):nR 0 (l++[c])=nR 0 l*256+c:=by simp[nR]
def Vx (H:af)(c n:Nat)(l:List Nat):Out→af→Prop:=fun o H'=>match pN n l with
 | none=>o=.val (.bF [.int .u64 0,.bool false])∧RD H' c none∧bh (fun b=>b=c) H H'
 | some (v,_)=>o=.val (.bF [.int .u64 v,.bool true])∧H'=H
theorem LM {H:af}{c:Nat}(h:RD H c none)(n:Nat):W env (.call 115 [.ptr c 0,.int .i64 n]) H (fun o H'=>o=.val (.bF [.int .u64 0,.bool false])∧H'=H):=by
 obtain⟨k,rest,e,h1,h2,h3,h4⟩:=h.bad
 have e1:(e==0)=false:=by simpa using h4
 have e2:(e != 0)=true:=by simpa using h4
 refine W.bR rfl rfl rfl ?_
 simp -implicitDefEqProofs only[wV,op,ef,cl,sq,reduceIte,j4,j5,j6,j7,j8,j9,y1,y2,y3,S1,h1,e1,e2]
theorem AD {H:af}{c:Nat}{l:List Nat}(h:RD H c (some l))(n:Nat)(hn:n≤8):W env (.call 115 [.ptr c 0,.int .i64 n]) H (Vx H c n l):=by
 obtain⟨k,h1,h2,h3⟩:=h.ok
 have lc:=aW h1
 refine W.bR rfl rfl rfl ?_
 unfold Vx pN
 by_cases hs:l.length<n
 ·have eI:decide ((l.length:Int)<(n:Int))=true:=by simp;omega
  rw[if_pos hs]
  simp -implicitDefEqProofs only[wV,op,ef,cl,sq,reduceIte,j4,j5,j6,j7,j8,j9,y1,y2,y3,S1,h1,List.length_map,hs,eI,lc,S2]
  exact⟨RD.Vw (bU lc) h2 h3 (by decide),bh.set (F:=fun b=>b=c) (bh.refl _ _) (.inl rfl) _⟩
 ·rw[if_neg hs]
  have eI:decide ((l.length:Int)<(n:Int))=false:=by simp;omega
  have BP:=rq (k:=k) (l:=l) (n:=n) (by omega)
  obtain⟨lt,au⟩:∃lt,lt=l.take n:=⟨_,rfl⟩
  have aeG:lt.length=n:=by rw[au,List.length_take];omega
  have T9:dR lt:=by rw[au];exact h3.take n
  rw[←au]at BP ⊢
  simp -implicitDefEqProofs only[wV,op,ef,cl,sq,reduceIte,j4,j5,j6,j7,j8,j9,y1,y2,y3,S1,h1,List.length_map,hs,eI,↓BP]
  refine W.fW 0 [(36,_),(37,_)] (fun (i:Nat) R H'=>H'=H∧R 6=.int .u64 (nR 0 (lt.take i):Nat)∧R 38=.int .i64 i∧i≤lt.length) (fun i=>lt.length-i) 0
   (fun R H'=>H'=H∧R 6=.int .u64 (nR 0 lt:Nat)) ⟨rfl,rfl,rfl,Nat.zero_le _⟩ ?_ ?_
  ·rintro i R H1⟨rfl,g6,g38,hi⟩
   by_cases A6:i<lt.length
   rotate_left
   ·have mA:i=lt.length:=by omega
    rw[mA,List.take_length]at g6
    simp -implicitDefEqProofs only[ak,ai,op,ef,cl,sq,reduceIte,j4,j5,j6,j7,j8,j9,y1,y2,y3,S1,List.length_map,g6,g38,A6,dq]
   obtain⟨x,hx⟩:=cj A6
   have Ua:=T9 x (List.mem_of_getElem? hx)
   have ix:=fx (e:=eB) (n:=1) (fun _=>rfl) (by decide) (k:=k.cut l.length 0 n) hx
   have l4:=aC (show i<9223372036854775807 by omega)
   have ko:nR 0 (lt.take i)*256<18446744073709551616:=by
    have h5:=uR (lt.take i) 0 (T9.take i)
    have h6:(lt.take i).length≤7:=by rw[List.length_take];omega
    have h7:256^(lt.take i).length≤256^7:=Nat.pow_le_pow_right (by decide) h6
    have h8:(256:Nat)^7=72057594037927936:=by decide
    omega
   have wx:=gE (n:=x) (by omega)
   have a1:=Z6 ko
   have a2:=or8 ko Ua
   have n8:¬((8:Int)<0):=by decide
   simp -implicitDefEqProofs only[ak,ai,op,ef,cl,sq,reduceIte,j4,j5,j6,j7,j8,j9,y1,y2,y3,S1,List.length_map,g6,g38,A6,aa,ix,eB,cV,n8,a1,wx,a2,l4]
   exact⟨i+1,by omega,by rw[fj hx,GH],rfl,A6⟩
  rintro R H1⟨rfl,g6⟩
  simp -implicitDefEqProofs only[ak,ai,op,ef,cl,sq,reduceIte,j4,j5,j6,j7,j8,j9,y1,y2,y3,S1,g6]
def PZ (c:Nat)(t:T)(st:Option (List Nat))(H:af):Out→af→Prop:=fun o H'=>o=.val t∧RD H' c st∧bh (fun b=>b=c) H H'
def ej (n:Nat):Option (List Nat)→Nat×Option (List Nat)
 | none=>(0,none)
 | some l=>match pN n l with
  | none=>(0,none)
  | some (v,r)=>(v,some r)
theorem GI {n:Nat}{st:Option (List Nat)}(hb:∀l,st=some l→dR l):(ej n st).1<256^n:=by
 have hp:0<256^n:=Nat.pow_pos (by decide)
 cases st with
 | none=>exact hp
 | some l =>
  unfold ej
  simp only
  cases h:pN n l with
  | none=>exact hp
  | some x=>exact(iV (hb l rfl) h).2.1
theorem rv {H:af}{c:Nat}{st:Option (List Nat)}(h:RD H c st)(n:Nat)(hn:n≤8):W env (.call 89 [.ptr c 0,.int .i64 n]) H (PZ c (.int .u64 (ej n st).1) (ej n st).2 H):=by
 refine W.bR rfl rfl rfl ?_
 simp -implicitDefEqProofs only[NR,op,ef,cl,sq,reduceIte,j4,j5,j6,j7,j8,j9,y1,y2,y3,S1]
 cases st with
 | none =>
  refine ae _ _ _ _ _ _ _ _ (LM h n) ?_
  rintro u H1⟨hu,rfl⟩
  cases hu
  simp -implicitDefEqProofs only[op,ef,cl,sq,reduceIte,j4,j5,j6,j7,j8,j9,y1,y2,y3,S1]
  exact⟨rfl,h,bh.refl _ _⟩
 | some l =>
  obtain⟨k,h1,h2,h3⟩:=h.ok
  have lc:=aW h1
  refine ae _ _ _ _ _ _ _ _ (AD h n hn) ?_
  intro u H1 hq
  unfold Vx at hq
  cases hp:pN n l with
  | none =>
   have es:ej n (some l)=(0,none):=by simp -implicitDefEqProofs only[ej,hp]
   rw[hp]at hq
   rw[es]
   obtain⟨hu,hr,hk⟩:=hq
   cases hu
   simp -implicitDefEqProofs only[op,ef,cl,sq,reduceIte,j4,j5,j6,j7,j8,j9,y1,y2,y3,S1]
   exact⟨rfl,hr,hk⟩
  | some x =>
   obtain⟨v,r⟩:=x
   have es:ej n (some l)=(v,some r):=by simp -implicitDefEqProofs only[ej,hp]
   rw[hp]at hq
   rw[es]
   obtain⟨hu,rfl⟩:=hq
   cases hu
   have Hc:n≤l.length:=by
    unfold pN at hp;split at hp
    ·cases hp
    ·omega
   have hr:r=l.drop n:=by
    unfold pN at hp;rw[if_neg (by omega)]at hp
    simp -implicitDefEqProofs only[Option.some.injEq,Prod.mk.injEq]at hp;exact hp.2.symm
   have BP:=ru (k:=k) Hc
   simp -implicitDefEqProofs only[op,ef,cl,sq,reduceIte,j4,j5,j6,j7,j8,j9,y1,y2,y3,S1,h1,lc,↓BP,S2]
   subst hr
   refine⟨rfl,RD.Vv (k:=k.cut l.length n l.length) (bU lc) (by rw[List.length_drop];omega) (h3.drop n),bh.set (F:=fun b=>b=c) (bh.refl _ _) (.inl rfl) _⟩
theorem RD.byt {H:af}{c:Nat}{st:Option (List Nat)}(h:RD H c st):∀l,st=some l→dR l:=fun l e=>by subst e;obtain⟨_,_,_,h⟩:=h.ok;exact h
theorem Z7 {H:af}{c:Nat}{st:Option (List Nat)}(h:RD H c st):W env (.call 49 [.ptr c 0]) H (PZ c (.int .u32 (ej 4 st).1) (ej 4 st).2 H):=by
 have au:(ej 4 st).1<4294967296:=GI (n:=4) h.byt
 have wv:=wrap32 au
 refine W.bR rfl rfl rfl ?_
 simp -implicitDefEqProofs only[Nv,op,ef,cl,sq,reduceIte,j4,j5,j6,j7,j8,j9,y1,y2,y3,S1]
 refine ae _ _ _ _ _ _ _ _ (rv h 4 (by decide)) ?_
 rintro u H1⟨hu,hr,hk⟩
 cases hu
 simp -implicitDefEqProofs only[op,ef,cl,sq,reduceIte,j4,j5,j6,j7,j8,j9,y1,y2,y3,S1,wv]
 exact⟨rfl,hr,hk⟩
theorem Z8 {H:af}{c:Nat}{st:Option (List Nat)}(h:RD H c st):W env (.call 50 [.ptr c 0]) H (PZ c (.int .u8 (ej 1 st).1) (ej 1 st).2 H):=by
 have au:(ej 1 st).1<256:=GI (n:=1) h.byt
 have wv:=wW au
 refine W.bR rfl rfl rfl ?_
 simp -implicitDefEqProofs only[Nw,op,ef,cl,sq,reduceIte,j4,j5,j6,j7,j8,j9,y1,y2,y3,S1]
 refine ae _ _ _ _ _ _ _ _ (rv h 1 (by decide)) ?_
 rintro u H1⟨hu,hr,hk⟩
 cases hu
 simp -implicitDefEqProofs only[op,ef,cl,sq,reduceIte,j4,j5,j6,j7,j8,j9,y1,y2,y3,S1,wv]
 exact⟨rfl,hr,hk⟩
theorem OY {H:af}{c:Nat}{st:Option (List Nat)}(h:RD H c st):W env (.call 51 [.ptr c 0]) H (PZ c (.int .u64 (ej 8 st).1) (ej 8 st).2 H):=by
 refine W.bR rfl rfl rfl ?_
 simp -implicitDefEqProofs only[Nx,op,ef,cl,sq,reduceIte,j4,j5,j6,j7,j8,j9,y1,y2,y3,S1]
 refine ae _ _ _ _ _ _ _ _ (rv h 8 (by decide)) ?_
 rintro u H1⟨hu,hr,hk⟩
 cases hu
 simp -implicitDefEqProofs only[op,ef,cl,sq,reduceIte,j4,j5,j6,j7,j8,j9,y1,y2,y3,S1]
 exact⟨rfl,hr,hk⟩
def pC (m:Nat)(l:List Nat):Option (Nat×List Nat):=match pN 4 l with
 | none=>none
 | some (v,r)=>if m<v then none else some (v,r)
def Vy (H:af)(c m:Nat)(l:List Nat):Out→af→Prop:=fun o H'=>match pC m l with
 | none=>o=.val (.bF [.int .i64 0,.bool false])∧RD H' c none∧bh (fun b=>b=c) H H'
 | some (v,_)=>o=.val (.bF [.int .i64 v,.bool true])∧H'=H
theorem xr {H:af}{c:Nat}(h:RD H c none)(m:Nat)(hm:m<9223372036854775808):W env (.call 90 [.ptr c 0,.int .i64 m]) H (fun o H'=>o=.val (.bF [.int .i64 0,.bool false])∧H'=H):=by
 refine W.bR rfl rfl rfl ?_
 simp -implicitDefEqProofs only[Jr,op,ef,cl,sq,reduceIte,j4,j5,j6,j7,j8,j9,y1,y2,y3,S1]
 refine ae _ _ _ _ _ _ _ _ (LM h 4) ?_
 rintro u H1⟨hu,rfl⟩
 cases hu
 have w0:IntKind.i64.wrap 0=0:=rfl
 simp -implicitDefEqProofs only[op,ef,cl,sq,reduceIte,j4,j5,j6,j7,j8,j9,y1,y2,y3,S1,w0]
theorem tK {H:af}{c:Nat}{l:List Nat}(h:RD H c (some l))(m:Nat)(hm:m<9223372036854775808):W env (.call 90 [.ptr c 0,.int .i64 m]) H (Vy H c m l):=by
 obtain⟨k,h1,h2,h3⟩:=h.ok
 have lc:=aW h1
 refine W.bR rfl rfl rfl ?_
 simp -implicitDefEqProofs only[Jr,op,ef,cl,sq,reduceIte,j4,j5,j6,j7,j8,j9,y1,y2,y3,S1]
 refine ae _ _ _ _ _ _ _ _ (AD h 4 (by decide)) ?_
 intro u H1 hq
 unfold Vx at hq
 unfold Vy pC
 cases hp:pN 4 l with
 | none =>
  rw[hp]at hq
  obtain⟨hu,hr,hk⟩:=hq
  cases hu
  have w0:IntKind.i64.wrap 0=0:=rfl
  simp -implicitDefEqProofs only[op,ef,cl,sq,reduceIte,j4,j5,j6,j7,j8,j9,y1,y2,y3,S1,w0]
  exact⟨hr,hk⟩
 | some x =>
  obtain⟨v,r⟩:=x
  rw[hp]at hq
  obtain⟨hu,rfl⟩:=hq
  cases hu
  have hv:=(iV h3 hp).2.1
  have hv:v<4294967296:=hv
  have e0:(if (0:Int)>(m:Int)then(0:Int)else(m:Int))=(m:Int):=if_neg (by omega)
  have wm:=gE (n:=m) (by omega)
  by_cases hb:m<v
  ·have e1:decide ((v:Int)>(m:Int))=true:=by simp;omega
   simp -implicitDefEqProofs only[op,ef,cl,sq,reduceIte,j4,j5,j6,j7,j8,j9,y1,y2,y3,S1,e0,wm,e1,h1,lc,S2,hb]
   exact⟨RD.Vw (bU lc) h2 h3 (by decide),bh.set (F:=fun b=>b=c) (bh.refl _ _) (.inl rfl) _⟩
  ·have e1:decide ((v:Int)>(m:Int))=false:=by simp;omega
   have wv:IntKind.i64.wrap (v:Int)=(v:Int):=wrap64 (by omega)
   simp -implicitDefEqProofs only[op,ef,cl,sq,reduceIte,j4,j5,j6,j7,j8,j9,y1,y2,y3,S1,e0,wm,e1,hb,wv]
end Go.Proofs.YtdcpehdijdllpaaGreat.St
end
