/- Part of a proof of a law of this seat: the machine of plain values, its simulation, and the contracts of the functions that the law reaches. Conditions: none beyond the given row. -/
import Derived.Test.YtmgldhlcapjdkaaGreatM2
open Int renaming reduceLT → j2, reduceLE → j3, reduceBEq → j4, reduceBNe → j5, reduceEq → j6
open Nat renaming reduceAdd → j7, reduceLeDiff → j8, reduceLT → j9, reduceEqDiff → y1
set_option linter.unusedSimpArgs false
set_option linter.unusedVariables false
set_option linter.unnecessarySimpa false
set_option maxHeartbeats 4000000
section
namespace Go.Proofs.YtmgldhlcapjdkaaGreat.St
open Go.Rmp Go.Proofs.YtmgldhlcapjdkaaGreat.Ir
set_option maxRecDepth 10000
set_option maxHeartbeats 8000000
section
variable {c n i j:Nat} {d:Array ByteArray}
theorem ah (h:i<n):eW 1 i (.aB c 0 n 1)=some (.ptr c (i*1)):=by rw[fh];simp[h]
theorem dS {l:List ByteArray}:(aK eS l).length=l.length*1:=by rw[cC (n:=1) (fun _=>rfl)]
theorem ai (h:i<d.size):(i*1+1≤(aK eS d.toList).length)=True:=by rw[dS];simp;omega
theorem aj (h:i<d.size):List.take 1 (List.drop (i*1) (aK eS d.toList))=[.str d[i]!]:=by
 have:=gJ h
 rw[mD,if_pos (by rw[dS];simp;omega)]at this
 exact Option.some.inj this
theorem ak {x:ByteArray}(h:i<d.size):(i*1+1≤(aK eS (d.toList.set j x)).length)=True:=by rw[dS];simp;omega
theorem aq (h:i<d.size)(h':j<d.size):(List.take (i*1) (aK eS d.toList)++[.str d[j]!])++List.drop (i*1+1) (aK eS d.toList)=aK eS (d.toList.set i d[j]!):=by
 have:=(dR (Hx:=[.cells []]) (c:=0) d h h').1
 rw[kJ,if_pos (by rw[dS];simp;omega)]at this
 simpa using this
theorem ar (h:i<d.size)(h':j<d.size):(List.take (j*1) (aK eS (d.toList.set i d[j]!))++[.str d[i]!])++List.drop (j*1+1) (aK eS (d.toList.set i d[j]!))=aK eS (Go.Sort.swp d i j).toList:=by
 have:=(dR (Hx:=[.cells []]) (c:=0) d h h').2 [.cells []]
 rw[kJ,if_pos (by rw[dS];simp;omega)]at this
 simpa using this
end
open Go.Sort in
def bV (c n:Nat)(H:ae)(P:Array ByteArray→Prop)(H':ae):Prop:=∃d:Array ByteArray,H'[c]?=some (.cells (aK eS d.toList))∧d.size=n∧P d∧bX (fun x=>x=c) H H'
open Go.Sort in
theorem bV.swp {c n:Nat}{H H1:ae}{P:Array ByteArray→Prop}{y x:B}{d':Array ByteArray}(hd:H1[c]?=some y)(hs:d'.size=n)(hP:P d')(hf:bX (fun x=>x=c) H H1):bV c n H P ((H1.set c x).set c (.cells (aK eS d'.toList))) :=
 ⟨d',gh (by rw[List.length_set];exact bo hd),hs,hP,(hf.set (.inl rfl) _).set (.inl rfl) _⟩
open Go.Sort in
def fU (c n:Nat)(d':Array ByteArray)(H:ae):Out→ae→Prop:=fun o H'=>o=.val (.bC [])∧bV c n H (fun x=>x=d') H'
open Go.Sort in
theorem Cb (c n:Nat)(d:Array ByteArray)(a b:Nat)(H:ae)(hn:d.size=n)(hc:H[c]?=some (.cells (aK eS d.toList)))(hb:b≤n)(ga:a<b)(hs:n<4611686018427387903) :
  W env (.call 202 [.aB c 0 n 1,.int .i64 a,.int .i64 b]) H (fU c n (reverseRange d a b) H):=by
 refine W.cQ rfl rfl rfl ?_
 simp -implicitDefEqProofs (maxSteps:=1000000) (disch:=omega) only[BR,op,ef,cl,sq,reduceIte,j2,j3,j4,j5,j6,j7,j8,j9,y1,S1,aO]
 refine W.fg (fun (i:Nat) R H'=>At H' (fun H'=>∃j,R 7=.int .i64 (j:Nat)∧i+j=a+b-1∧a≤i∧bV c n H (fun di=>reverseLoop i j di=reverseRange d a b) H')∧R 0=.aB c 0 n 1∧R 6=.int .i64 i) (fun i=>a+b-i) a ⟨.i ⟨b-1,rfl,by omega,Nat.le_refl _,d,hc,hn,rfl,bX.refl _ _⟩,rfl,rfl⟩ ?_
 rintro i R H1⟨⟨j,h9,GM,Cc,di,hd,aQ,uS,ay⟩,h0,h8⟩
 have lc:=bo hd
 by_cases aE:i<j
 ·simp -implicitDefEqProofs (maxSteps:=1000000) (disch:=omega) only[aa,ah,ai,aj,ak,aq,ar,wA,aP,wS,aO,wM,S2,op,ef,cl,sq,reduceIte,j2,j3,j4,j5,j6,j7,j8,j9,y1,S1,h0,h8,h9,aE,hd,lc]
  exact⟨i+1,by omega,.i ⟨j-1,rfl,by omega,by omega,.swp hd (by rw[swp_size];exact aQ) (by rw[←uS];conv=>{ rhs;rw[reverseLoop,if_pos aE] }) ay⟩,rfl⟩
 ·simp -implicitDefEqProofs only[op,ef,cl,sq,reduceIte,j2,j3,j4,j5,j6,j7,j8,j9,y1,S1,h0,h8,h9,aE]
  rw[reverseLoop,if_neg aE]at uS
  exact⟨rfl,di,hd,aQ,uS,ay⟩
open Go.Sort in
theorem lP (c n:Nat)(d:Array ByteArray)(lo hi first:Nat)(H:ae)(hn:d.size=n)(hc:H[c]?=some (.cells (aK eS d.toList)))(hb:first+hi≤n)(pF:lo≤n)(hs:n<2305843009213693951) :
  W env (.call 210 [.aB c 0 n 1,.int .i64 lo,.int .i64 hi,.int .i64 first]) H (fU c n (siftDown strLt hi first lo d) H):=by
 refine W.cQ rfl rfl rfl ?_
 simp -implicitDefEqProofs only[BV,op,ef,cl,sq,reduceIte,j2,j3,j4,j5,j6,j7,j8,j9,y1,S1]
 refine W.fg (fun (r:Nat) R H'=>At H' (fun H'=>bV c n H (fun di=>siftDown strLt hi first r di=siftDown strLt hi first lo d) H')∧R 0=.aB c 0 n 1∧R 2=.int .i64 hi∧R 3=.int .i64 first∧R 0=.aB c 0 n 1∧R 8=.int .i64 r∧r≤n) (fun r=>hi-r) lo ⟨.i ⟨d,hc,hn,rfl,bX.refl _ _⟩,rfl,rfl,rfl,rfl,rfl,pF⟩ ?_
 rintro r R H1⟨⟨di,hd,aQ,hP,ay⟩,h0,h2,h3,h4,aG,hr⟩
 have lc:=bo hd
 by_cases dD:2*r+1≥hi
 ·simp -implicitDefEqProofs (maxSteps:=1000000) (disch:=omega) only[aa,ah,ai,aj,ak,aq,ar,wA,aP,wS,aO,wM,S2,op,ef,cl,sq,reduceIte,j2,j3,j4,j5,j6,j7,j8,j9,y1,S1,h0,h2,h3,h4,aG,dD]
  rw[siftDown,dif_pos dD]at hP
  exact⟨rfl,di,hd,aQ,hP,ay⟩
 by_cases dg:2*r+1+1<hi
 ·simp -implicitDefEqProofs (maxSteps:=1000000) (disch:=omega) only[aa,ah,ai,aj,ak,aq,ar,wA,aP,wS,aO,wM,S2,op,ef,cl,sq,reduceIte,j2,j3,j4,j5,j6,j7,j8,j9,y1,S1,h0,h2,h3,h4,aG,dD,dg,hd,lc]
  refine af _ _ _ _ _ _ _ _ (aX di[first+(2*r+1)]! di[first+(2*r+1)+1]! _) ?_
  rintro u H2⟨hu,dk⟩
  cases hu
  have hx:Ext H1 H2:=by rw[dk];exact Ext.rfl'
  have hd:=hx.get hd
  have lc:=bo hd
  have ay:=ay.trans (aN (F:=fun _=>False) hx) (fun _ h=>h.elim)
  have ct:strLt di[first+(2*r+1)]! di[first+(2*r+1)+1]! = decide (strLt di[first+(2*r+1)]! di[first+(2*r+1)+1]! = true):=by simp
  by_cases c1:strLt di[first+(2*r+1)]! di[first+(2*r+1)+1]! = true
  ·simp -implicitDefEqProofs (maxSteps:=1000000) (disch:=omega) only[aa,ah,ai,aj,ak,aq,ar,wA,aP,wS,aO,wM,S2,op,ef,cl,sq,reduceIte,j2,j3,j4,j5,j6,j7,j8,j9,y1,S1,h0,h2,h3,h4,aG,dD,dg,hd,lc,c1]
   refine af _ _ _ _ _ _ _ _ (aX di[first+r]! di[first+(2*r+1+1)]! _) ?_
   rintro u H3⟨hu,dk⟩
   cases hu
   have hx:Ext H2 H3:=by rw[dk];exact Ext.rfl'
   have hd:=hx.get hd
   have lc:=bo hd
   have ay:=ay.trans (aN (F:=fun _=>False) hx) (fun _ h=>h.elim)
   have tC:strLt di[first+r]! di[first+(2*r+1+1)]! = decide (strLt di[first+r]! di[first+(2*r+1+1)]! = true):=by simp
   by_cases c2:strLt di[first+r]! di[first+(2*r+1+1)]! = true
   ·simp -implicitDefEqProofs (maxSteps:=1000000) (disch:=omega) only[aa,ah,ai,aj,ak,aq,ar,wA,aP,wS,aO,wM,S2,op,ef,cl,sq,reduceIte,j2,j3,j4,j5,j6,j7,j8,j9,y1,S1,h0,h2,h3,h4,aG,dD,dg,hd,lc,c2]
    refine⟨2*r+1+1,by omega,.i (.swp hd (by rw[swp_size];exact aQ) ?_ ay),rfl,by omega⟩
    rw[←hP]
    conv=>{ rhs;rw[siftDown,dif_neg dD,if_pos (eb (bB dg) (ct.trans (bB c1))),if_neg (iM (tC.trans (bB c2))),dif_pos dg] }
   ·simp -implicitDefEqProofs (maxSteps:=1000000) (disch:=omega) only[aa,ah,ai,aj,ak,aq,ar,wA,aP,wS,aO,wM,S2,op,ef,cl,sq,reduceIte,j2,j3,j4,j5,j6,j7,j8,j9,y1,S1,h0,h2,h3,h4,aG,dD,dg,hd,lc,c2]
    rw[siftDown,dif_neg dD,if_pos (eb (bB dg) (ct.trans (bB c1))),if_pos (dA (tC.trans (bw c2)))]at hP
    exact⟨rfl,di,hd,aQ,hP,ay⟩
  ·simp -implicitDefEqProofs (maxSteps:=1000000) (disch:=omega) only[aa,ah,ai,aj,ak,aq,ar,wA,aP,wS,aO,wM,S2,op,ef,cl,sq,reduceIte,j2,j3,j4,j5,j6,j7,j8,j9,y1,S1,h0,h2,h3,h4,aG,dD,dg,hd,lc,c1]
   refine af _ _ _ _ _ _ _ _ (aX di[first+r]! di[first+(2*r+1)]! _) ?_
   rintro u H3⟨hu,dk⟩
   cases hu
   have hx:Ext H2 H3:=by rw[dk];exact Ext.rfl'
   have hd:=hx.get hd
   have lc:=bo hd
   have ay:=ay.trans (aN (F:=fun _=>False) hx) (fun _ h=>h.elim)
   have tC:strLt di[first+r]! di[first+(2*r+1)]! = decide (strLt di[first+r]! di[first+(2*r+1)]! = true):=by simp
   by_cases c2:strLt di[first+r]! di[first+(2*r+1)]! = true
   ·simp -implicitDefEqProofs (maxSteps:=1000000) (disch:=omega) only[aa,ah,ai,aj,ak,aq,ar,wA,aP,wS,aO,wM,S2,op,ef,cl,sq,reduceIte,j2,j3,j4,j5,j6,j7,j8,j9,y1,S1,h0,h2,h3,h4,aG,dD,dg,hd,lc,c2]
    refine⟨2*r+1,by omega,.i (.swp hd (by rw[swp_size];exact aQ) ?_ ay),rfl,by omega⟩
    rw[←hP]
    conv=>{ rhs;rw[siftDown,dif_neg dD,if_neg (cN (ct.trans (bw c1))),if_neg (iM (tC.trans (bB c2)))] }
   ·simp -implicitDefEqProofs (maxSteps:=1000000) (disch:=omega) only[aa,ah,ai,aj,ak,aq,ar,wA,aP,wS,aO,wM,S2,op,ef,cl,sq,reduceIte,j2,j3,j4,j5,j6,j7,j8,j9,y1,S1,h0,h2,h3,h4,aG,dD,dg,hd,lc,c2]
    rw[siftDown,dif_neg dD,if_neg (cN (ct.trans (bw c1))),if_pos (dA (tC.trans (bw c2)))]at hP
    exact⟨rfl,di,hd,aQ,hP,ay⟩
 ·simp -implicitDefEqProofs (maxSteps:=1000000) (disch:=omega) only[aa,ah,ai,aj,ak,aq,ar,wA,aP,wS,aO,wM,S2,op,ef,cl,sq,reduceIte,j2,j3,j4,j5,j6,j7,j8,j9,y1,S1,h0,h2,h3,h4,aG,dD,dg,hd,lc]
  try simp -implicitDefEqProofs only[op,ef,cl,sq,reduceIte,j2,j3,j4,j5,j6,j7,j8,j9,y1,S1]
  try simp -implicitDefEqProofs (maxSteps:=1000000) (disch:=omega) only[aa,ah,ai,aj,ak,aq,ar,wA,aP,wS,aO,wM,S2,op,ef,cl,sq,reduceIte,j2,j3,j4,j5,j6,j7,j8,j9,y1,S1,h0,h2,h3,h4,aG,dD,dg,hd,lc]
  refine af _ _ _ _ _ _ _ _ (aX di[first+r]! di[first+(2*r+1)]! _) ?_
  rintro u H3⟨hu,dk⟩
  cases hu
  have hx:Ext H1 H3:=by rw[dk];exact Ext.rfl'
  have hd:=hx.get hd
  have lc:=bo hd
  have ay:=ay.trans (aN (F:=fun _=>False) hx) (fun _ h=>h.elim)
  have tC:strLt di[first+r]! di[first+(2*r+1)]! = decide (strLt di[first+r]! di[first+(2*r+1)]! = true):=by simp
  by_cases c2:strLt di[first+r]! di[first+(2*r+1)]! = true
  ·simp -implicitDefEqProofs (maxSteps:=1000000) (disch:=omega) only[aa,ah,ai,aj,ak,aq,ar,wA,aP,wS,aO,wM,S2,op,ef,cl,sq,reduceIte,j2,j3,j4,j5,j6,j7,j8,j9,y1,S1,h0,h2,h3,h4,aG,dD,dg,hd,lc,c2]
   refine⟨2*r+1,by omega,.i (.swp hd (by rw[swp_size];exact aQ) ?_ ay),rfl,by omega⟩
   rw[←hP]
   conv=>{ rhs;rw[siftDown,dif_neg dD,if_neg (cz (bw dg)),if_neg (iM (tC.trans (bB c2)))] }
  ·simp -implicitDefEqProofs (maxSteps:=1000000) (disch:=omega) only[aa,ah,ai,aj,ak,aq,ar,wA,aP,wS,aO,wM,S2,op,ef,cl,sq,reduceIte,j2,j3,j4,j5,j6,j7,j8,j9,y1,S1,h0,h2,h3,h4,aG,dD,dg,hd,lc,c2]
   rw[siftDown,dif_neg dD,if_neg (cz (bw dg)),if_pos (dA (tC.trans (bw c2)))]at hP
   exact⟨rfl,di,hd,aQ,hP,ay⟩
open Go.Sort in
theorem uT (c n:Nat)(d:Array ByteArray)(a b:Nat)(H:ae)(hn:d.size=n)(hc:H[c]?=some (.cells (aK eS d.toList)))(hb:b≤n)(ga:a<b)(hs:n<2305843009213693951) :
  W env (.call 199 [.aB c 0 n 1,.int .i64 a,.int .i64 b]) H (fU c n (heapSort strLt d a b) H):=by
 refine W.cQ rfl rfl rfl ?_
 simp -implicitDefEqProofs (maxSteps:=1000000) (disch:=omega) only[BP,aa,ah,ai,aj,ak,aq,ar,wA,aP,wS,aO,wM,S2,op,ef,cl,sq,reduceIte,j2,j3,j4,j5,j6,j7,j8,j9,y1,S1,Sp]
 refine W.bU 0 (fun (k:Nat) R H'=>At H' (fun H'=>bV c n H (fun di=>heapBuild strLt (b-a) a k di=heapBuild strLt (b-a) a ((b-a-1)/2+1) d) H')∧R 0=.aB c 0 n 1∧R 0=.aB c 0 n 1∧R 6=.int .i64 a∧R 7=.int .i64 0∧R 8=.int .i64 (b-a:Nat)∧R 9=.int .i64 ((k:Int)-1)∧k≤b-a) (fun k=>k) ((b-a-1)/2+1)
  (fun R H'=>At H' (fun H'=>bV c n H (fun di=>di=heapBuild strLt (b-a) a ((b-a-1)/2+1) d) H')∧R 0=.aB c 0 n 1∧R 0=.aB c 0 n 1∧R 6=.int .i64 a∧R 7=.int .i64 0∧R 8=.int .i64 (b-a:Nat))
  ⟨.i ⟨d,hc,hn,rfl,bX.refl _ _⟩,rfl,rfl,rfl,rfl,rfl,by simp[kQ],by omega⟩ ?_ ?_
 ·rintro k R H1⟨⟨di,hd,aQ,hP,ay⟩,h0,h3,h8,h9,aG,aM,hk⟩
  cases k with
  | zero =>
   rw[show(((0:Nat):Int)-1)=-1 from rfl]at aM
   simp -implicitDefEqProofs (maxSteps:=1000000) (disch:=omega) only[aa,ah,ai,aj,ak,aq,ar,wA,aP,wS,aO,wM,S2,op,ef,cl,sq,reduceIte,j2,j3,j4,j5,j6,j7,j8,j9,y1,S1,h0,h3,h8,h9,aG,aM]
   exact .i ⟨di,hd,aQ,hP,ay⟩
  | succ k =>
   rw[show(((k+1:Nat):Int)-1)=(k:Int) by omega]at aM
   simp -implicitDefEqProofs (maxSteps:=1000000) (disch:=omega) only[aa,ah,ai,aj,ak,aq,ar,wA,aP,wS,aO,wM,S2,op,ef,cl,sq,reduceIte,j2,j3,j4,j5,j6,j7,j8,j9,y1,S1,h0,h3,h8,h9,aG,aM,ET]
   refine af _ _ _ _ _ _ _ _ (lP c n di k (b-a) a _ aQ hd (by omega) (by omega) hs) ?_
   rintro u H2⟨hu,d2,bm,fo,rfl,cR⟩
   cases hu
   simp -implicitDefEqProofs (maxSteps:=1000000) (disch:=omega) only[NR,op,ef,cl,sq,reduceIte,j2,j3,j4,j5,j6,j7,j8,j9,y1,S1,h0,h3,h8,h9,aG,aM]
   exact⟨k,by omega,.i ⟨_,bm,fo,hP,ay.trans cR fun _ h=>.inl h⟩,rfl,by omega⟩
 ·rintro R H1⟨⟨di,hd,aQ,hP,ay⟩,h0,h3,h8,h9,aG⟩
  simp -implicitDefEqProofs (maxSteps:=1000000) (disch:=omega) only[aa,ah,ai,aj,ak,aq,ar,wA,aP,wS,aO,wM,S2,op,ef,cl,sq,reduceIte,j2,j3,j4,j5,j6,j7,j8,j9,y1,S1,h0,h3,h8,h9,aG]
  refine W.fg (fun (k:Nat) R H'=>At H' (fun H'=>bV c n H (fun di=>heapPop strLt a k di=heapSort strLt d a b) H')∧R 0=.aB c 0 n 1∧R 0=.aB c 0 n 1∧R 6=.int .i64 a∧R 7=.int .i64 0∧R 8=.int .i64 (b-a:Nat)∧R 10=.int .i64 ((k:Int)-1)∧k≤b-a) (fun k=>k) (b-a) ⟨.i ⟨di,hd,aQ,by rw[hP];rfl,ay⟩,?_,?_,?_,?_,?_,?_,Nat.le_refl _⟩ ?_
  ·simp -implicitDefEqProofs only[op,ef,cl,sq,reduceIte,j2,j3,j4,j5,j6,j7,j8,j9,y1,S1,h0]
  ·simp -implicitDefEqProofs only[op,ef,cl,sq,reduceIte,j2,j3,j4,j5,j6,j7,j8,j9,y1,S1,h3]
  ·simp -implicitDefEqProofs only[op,ef,cl,sq,reduceIte,j2,j3,j4,j5,j6,j7,j8,j9,y1,S1,h8]
  ·simp -implicitDefEqProofs only[op,ef,cl,sq,reduceIte,j2,j3,j4,j5,j6,j7,j8,j9,y1,S1,h9]
  ·simp -implicitDefEqProofs only[op,ef,cl,sq,reduceIte,j2,j3,j4,j5,j6,j7,j8,j9,y1,S1,aG]
  ·simp -implicitDefEqProofs only[op,ef,cl,sq,reduceIte,j2,j3,j4,j5,j6,j7,j8,j9,y1,S1];omega
  rintro k R H1⟨⟨di,hd,aQ,hP,ay⟩,h0,h3,h8,h9,aG,aF,hk⟩
  have lc:=bo hd
  cases k with
  | zero =>
   rw[show(((0:Nat):Int)-1)=-1 from rfl]at aF
   simp -implicitDefEqProofs (maxSteps:=1000000) (disch:=omega) only[aa,ah,ai,aj,ak,aq,ar,wA,aP,wS,aO,wM,S2,op,ef,cl,sq,reduceIte,j2,j3,j4,j5,j6,j7,j8,j9,y1,S1,h0,h3,h8,h9,aG,aF]
   exact⟨rfl,di,hd,aQ,hP,ay⟩
  | succ k =>
   rw[show(((k+1:Nat):Int)-1)=(k:Int) by omega]at aF
   simp -implicitDefEqProofs (maxSteps:=1000000) (disch:=omega) only[aa,ah,ai,aj,ak,aq,ar,wA,aP,wS,aO,wM,S2,op,ef,cl,sq,reduceIte,j2,j3,j4,j5,j6,j7,j8,j9,y1,S1,h0,h3,h8,h9,aG,aF,ET,hd,lc]
   obtain⟨d1,oc,xM,rfl,l5⟩:=bV.swp (n:=n) (P:=fun x=>x=swp di a (a+k)) (x:=.cells (aK eS (di.toList.set a di[a+k]!))) hd (by rw[Go.Sort.swp_size];exact aQ) rfl ay
   refine af _ _ _ _ _ _ _ _ (lP c n _ 0 k a _ xM oc (by omega) (by omega) hs) ?_
   rintro u H2⟨hu,d2,bm,fo,rfl,cR⟩
   cases hu
   simp -implicitDefEqProofs (maxSteps:=1000000) (disch:=omega) only[NR,op,ef,cl,sq,reduceIte,j2,j3,j4,j5,j6,j7,j8,j9,y1,S1,h0,h3,h8,h9,aG,aF]
   exact⟨k,by omega,.i ⟨_,bm,fo,hP,l5.trans cR fun _ h=>.inl h⟩,rfl,by omega⟩
open Go.Sort in
theorem kL (c n p sw:Nat)(d:Array ByteArray)(a b:Nat)(H:ae)(hn:d.size=n)(hc:H[c]?=some (.cells (aK eS d.toList)))(hp:H[p]?=some (.cells [.int .i64 sw]))(ha:a<n)(hb:b<n)(hs:n<2305843009213693951)(IJ:sw<1000) :
  W env (.call 214 [.aB c 0 n 1,.int .i64 a,.int .i64 b,.ptr p 0]) H (MI p (order2 strLt d a b sw) H):=by
 refine W.cQ rfl rfl rfl ?_
 have hd:=hc
 have ay:=bX.refl (fun x=>x=p) H
 simp -implicitDefEqProofs (maxSteps:=1000000) (disch:=omega) only[BZ,aa,ah,ai,aj,ak,aq,ar,wA,aP,wS,aO,wM,S2,op,ef,cl,sq,reduceIte,j2,j3,j4,j5,j6,j7,j8,j9,y1,S1,hd]
 refine af _ _ _ _ _ _ _ _ (aX d[b]! d[a]! _) ?_
 rintro u H1⟨hu,dk⟩
 cases hu
 have hx:Ext H H1:=by rw[dk];exact Ext.rfl'
 have hd:=hx.get hd
 have lc:=bo hd
 have ay:=ay.trans (aN (F:=fun _=>False) hx) (fun _ h=>h.elim)
 have iX:=hx.get hp
 have lp:=bo iX
 have ct:strLt d[b]! d[a]! = decide (strLt d[b]! d[a]! = true):=by simp
 by_cases c1:strLt d[b]! d[a]! = true
 ·simp -implicitDefEqProofs (maxSteps:=1000000) (disch:=omega) only[aa,ah,ai,aj,ak,aq,ar,wA,aP,wS,aO,wM,S2,op,ef,cl,sq,reduceIte,j2,j3,j4,j5,j6,j7,j8,j9,y1,S1,hd,c1,iX,lp]
  refine⟨?_,?_,?_⟩
  ·rw[order2,if_pos (ct.trans (bB c1))]
  ·rw[order2,if_pos (ct.trans (bB c1))];exact gh lp
  ·exact ay.set (.inl rfl) _
 ·simp -implicitDefEqProofs (maxSteps:=1000000) (disch:=omega) only[aa,ah,ai,aj,ak,aq,ar,wA,aP,wS,aO,wM,S2,op,ef,cl,sq,reduceIte,j2,j3,j4,j5,j6,j7,j8,j9,y1,S1,hd,c1,iX,lp]
  refine⟨?_,?_,?_⟩
  ·rw[order2,if_neg (by rw[ct,bw c1];simp)]
  ·rw[order2,if_neg (by rw[ct,bw c1];simp)];exact iX
  ·exact ay
open Go.Sort in
theorem iH (d:Array ByteArray){n a b sw:Nat}(ha:a<n)(hb:b<n):(Go.Sort.order2 strLt d a b sw).1<n∧(Go.Sort.order2 strLt d a b sw).2.1<n∧(Go.Sort.order2 strLt d a b sw).2.2≤sw+1:=by
 unfold Go.Sort.order2
 split
 ·exact⟨hb,ha,Nat.le_refl _⟩
 ·exact⟨ha,hb,Nat.le_succ _⟩
open Go.Sort in
theorem kM (c n p sw:Nat)(d:Array ByteArray)(a b e:Nat)(H:ae)(hn:d.size=n)(hc:H[c]?=some (.cells (aK eS d.toList)))(hp:H[p]?=some (.cells [.int .i64 sw]))(mI:¬c=p)(ha:a<n)(hb:b<n)(he:e<n)(hs:n<2305843009213693951)(IJ:sw<900) :
  W env (.call 212 [.aB c 0 n 1,.int .i64 a,.int .i64 b,.int .i64 e,.ptr p 0]) H (fun o H'=>EU p (median strLt d a b e sw) H o H'∧(median strLt d a b e sw).1<n∧(median strLt d a b e sw).2≤sw+3):=by
 refine W.cQ rfl rfl rfl ?_
 simp -implicitDefEqProofs only[BX,op,ef,cl,sq,reduceIte,j2,j3,j4,j5,j6,j7,j8,j9,y1,S1]
 refine af _ _ _ _ _ _ _ _ (kL c n p sw d a b _ hn hc hp ha hb hs (by omega)) ?_
 rintro u H1⟨hu,iX,l5⟩
 cases hu
 have lz:=l5.get hc mI
 obtain⟨r1,yg⟩:∃r,r=order2 strLt d a b sw:=⟨_,rfl⟩
 obtain⟨q1,q2,q3⟩:=iH d (sw:=sw) ha hb
 rw[←yg]at q1 q2 q3 iX ⊢
 try simp -implicitDefEqProofs only[op,ef,cl,sq,reduceIte,j2,j3,j4,j5,j6,j7,j8,j9,y1,S1]
 refine af _ _ _ _ _ _ _ _ (kL c n p r1.2.2 d r1.2.1 e _ hn lz iX q2 he hs (by omega)) ?_
 rintro u H2⟨hu,oj,cR⟩
 cases hu
 have o8:=cR.get lz mI
 obtain⟨r2,Et⟩:∃r,r=order2 strLt d r1.2.1 e r1.2.2:=⟨_,rfl⟩
 obtain⟨q4,q5,q6⟩:=iH d (sw:=r1.2.2) q2 he
 rw[←Et]at q4 q5 q6 oj ⊢
 try simp -implicitDefEqProofs only[op,ef,cl,sq,reduceIte,j2,j3,j4,j5,j6,j7,j8,j9,y1,S1]
 refine af _ _ _ _ _ _ _ _ (kL c n p r2.2.2 d r1.1 r2.1 _ hn o8 oj q1 q4 hs (by omega)) ?_
 rintro u H3⟨hu,C5,tD⟩
 cases hu
 obtain⟨q7,q8,q9⟩:=iH d (sw:=r2.2.2) q1 q4
 have e:median strLt d a b e sw=((order2 strLt d r1.1 r2.1 r2.2.2).2.1,(order2 strLt d r1.1 r2.1 r2.2.2).2.2):=by rw[median,←yg,←Et]
 rw[e]
 try simp -implicitDefEqProofs only[op,ef,cl,sq,reduceIte,j2,j3,j4,j5,j6,j7,j8,j9,y1,S1]
 exact⟨⟨rfl,C5,(l5.trans cR fun _ h=>.inl h).trans tD fun _ h=>.inl h⟩,q8,by omega⟩
open Go.Sort in
theorem iI (c n p sw:Nat)(d:Array ByteArray)(a:Nat)(H:ae)(hn:d.size=n)(hc:H[c]?=some (.cells (aK eS d.toList)))(hp:H[p]?=some (.cells [.int .i64 sw]))(mI:¬c=p)(ha:1≤a)(o6:a+1<n)(hs:n<2305843009213693951)(IJ:sw<900) :
  W env (.call 211 [.aB c 0 n 1,.int .i64 a,.ptr p 0]) H (fun o H'=>EU p (medianAdjacent strLt d a sw) H o H'∧(medianAdjacent strLt d a sw).1<n∧(medianAdjacent strLt d a sw).2≤sw+3):=by
 refine W.cQ rfl rfl rfl ?_
 simp -implicitDefEqProofs (maxSteps:=1000000) (disch:=omega) only[BW,aa,ah,ai,aj,ak,aq,ar,wA,aP,wS,aO,wM,S2,op,ef,cl,sq,reduceIte,j2,j3,j4,j5,j6,j7,j8,j9,y1,S1]
 refine af _ _ _ _ _ _ _ _ (kM c n p sw d (a-1) a (a+1) _ hn hc hp mI (by omega) (by omega) o6 hs IJ) ?_
 rintro u H1⟨⟨hu,iX,l5⟩,q1,q2⟩
 cases hu
 try simp -implicitDefEqProofs only[op,ef,cl,sq,reduceIte,j2,j3,j4,j5,j6,j7,j8,j9,y1,S1]
 exact⟨⟨rfl,iX,l5⟩,q1,q2⟩
open Go.Sort in
theorem oL (c n:Nat)(d:Array ByteArray)(a b:Nat)(H:ae)(hn:d.size=n)(hc:H[c]?=some (.cells (aK eS d.toList)))(hb:b≤n)(ga:a+12<b)(hs:n<1305843009213693951) :
  W env (.call 201 [.aB c 0 n 1,.int .i64 a,.int .i64 b]) H (fun o H'=>o=.val (.bC [.int .i64 (choosePivot strLt d a b).1,.int .i64 (fm (choosePivot strLt d a b).2)])∧Ext H H'):=by
 refine W.cQ rfl rfl rfl ?_
 have h8:8≤b-a:=by omega
 have lc:=bo hc
 have mI:¬c=H.length:=by omega
 have jC:(H++[B.cells [T.int IntKind.i64 0]])[c]?=some (.cells (aK eS d.toList)):=by rw[gW lc];exact hc
 have MP:(H++[B.cells [T.int IntKind.i64 0]])[H.length]?=some (.cells [.int .i64 ((0:Nat):Int)]):=bT rfl
 have fin:∀H2:ae,bX (fun x=>x=H.length) (H++[B.cells [T.int IntKind.i64 0]]) H2→Ext H H2:=fun H2 hf=>B2 fun x y hx=>hf.get (by rw[gW (bo hx)];exact hx) (by have:=bo hx;omega)
 by_cases rf:50≤b-a
 ·simp -implicitDefEqProofs (maxSteps:=1000000) (disch:=omega) only[wG,aa,ah,ai,aj,ak,aq,ar,wA,aP,wS,aO,wM,S2,op,ef,cl,sq,reduceIte,j2,j3,j4,j5,j6,j7,j8,j9,y1,S1,yk,NS,yl,NT,h8,rf]
  refine af _ _ _ _ _ _ _ _ (iI c n H.length 0 d _ _ hn jC MP mI (by omega) (by omega) (by omega) (by omega)) ?_
  rintro u H1⟨⟨hu,iX,l5⟩,q1,q2⟩
  cases hu
  obtain⟨ri,MQ⟩:∃r,r=medianAdjacent strLt d (a+(b-a)/4*1) 0:=⟨_,rfl⟩
  rw[←MQ]at q1 q2 iX ⊢
  have lz:=l5.get jC mI
  try simp -implicitDefEqProofs only[op,ef,cl,sq,reduceIte,j2,j3,j4,j5,j6,j7,j8,j9,y1,S1]
  refine af _ _ _ _ _ _ _ _ (iI c n H.length ri.2 d _ _ hn lz iX mI (by omega) (by omega) (by omega) (by omega)) ?_
  rintro u H2⟨⟨hu,oj,cR⟩,q3,q4⟩
  cases hu
  obtain⟨rj,MR⟩:∃r,r=medianAdjacent strLt d (a+(b-a)/4*2) ri.2:=⟨_,rfl⟩
  rw[←MR]at q3 q4 oj ⊢
  have o8:=cR.get lz mI
  try simp -implicitDefEqProofs only[op,ef,cl,sq,reduceIte,j2,j3,j4,j5,j6,j7,j8,j9,y1,S1]
  refine af _ _ _ _ _ _ _ _ (iI c n H.length rj.2 d _ _ hn o8 oj mI (by omega) (by omega) (by omega) (by omega)) ?_
  rintro u H3⟨⟨hu,C5,tD⟩,q5,q6⟩
  cases hu
  obtain⟨rk,MS⟩:∃r,r=medianAdjacent strLt d (a+(b-a)/4*3) rj.2:=⟨_,rfl⟩
  rw[←MS]at q5 q6 C5 ⊢
  have QX:=tD.get o8 mI
  try simp -implicitDefEqProofs only[op,ef,cl,sq,reduceIte,j2,j3,j4,j5,j6,j7,j8,j9,y1,S1]
  refine af _ _ _ _ _ _ _ _ (kM c n H.length rk.2 d ri.1 rj.1 rk.1 _ hn QX C5 mI q1 q3 q5 (by omega) (by omega)) ?_
  rintro u H4⟨⟨hu,rl,Cd⟩,q7,q8⟩
  cases hu
  have e:choosePivot strLt d a b=((median strLt d ri.1 rj.1 rk.1 rk.2).1,if (median strLt d ri.1 rj.1 rk.1 rk.2).2=0 then .increasing else if (median strLt d ri.1 rj.1 rk.1 rk.2).2=12 then .decreasing else .unknown):=by
   simp -implicitDefEqProofs only[choosePivot,ge_iff_le,if_pos h8,if_pos rf,←MQ,←MR,←MS]
  rw[e]
  have hx:=fin _ (((l5.trans cR fun _ h=>.inl h).trans tD fun _ h=>.inl h).trans Cd fun _ h=>.inl h)
  generalize median strLt d ri.1 rj.1 rk.1 rk.2=r at *
  obtain⟨m,sw⟩:=r
  simp only at rl ⊢
  by_cases s0:sw=0
  ·subst s0
   have e0:(((0:Nat):Int)==0)=true:=rfl
   simp -implicitDefEqProofs only[op,ef,cl,sq,reduceIte,j2,j3,j4,j5,j6,j7,j8,j9,y1,S1,rl,e0]
   exact⟨rfl,hx⟩
  have e0:(((sw:Nat):Int)==0)=false:=by simp;omega
  by_cases s1:sw=12
  ·subst s1
   have e1:(((12:Nat):Int)==12)=true:=rfl
   simp -implicitDefEqProofs only[op,ef,cl,sq,reduceIte,j2,j3,j4,j5,j6,j7,j8,j9,y1,S1,rl,e0,e1]
   exact⟨rfl,hx⟩
  have e1:(((sw:Nat):Int)==12)=false:=by simp;omega
  simp -implicitDefEqProofs only[op,ef,cl,sq,reduceIte,j2,j3,j4,j5,j6,j7,j8,j9,y1,S1,rl,e0,e1,s0,s1]
  exact⟨rfl,hx⟩
 ·simp -implicitDefEqProofs (maxSteps:=1000000) (disch:=omega) only[wG,aa,ah,ai,aj,ak,aq,ar,wA,aP,wS,aO,wM,S2,op,ef,cl,sq,reduceIte,j2,j3,j4,j5,j6,j7,j8,j9,y1,S1,yk,NS,yl,NT,h8,rf]
  refine af _ _ _ _ _ _ _ _ (kM c n H.length 0 d _ _ _ _ hn jC MP mI (by omega) (by omega) (by omega) (by omega) (by omega)) ?_
  rintro u H4⟨⟨hu,rl,Cd⟩,q7,q8⟩
  cases hu
  have e:choosePivot strLt d a b=((median strLt d (a+(b-a)/4*1) (a+(b-a)/4*2) (a+(b-a)/4*3) 0).1,if (median strLt d (a+(b-a)/4*1) (a+(b-a)/4*2) (a+(b-a)/4*3) 0).2=0 then .increasing else if (median strLt d (a+(b-a)/4*1) (a+(b-a)/4*2) (a+(b-a)/4*3) 0).2=12 then .decreasing else .unknown):=by
   simp -implicitDefEqProofs only[choosePivot,ge_iff_le,if_pos h8,if_neg rf]
  rw[e]
  have hx:=fin _ Cd
  generalize median strLt d (a+(b-a)/4*1) (a+(b-a)/4*2) (a+(b-a)/4*3) 0=r at *
  obtain⟨m,sw⟩:=r
  simp only at rl ⊢
  by_cases s0:sw=0
  ·subst s0
   have e0:(((0:Nat):Int)==0)=true:=rfl
   simp -implicitDefEqProofs only[op,ef,cl,sq,reduceIte,j2,j3,j4,j5,j6,j7,j8,j9,y1,S1,rl,e0]
   exact⟨rfl,hx⟩
  have e0:(((sw:Nat):Int)==0)=false:=by simp;omega
  by_cases s1:sw=12
  ·subst s1
   have e1:(((12:Nat):Int)==12)=true:=rfl
   simp -implicitDefEqProofs only[op,ef,cl,sq,reduceIte,j2,j3,j4,j5,j6,j7,j8,j9,y1,S1,rl,e0,e1]
   exact⟨rfl,hx⟩
  have e1:(((sw:Nat):Int)==12)=false:=by simp;omega
  simp -implicitDefEqProofs only[op,ef,cl,sq,reduceIte,j2,j3,j4,j5,j6,j7,j8,j9,y1,S1,rl,e0,e1,s0,s1]
  exact⟨rfl,hx⟩
def jy (a len md:Nat)(d:Array ByteArray):Nat→UInt64×Array ByteArray
 | 0=>(UInt64.ofNat len,d)
 | j+1=>Go.Sort.breakStep a len md (jy a len md d j) (a+len/4*2-1+j)
open Go.Sort in
theorem rm (c n:Nat)(d:Array ByteArray)(a b:Nat)(H:ae)(hn:d.size=n)(hc:H[c]?=some (.cells (aK eS d.toList)))(hb:b≤n)(ga:a+12<b)(hs:n<16777216) :
  W env (.call 200 [.aB c 0 n 1,.int .i64 a,.int .i64 b]) H (fU c n (breakPatterns d a b) H):=by
 refine W.cQ rfl rfl rfl ?_
 have h8:8≤b-a:=by omega
 have lc:=bo hc
 obtain⟨len,hlen⟩:∃len,len=b-a:=⟨_,rfl⟩
 have wl:IntKind.u64.wrap ((len:Nat):Int)=(len:Int):=mY (by omega)
 rw[←hlen]at h8
 simp -implicitDefEqProofs (maxSteps:=1000000) (disch:=omega) only[BQ,aa,ah,ai,aj,ak,aq,ar,wA,aP,wS,aO,wM,S2,op,ef,cl,sq,reduceIte,j2,j3,j4,j5,j6,j7,j8,j9,y1,S1,yk,yl,←hlen,wl,h8]
 refine af _ _ _ _ _ _ _ _ (B5 len (by omega) _) ?_
 rintro u H1⟨hu,rfl⟩
 cases hu
 obtain⟨md,MT⟩:∃md,md=1 <<< bitsLen len:=⟨_,rfl⟩
 have qQ:=tz (n:=len) (by omega)
 have MU:1≤1 <<< bitsLen len:=by rw[Nat.one_shiftLeft];exact Nat.one_le_two_pow
 rw[←MT]at MU qQ ⊢
 have hq:len/4*2≤len:=by omega
 obtain⟨ix,rZ⟩:∃ix,ix=a+len/4*2-1:=⟨_,rfl⟩
 have qT:breakPatterns d a b=(jy a len md d 3).2:=by
  simp -implicitDefEqProofs only[breakPatterns,←hlen,ge_iff_le,if_pos h8,jy,←MT,Nat.add_zero]
 simp -implicitDefEqProofs (maxSteps:=1000000) (disch:=omega) only[aa,ah,ai,aj,ak,aq,ar,wA,aP,wS,aO,wM,S2,op,ef,cl,sq,reduceIte,j2,j3,j4,j5,j6,j7,j8,j9,y1,S1,yk,yl,←rZ]
 have lz:(H++[B.cells [T.int IntKind.u64 len]])[c]?=some (.cells (aK eS d.toList)):=by rw[gW lc];exact hc
 have iX:(H++[B.cells [T.int IntKind.u64 len]])[H.length]?=some (.cells [.int .u64 (UInt64.ofNat len).toNat]):=by
  rw[bT rfl,UInt64.toNat_ofNat_of_lt' (by show len<18446744073709551616;omega)]
 refine W.fg (fun (j:Nat) R H'=>At H' (fun H'=>∃d':Array ByteArray,H'[c]?=some (.cells (aK eS d'.toList))∧d'.size=n∧d'=(jy a len md d j).2∧H'[H.length]?=some (.cells [.int .u64 (jy a len md d j).1.toNat])∧bX (fun x=>x=c∨x=H.length) (H++[B.cells [T.int IntKind.u64 len]]) H')∧R 0=.aB c 0 n 1∧R 1=.int .i64 a∧R 6=.int .i64 len∧R 7=.ptr H.length 0∧R 8=.int .u64 md∧R 9=.int .i64 (ix+j:Nat)∧j≤3) (fun j=>3-j) 0 ⟨.i ⟨d,lz,hn,rfl,iX,bX.refl _ _⟩,rfl,rfl,rfl,rfl,rfl,rfl,by omega⟩ ?_
 rintro j R H1⟨⟨di,hd,aQ,MV,hp,ay⟩,h0,h1,EY,h9,aG,aM,hj⟩
 by_cases US:j<3
 ·have hle:ix+j≤a+len/4*2+1:=by omega
  simp -implicitDefEqProofs (maxSteps:=1000000) (disch:=omega) only[aa,ah,ai,aj,ak,aq,ar,wA,aP,wS,aO,wM,S2,op,ef,cl,sq,reduceIte,j2,j3,j4,j5,j6,j7,j8,j9,y1,S1,yk,yl,h0,h1,EY,h9,aG,aM,hle]
  refine af _ _ _ _ _ _ _ _ (GL H.length _ _ hp) ?_
  rintro u H2⟨hu,oj,cR⟩
  cases hu
  have hd:=cR.get hd (by omega)
  have EZ:=bo hd
  obtain⟨r,hr⟩:∃r,r=xorNext (jy a len md d j).1:=⟨_,rfl⟩
  rw[←hr]at oj ⊢
  obtain⟨ot,E0⟩:∃ot,ot=r.toNat &&& (md-1):=⟨_,rfl⟩
  have UT:ot≤md-1:=by rw[E0];exact Nat.and_le_right
  have bz:jy a len md d (j+1)=(r,swp di (ix+j) (a+if ot≥len then ot-len else ot)):=by
   simp -implicitDefEqProofs only[jy,breakStep,←hr,←MV,←E0,←rZ]
  have aY:¬(c=H.length):=by omega
  by_cases dD:len≤ot
  ·rw[if_pos dD]at bz
   simp -implicitDefEqProofs (maxSteps:=1000000) (disch:=omega) only[aa,ah,ai,aj,ak,aq,ar,wA,aP,wS,aO,wM,S2,op,ef,cl,sq,reduceIte,j2,j3,j4,j5,j6,j7,j8,j9,y1,S1,NU,wH,wN,←E0,h0,h1,EY,h9,aG,aM,dD,hd,EZ]
   refine⟨j+1,by omega,.i ⟨swp di (ix+j) (a+(ot-len)),gh (by rw[List.length_set];exact EZ),by rw[swp_size];exact aQ,by rw[bz],?_,((ay.trans cR fun x h=>.inl (.inr h)).set (.inl (.inl rfl)) _).set (.inl (.inl rfl)) _⟩,rfl,by omega⟩
   rw[jS aY,jS aY,oj,bz]
  ·rw[if_neg dD]at bz
   simp -implicitDefEqProofs (maxSteps:=1000000) (disch:=omega) only[aa,ah,ai,aj,ak,aq,ar,wA,aP,wS,aO,wM,S2,op,ef,cl,sq,reduceIte,j2,j3,j4,j5,j6,j7,j8,j9,y1,S1,NU,wH,wN,←E0,h0,h1,EY,h9,aG,aM,dD,hd,EZ]
   refine⟨j+1,by omega,.i ⟨swp di (ix+j) (a+ot),gh (by rw[List.length_set];exact EZ),by rw[swp_size];exact aQ,by rw[bz],?_,((ay.trans cR fun x h=>.inl (.inr h)).set (.inl (.inl rfl)) _).set (.inl (.inl rfl)) _⟩,rfl,by omega⟩
   rw[jS aY,jS aY,oj,bz]
 ·have JA:j=3:=by omega
  subst JA
  have hle:¬(ix+3≤a+len/4*2+1):=by omega
  simp -implicitDefEqProofs (maxSteps:=1000000) (disch:=omega) only[aa,ah,ai,aj,ak,aq,ar,wA,aP,wS,aO,wM,S2,op,ef,cl,sq,reduceIte,j2,j3,j4,j5,j6,j7,j8,j9,y1,S1,yk,yl,h0,h1,EY,h9,aG,aM,hle]
  exact⟨rfl,di,hd,aQ,by rw[qT,MV],(aN (F:=fun x=>x=c) (H:=H) (H':=H++[B.cells [T.int IntKind.u64 len]]) ⟨_,rfl⟩).trans ay fun x h=>h.elim .inl fun e=>.inr (by omega)⟩
open Go.Sort in
theorem cF {p:ByteArray→Bool}{d:Array ByteArray}{i k:Nat}(h:1≤i):scanDown p d i k=if (decide (i≤k)&&p d[k]!)=true then scanDown p d i (k-1)else k:=by
 cases k with
 | zero=>rw[scanDown,if_neg (cz (bw (by omega)))]
 | succ k=>rw[scanDown];rfl
open Go.Sort in
theorem rn {a i j si sj:Nat}{d:Array ByteArray}(hi:si=scanUp (fun x=>!strLt d[a]! x) d j i)(hj:sj=scanDown (fun x=>strLt d[a]! x) d si j):partEqLoop strLt a i j d=if si>sj then(si,d)else if (sj-1)+1-(si+1)<j+1-i then partEqLoop strLt a (si+1) (sj-1) (swp d si sj)else(si,d):=by
 subst hi;subst hj
 rw[partEqLoop]
 rfl
open Go.Sort in
theorem Ce (c n:Nat)(d:Array ByteArray)(a b pv:Nat)(H:ae)(hn:d.size=n)(hc:H[c]?=some (.cells (aK eS d.toList)))(hb:b≤n)(ga:a<b)(ki:pv<n)(hs:n<2305843009213693951) :
  W env (.call 204 [.aB c 0 n 1,.int .i64 a,.int .i64 b,.int .i64 pv]) H (fun o H'=>o=.val (.int .i64 (partitionEqual strLt d a b pv).1)∧bV c n H (fun x=>x=(partitionEqual strLt d a b pv).2) H'):=by
 refine W.cQ rfl rfl rfl ?_
 have hd:=hc
 have lc:=bo hd
 simp -implicitDefEqProofs (maxSteps:=1000000) (disch:=omega) only[BT,aa,ah,ai,aj,ak,aq,ar,wA,aP,wS,aO,wM,S2,op,ef,cl,sq,reduceIte,j2,j3,j4,j5,j6,j7,j8,j9,y1,S1,hd,lc]
 obtain⟨d1,oc,xM,e1,l5⟩:=bV.swp (n:=n) (P:=fun x=>x=swp d a pv) (x:=.cells (aK eS (d.toList.set a d[pv]!))) hd (by rw[Go.Sort.swp_size];exact hn) rfl (bX.refl (fun x=>x=c) H)
 subst e1
 generalize ((H.set c (.cells (aK eS (d.toList.set a d[pv]!)))).set c (.cells (aK eS (swp d a pv).toList)))=H1 at *
 refine W.bU 0 (fun (q:Nat×Nat) R H'=>At H' (fun H'=>bV c n H (fun di=>partEqLoop strLt a q.1 q.2 di=partitionEqual strLt d a b pv) H')∧R 0=.aB c 0 n 1∧R 1=.int .i64 a∧R 0=.aB c 0 n 1∧R 9=.int .i64 q.1∧R 10=.int .i64 q.2∧a<q.1∧q.2<n∧q.1≤n) (fun q=>q.2+1-q.1) (a+1,b-1)
  (fun R H'=>At H' (fun H'=>bV c n H (fun di=>di=(partitionEqual strLt d a b pv).2) H')∧R 9=.int .i64 (partitionEqual strLt d a b pv).1) ⟨.i ⟨_,oc,xM,rfl,l5⟩,rfl,rfl,rfl,rfl,rfl,by omega,by simp only;omega,by simp only;omega⟩ ?_ ?_
 ·rintro⟨i,j⟩ R H1 ⟨⟨di,hd,aQ,hP,ay⟩,h0,h1,h4,aM,aF,Cc,ye,kx⟩
  simp only at hP aM aF Cc ye kx ⊢
  simp -implicitDefEqProofs only[op,ef,cl,sq,reduceIte,j2,j3,j4,j5,j6,j7,j8,j9,y1,S1,h0,h1,h4,aM,aF]
  obtain⟨si,mJ⟩:∃si,si=scanUp (fun x=>!strLt di[a]! x) di j i:=⟨_,rfl⟩
  refine W.bU 2 (fun (k:Nat) R H'=>At H' (fun H'=>H'[c]?=some (.cells (aK eS di.toList))∧bX (fun x=>x=c) H H')∧R 0=.aB c 0 n 1∧R 1=.int .i64 a∧R 0=.aB c 0 n 1∧R 9=.int .i64 k∧R 10=.int .i64 j∧i≤k∧k≤n∧scanUp (fun x=>!strLt di[a]! x) di j k=si) (fun k=>j+1-k) i
   (fun R H'=>At H' (fun H'=>H'[c]?=some (.cells (aK eS di.toList))∧bX (fun x=>x=c) H H')∧R 0=.aB c 0 n 1∧R 1=.int .i64 a∧R 0=.aB c 0 n 1∧R 9=.int .i64 si∧R 10=.int .i64 j∧i≤si∧si≤n) ⟨.i ⟨hd,ay⟩,h0,h1,h4,aM,aF,Nat.le_refl _,kx,mJ.symm⟩ ?_ ?_
  ·rintro k R H2⟨⟨hd,ay⟩,h0,h1,h4,aM,aF,oM,tE,hk⟩
   have lc:=bo hd
   by_cases dF:k≤j
   ·simp -implicitDefEqProofs (maxSteps:=1000000) (disch:=omega) only[aa,ah,ai,aj,ak,aq,ar,wA,aP,wS,aO,wM,S2,op,ef,cl,sq,reduceIte,j2,j3,j4,j5,j6,j7,j8,j9,y1,S1,h0,h1,h4,aM,aF,dF,hd,lc]
    refine af _ _ _ _ _ _ _ _ (aX di[a]! di[k]! _) ?_
    rintro u H3⟨hu,dk⟩
    cases hu
    have hx:Ext H2 H3:=by rw[dk];exact Ext.rfl'
    have hd:=hx.get hd
    have lc:=bo hd
    have ay:=ay.trans (aN (F:=fun _=>False) hx) (fun _ h=>h.elim)
    have ct:strLt di[a]! di[k]! = decide (strLt di[a]! di[k]! = true):=by simp
    by_cases c1:strLt di[a]! di[k]! = true
    ·simp -implicitDefEqProofs (maxSteps:=1000000) (disch:=omega) only[aa,ah,ai,aj,ak,aq,ar,wA,aP,wS,aO,wM,S2,op,ef,cl,sq,reduceIte,j2,j3,j4,j5,j6,j7,j8,j9,y1,S1,h0,h1,h4,aM,aF,dF,c1]
     rw[scanUp,if_neg (cN (by rw[ct,bB c1];rfl))]at hk
     subst hk
     exact⟨.i ⟨hd,ay⟩,rfl,oM,tE⟩
    ·simp -implicitDefEqProofs (maxSteps:=1000000) (disch:=omega) only[aa,ah,ai,aj,ak,aq,ar,wA,aP,wS,aO,wM,S2,op,ef,cl,sq,reduceIte,j2,j3,j4,j5,j6,j7,j8,j9,y1,S1,h0,h1,h4,aM,aF,dF,c1]
     rw[scanUp,if_pos (eb (bB dF) (dA (ct.trans (bw c1))))]at hk
     exact⟨k+1,by omega,.i ⟨hd,ay⟩,rfl,by omega,by omega,hk⟩
   ·simp -implicitDefEqProofs (maxSteps:=1000000) (disch:=omega) only[op,ef,cl,sq,reduceIte,j2,j3,j4,j5,j6,j7,j8,j9,y1,S1,h0,h1,h4,aM,aF,dF]
    try simp -implicitDefEqProofs only[op,ef,cl,sq,reduceIte,j2,j3,j4,j5,j6,j7,j8,j9,y1,S1,h0,h1,h4,aM,aF,dF]
    rw[scanUp,if_neg (cz (bw dF))]at hk
    subst hk
    exact⟨.i ⟨hd,ay⟩,rfl,oM,tE⟩
  ·rintro R H2⟨⟨hd,ay⟩,h0,h1,h4,aM,aF,uU,Cf⟩
   simp -implicitDefEqProofs only[op,ef,cl,sq,reduceIte,j2,j3,j4,j5,j6,j7,j8,j9,y1,S1,h0,h1,h4,aM,aF]
   obtain⟨sj,pn⟩:∃sj,sj=scanDown (fun x=>strLt di[a]! x) di si j:=⟨_,rfl⟩
   refine W.bU 4 (fun (k:Nat) R H'=>At H' (fun H'=>H'[c]?=some (.cells (aK eS di.toList))∧bX (fun x=>x=c) H H')∧R 0=.aB c 0 n 1∧R 1=.int .i64 a∧R 0=.aB c 0 n 1∧R 9=.int .i64 si∧R 10=.int .i64 k∧k≤j∧scanDown (fun x=>strLt di[a]! x) di si k=sj) (fun k=>k) j
    (fun R H'=>At H' (fun H'=>H'[c]?=some (.cells (aK eS di.toList))∧bX (fun x=>x=c) H H')∧R 0=.aB c 0 n 1∧R 1=.int .i64 a∧R 0=.aB c 0 n 1∧R 9=.int .i64 si∧R 10=.int .i64 sj∧sj≤j) ⟨.i ⟨hd,ay⟩,h0,h1,h4,aM,aF,Nat.le_refl _,pn.symm⟩ ?_ ?_
   ·rintro k R H3⟨⟨hd,ay⟩,h0,h1,h4,aM,aF,dF,hk⟩
    have lc:=bo hd
    rw[cF (by omega)]at hk
    by_cases bE:si≤k
    ·simp -implicitDefEqProofs (maxSteps:=1000000) (disch:=omega) only[aa,ah,ai,aj,ak,aq,ar,wA,aP,wS,aO,wM,S2,op,ef,cl,sq,reduceIte,j2,j3,j4,j5,j6,j7,j8,j9,y1,S1,h0,h1,h4,aM,aF,bE,hd,lc]
     refine af _ _ _ _ _ _ _ _ (aX di[a]! di[k]! _) ?_
     rintro u H4⟨hu,dk⟩
     cases hu
     have hx:Ext H3 H4:=by rw[dk];exact Ext.rfl'
     have hd:=hx.get hd
     have lc:=bo hd
     have ay:=ay.trans (aN (F:=fun _=>False) hx) (fun _ h=>h.elim)
     have ct:strLt di[a]! di[k]! = decide (strLt di[a]! di[k]! = true):=by simp
     by_cases c1:strLt di[a]! di[k]! = true
     ·simp -implicitDefEqProofs (maxSteps:=1000000) (disch:=omega) only[aa,ah,ai,aj,ak,aq,ar,wA,aP,wS,aO,wM,S2,op,ef,cl,sq,reduceIte,j2,j3,j4,j5,j6,j7,j8,j9,y1,S1,h0,h1,h4,aM,aF,bE,c1]
      rw[if_pos (eb (bB bE) (ct.trans (bB c1)))]at hk
      exact⟨k-1,by omega,.i ⟨hd,ay⟩,rfl,by omega,hk⟩
     ·simp -implicitDefEqProofs (maxSteps:=1000000) (disch:=omega) only[aa,ah,ai,aj,ak,aq,ar,wA,aP,wS,aO,wM,S2,op,ef,cl,sq,reduceIte,j2,j3,j4,j5,j6,j7,j8,j9,y1,S1,h0,h1,h4,aM,aF,bE,c1]
      rw[if_neg (cN (ct.trans (bw c1)))]at hk
      subst hk
      exact⟨.i ⟨hd,ay⟩,rfl,dF⟩
    ·simp -implicitDefEqProofs only[op,ef,cl,sq,reduceIte,j2,j3,j4,j5,j6,j7,j8,j9,y1,S1,h0,h1,h4,aM,aF,bE]
     rw[if_neg (cz (bw bE))]at hk
     subst hk
     exact⟨.i ⟨hd,ay⟩,rfl,dF⟩
   ·rintro R H3⟨⟨hd,ay⟩,h0,h1,h4,aM,aF,Cg⟩
    have lc:=bo hd
    rw[rn mJ pn]at hP
    by_cases fy:sj<si
    ·rw[if_pos fy]at hP
     simp -implicitDefEqProofs only[op,ef,cl,sq,reduceIte,j2,j3,j4,j5,j6,j7,j8,j9,y1,S1,h0,h1,h4,aM,aF,fy]
     exact⟨.i ⟨di,hd,aQ,by rw[←hP],ay⟩,by rw[←hP]⟩
    ·rw[if_neg fy,if_pos (by omega)]at hP
     simp -implicitDefEqProofs (maxSteps:=1000000) (disch:=omega) only[aa,ah,ai,aj,ak,aq,ar,wA,aP,wS,aO,wM,S2,op,ef,cl,sq,reduceIte,j2,j3,j4,j5,j6,j7,j8,j9,y1,S1,h0,h1,h4,aM,aF,fy,hd,lc]
     exact⟨(si+1,sj-1),by simp only;omega,.i (.swp hd (by rw[swp_size];exact aQ) hP ay),rfl,rfl,by simp only;omega,by simp only;omega,by simp only;omega⟩
 ·rintro R H1⟨⟨di,hd,aQ,hP,ay⟩,aM⟩
  simp -implicitDefEqProofs only[op,ef,cl,sq,reduceIte,j2,j3,j4,j5,j6,j7,j8,j9,y1,S1,aM]
  exact⟨di,hd,aQ,hP,ay⟩
open Go.Sort in
theorem oN {a i j si sj:Nat}{d:Array ByteArray}(hi:si=scanUp (fun x=>strLt x d[a]!) d j i)(hj:sj=scanDown (fun x=>!strLt x d[a]!) d si j):partLoop strLt a i j d=if si>sj then(sj,d)else if (sj-1)+1-(si+1)<j+1-i then partLoop strLt a (si+1) (sj-1) (swp d si sj)else(sj,d):=by
 subst hi;subst hj
 rw[partLoop]
 rfl
open Go.Sort in
theorem uV (c n:Nat)(d:Array ByteArray)(a b pv:Nat)(H:ae)(hn:d.size=n)(hc:H[c]?=some (.cells (aK eS d.toList)))(hb:b≤n)(ga:a<b)(ki:pv<n)(hs:n<2305843009213693951) :
  W env (.call 205 [.aB c 0 n 1,.int .i64 a,.int .i64 b,.int .i64 pv]) H (fun o H'=>o=.val (.bC [.int .i64 (partition strLt d a b pv).1,.bool (partition strLt d a b pv).2.1])∧bV c n H (fun x=>x=(partition strLt d a b pv).2.2) H'):=by
 refine W.cQ rfl rfl rfl ?_
 have hd:=hc
 have lc:=bo hd
 simp -implicitDefEqProofs (maxSteps:=1000000) (disch:=omega) only[BU,aa,ah,ai,aj,ak,aq,ar,wA,aP,wS,aO,wM,S2,op,ef,cl,sq,reduceIte,j2,j3,j4,j5,j6,j7,j8,j9,y1,S1,hd,lc]
 obtain⟨d1,oc,xM,e1,l5⟩:=bV.swp (n:=n) (P:=fun x=>x=swp d a pv) (x:=.cells (aK eS (d.toList.set a d[pv]!))) hd (by rw[Go.Sort.swp_size];exact hn) rfl (bX.refl (fun x=>x=c) H)
 subst e1
 generalize ((H.set c (.cells (aK eS (d.toList.set a d[pv]!)))).set c (.cells (aK eS (swp d a pv).toList)))=H1 at *
 have hd:=oc
 have ay:=l5
 obtain⟨si,mJ⟩:∃si,si=scanUp (fun x=>strLt x (swp d a pv)[a]!) (swp d a pv) (b-1) (a+1):=⟨_,rfl⟩
 refine W.bU 0 (fun (k:Nat) R H'=>At H' (fun H'=>H'[c]?=some (.cells (aK eS (swp d a pv).toList))∧bX (fun x=>x=c) H H')∧R 0=.aB c 0 n 1∧R 1=.int .i64 a∧R 0=.aB c 0 n 1∧R 10=.int .i64 k∧R 11=.int .i64 ((b-1):Nat)∧(a+1)≤k∧k≤n∧scanUp (fun x=>strLt x (swp d a pv)[a]!) (swp d a pv) ((b-1)) k=si) (fun k=>(b-1)+1-k) ((a+1))
  (fun R H'=>At H' (fun H'=>H'[c]?=some (.cells (aK eS (swp d a pv).toList))∧bX (fun x=>x=c) H H')∧R 0=.aB c 0 n 1∧R 1=.int .i64 a∧R 0=.aB c 0 n 1∧R 10=.int .i64 si∧R 11=.int .i64 ((b-1):Nat)∧(a+1)≤si∧si≤n) ⟨.i ⟨hd,ay⟩,rfl,rfl,rfl,rfl,rfl,Nat.le_refl _,by omega,mJ.symm⟩ ?_ ?_
 ·rintro k R H2⟨⟨hd,ay⟩,h0,h1,h4,aF,aU,oM,tE,hk⟩
  have lc:=bo hd
  by_cases dF:k≤(b-1)
  ·simp -implicitDefEqProofs (maxSteps:=1000000) (disch:=omega) only[aa,ah,ai,aj,ak,aq,ar,wA,aP,wS,aO,wM,S2,op,ef,cl,sq,reduceIte,j2,j3,j4,j5,j6,j7,j8,j9,y1,S1,h0,h1,h4,aF,aU,dF,hd,lc]
   refine af _ _ _ _ _ _ _ _ (aX (swp d a pv)[k]! (swp d a pv)[a]! _) ?_
   rintro u H3⟨hu,dk⟩
   cases hu
   have hx:Ext H2 H3:=by rw[dk];exact Ext.rfl'
   have hd:=hx.get hd
   have lc:=bo hd
   have ay:=ay.trans (aN (F:=fun _=>False) hx) (fun _ h=>h.elim)
   have ct:strLt (swp d a pv)[k]! (swp d a pv)[a]! = decide (strLt (swp d a pv)[k]! (swp d a pv)[a]! = true):=by simp
   by_cases c1:strLt (swp d a pv)[k]! (swp d a pv)[a]! = true
   ·simp -implicitDefEqProofs (maxSteps:=1000000) (disch:=omega) only[aa,ah,ai,aj,ak,aq,ar,wA,aP,wS,aO,wM,S2,op,ef,cl,sq,reduceIte,j2,j3,j4,j5,j6,j7,j8,j9,y1,S1,h0,h1,h4,aF,aU,dF,c1]
    rw[scanUp,if_pos (eb (bB dF) (ct.trans (bB c1)))]at hk
    exact⟨k+1,by omega,.i ⟨hd,ay⟩,rfl,by omega,by omega,hk⟩
   ·simp -implicitDefEqProofs (maxSteps:=1000000) (disch:=omega) only[aa,ah,ai,aj,ak,aq,ar,wA,aP,wS,aO,wM,S2,op,ef,cl,sq,reduceIte,j2,j3,j4,j5,j6,j7,j8,j9,y1,S1,h0,h1,h4,aF,aU,dF,c1]
    rw[scanUp,if_neg (cN (ct.trans (bw c1)))]at hk
    subst hk
    exact⟨.i ⟨hd,ay⟩,rfl,oM,tE⟩
  ·simp -implicitDefEqProofs only[op,ef,cl,sq,reduceIte,j2,j3,j4,j5,j6,j7,j8,j9,y1,S1,h0,h1,h4,aF,aU,dF]
   rw[scanUp,if_neg (cz (bw dF))]at hk
   subst hk
   exact⟨.i ⟨hd,ay⟩,rfl,oM,tE⟩
 ·rintro R H2⟨⟨hd,ay⟩,h0,h1,h4,aF,aU,uU,Cf⟩
  simp -implicitDefEqProofs only[op,ef,cl,sq,reduceIte,j2,j3,j4,j5,j6,j7,j8,j9,y1,S1,h0,h1,h4,aF,aU]
  obtain⟨sj,pn⟩:∃sj,sj=scanDown (fun x=>!strLt x (swp d a pv)[a]!) (swp d a pv) si (b-1):=⟨_,rfl⟩
  refine W.bU 2 (fun (k:Nat) R H'=>At H' (fun H'=>H'[c]?=some (.cells (aK eS (swp d a pv).toList))∧bX (fun x=>x=c) H H')∧R 0=.aB c 0 n 1∧R 1=.int .i64 a∧R 0=.aB c 0 n 1∧R 10=.int .i64 si∧R 11=.int .i64 k∧k≤(b-1)∧scanDown (fun x=>!strLt x (swp d a pv)[a]!) (swp d a pv) si k=sj) (fun k=>k) ((b-1))
   (fun R H'=>At H' (fun H'=>H'[c]?=some (.cells (aK eS (swp d a pv).toList))∧bX (fun x=>x=c) H H')∧R 0=.aB c 0 n 1∧R 1=.int .i64 a∧R 0=.aB c 0 n 1∧R 10=.int .i64 si∧R 11=.int .i64 sj∧sj≤(b-1)) ⟨.i ⟨hd,ay⟩,h0,h1,h4,aF,aU,Nat.le_refl _,pn.symm⟩ ?_ ?_
  ·rintro k R H3⟨⟨hd,ay⟩,h0,h1,h4,aF,aU,dF,hk⟩
   have lc:=bo hd
   rw[cF (by omega)]at hk
   by_cases bE:si≤k
   ·simp -implicitDefEqProofs (maxSteps:=1000000) (disch:=omega) only[aa,ah,ai,aj,ak,aq,ar,wA,aP,wS,aO,wM,S2,op,ef,cl,sq,reduceIte,j2,j3,j4,j5,j6,j7,j8,j9,y1,S1,h0,h1,h4,aF,aU,bE,hd,lc]
    refine af _ _ _ _ _ _ _ _ (aX (swp d a pv)[k]! (swp d a pv)[a]! _) ?_
    rintro u H4⟨hu,dk⟩
    cases hu
    have hx:Ext H3 H4:=by rw[dk];exact Ext.rfl'
    have hd:=hx.get hd
    have lc:=bo hd
    have ay:=ay.trans (aN (F:=fun _=>False) hx) (fun _ h=>h.elim)
    have ct:strLt (swp d a pv)[k]! (swp d a pv)[a]! = decide (strLt (swp d a pv)[k]! (swp d a pv)[a]! = true):=by simp
    by_cases c1:strLt (swp d a pv)[k]! (swp d a pv)[a]! = true
    ·simp -implicitDefEqProofs (maxSteps:=1000000) (disch:=omega) only[aa,ah,ai,aj,ak,aq,ar,wA,aP,wS,aO,wM,S2,op,ef,cl,sq,reduceIte,j2,j3,j4,j5,j6,j7,j8,j9,y1,S1,h0,h1,h4,aF,aU,bE,c1]
     rw[if_neg (cN (by rw[ct,bB c1];rfl))]at hk
     subst hk
     exact⟨.i ⟨hd,ay⟩,rfl,dF⟩
    ·simp -implicitDefEqProofs (maxSteps:=1000000) (disch:=omega) only[aa,ah,ai,aj,ak,aq,ar,wA,aP,wS,aO,wM,S2,op,ef,cl,sq,reduceIte,j2,j3,j4,j5,j6,j7,j8,j9,y1,S1,h0,h1,h4,aF,aU,bE,c1]
     rw[if_pos (eb (bB bE) (dA (ct.trans (bw c1))))]at hk
     exact⟨k-1,by omega,.i ⟨hd,ay⟩,rfl,by omega,hk⟩
   ·simp -implicitDefEqProofs only[op,ef,cl,sq,reduceIte,j2,j3,j4,j5,j6,j7,j8,j9,y1,S1,h0,h1,h4,aF,aU,bE]
    rw[if_neg (cz (bw bE))]at hk
    subst hk
    exact⟨.i ⟨hd,ay⟩,rfl,dF⟩
  ·rintro R H3⟨⟨hd,ay⟩,h0,h1,h4,aF,aU,Cg⟩
   have lc:=bo hd
   by_cases fy:sj<si
   ·have e:partition strLt d a b pv=(sj,true,swp (swp d a pv) sj a):=by
     simp -implicitDefEqProofs only[partition,←mJ,←pn,gt_iff_lt,if_pos fy]
    rw[e]
    simp -implicitDefEqProofs (maxSteps:=1000000) (disch:=omega) only[aa,ah,ai,aj,ak,aq,ar,wA,aP,wS,aO,wM,S2,op,ef,cl,sq,reduceIte,j2,j3,j4,j5,j6,j7,j8,j9,y1,S1,h0,h1,h4,aF,aU,fy,hd,lc]
    exact .swp hd (by rw[swp_size];exact xM) rfl ay
   ·obtain⟨r,hr⟩:∃r,r=partLoop strLt a (si+1) (sj-1) (swp (swp d a pv) si sj):=⟨_,rfl⟩
    have e:partition strLt d a b pv=(r.1,false,swp r.2 r.1 a):=by
     simp -implicitDefEqProofs only[partition,←mJ,←pn,gt_iff_lt,if_neg fy,←hr]
    rw[e]
    simp -implicitDefEqProofs (maxSteps:=1000000) (disch:=omega) only[aa,ah,ai,aj,ak,aq,ar,wA,aP,wS,aO,wM,S2,op,ef,cl,sq,reduceIte,j2,j3,j4,j5,j6,j7,j8,j9,y1,S1,h0,h1,h4,aF,aU,fy,hd,lc]
    obtain⟨d2,bm,fo,e2,cR⟩:=bV.swp (n:=n) (P:=fun x=>x=swp (swp d a pv) si sj) (x:=.cells (aK eS ((swp d a pv).toList.set si (swp d a pv)[sj]!))) hd (by rw[swp_size];exact xM) rfl ay
    subst e2
    generalize ((H3.set c (.cells (aK eS ((swp d a pv).toList.set si (swp d a pv)[sj]!)))).set c (.cells (aK eS (swp (swp d a pv) si sj).toList)))=H5 at *
    refine W.bU 4 (fun (q:Nat×Nat) R H'=>At H' (fun H'=>bV c n H (fun di=>partLoop strLt a q.1 q.2 di=r) H')∧R 0=.aB c 0 n 1∧R 1=.int .i64 a∧R 0=.aB c 0 n 1∧R 10=.int .i64 q.1∧R 11=.int .i64 q.2∧a<q.1∧q.2<n∧q.1≤n) (fun q=>q.2+1-q.1) (si+1,sj-1)
     (fun R H'=>At H' (fun H'=>bV c n H (fun di=>di=r.2) H')∧R 0=.aB c 0 n 1∧R 1=.int .i64 a∧R 0=.aB c 0 n 1∧R 11=.int .i64 r.1∧r.1<n) ⟨.i ⟨_,bm,fo,hr.symm,cR⟩,?_,?_,?_,?_,?_,by simp only;omega,by simp only;omega,by simp only;omega⟩ ?_ ?_
    ·simp -implicitDefEqProofs only[op,ef,cl,sq,reduceIte,j2,j3,j4,j5,j6,j7,j8,j9,y1,S1,h0]
    ·simp -implicitDefEqProofs only[op,ef,cl,sq,reduceIte,j2,j3,j4,j5,j6,j7,j8,j9,y1,S1,h1]
    ·simp -implicitDefEqProofs only[op,ef,cl,sq,reduceIte,j2,j3,j4,j5,j6,j7,j8,j9,y1,S1,h4]
    ·simp -implicitDefEqProofs only[op,ef,cl,sq,reduceIte,j2,j3,j4,j5,j6,j7,j8,j9,y1,S1,aF]
    ·simp -implicitDefEqProofs only[op,ef,cl,sq,reduceIte,j2,j3,j4,j5,j6,j7,j8,j9,y1,S1,aU]
    ·rintro⟨i,j⟩ R H1 ⟨⟨di,hd,aQ,hP,ay⟩,h0,h1,h4,aF,aU,Cc,ye,kx⟩
     simp only at hP aF aU Cc ye kx ⊢
     simp -implicitDefEqProofs only[op,ef,cl,sq,reduceIte,j2,j3,j4,j5,j6,j7,j8,j9,y1,S1,h0,h1,h4,aF,aU]
     clear mJ pn
     obtain⟨si,mJ⟩:∃si,si=scanUp (fun x=>strLt x di[a]!) di j i:=⟨_,rfl⟩
     refine W.bU 6 (fun (k:Nat) R H'=>At H' (fun H'=>H'[c]?=some (.cells (aK eS di.toList))∧bX (fun x=>x=c) H H')∧R 0=.aB c 0 n 1∧R 1=.int .i64 a∧R 0=.aB c 0 n 1∧R 10=.int .i64 k∧R 11=.int .i64 (j:Nat)∧i≤k∧k≤n∧scanUp (fun x=>strLt x di[a]!) di (j) k=si) (fun k=>j+1-k) (i)
      (fun R H'=>At H' (fun H'=>H'[c]?=some (.cells (aK eS di.toList))∧bX (fun x=>x=c) H H')∧R 0=.aB c 0 n 1∧R 1=.int .i64 a∧R 0=.aB c 0 n 1∧R 10=.int .i64 si∧R 11=.int .i64 (j:Nat)∧i≤si∧si≤n) ⟨.i ⟨hd,ay⟩,h0,h1,h4,aF,aU,Nat.le_refl _,by omega,mJ.symm⟩ ?_ ?_
     ·rintro k R H2⟨⟨hd,ay⟩,h0,h1,h4,aF,aU,oM,tE,hk⟩
      have lc:=bo hd
      by_cases dF:k≤j
      ·simp -implicitDefEqProofs (maxSteps:=1000000) (disch:=omega) only[aa,ah,ai,aj,ak,aq,ar,wA,aP,wS,aO,wM,S2,op,ef,cl,sq,reduceIte,j2,j3,j4,j5,j6,j7,j8,j9,y1,S1,h0,h1,h4,aF,aU,dF,hd,lc]
       refine af _ _ _ _ _ _ _ _ (aX di[k]! di[a]! _) ?_
       rintro u H3⟨hu,dk⟩
       cases hu
       have hx:Ext H2 H3:=by rw[dk];exact Ext.rfl'
       have hd:=hx.get hd
       have lc:=bo hd
       have ay:=ay.trans (aN (F:=fun _=>False) hx) (fun _ h=>h.elim)
       have ct:strLt di[k]! di[a]! = decide (strLt di[k]! di[a]! = true):=by simp
       by_cases c1:strLt di[k]! di[a]! = true
       ·simp -implicitDefEqProofs (maxSteps:=1000000) (disch:=omega) only[aa,ah,ai,aj,ak,aq,ar,wA,aP,wS,aO,wM,S2,op,ef,cl,sq,reduceIte,j2,j3,j4,j5,j6,j7,j8,j9,y1,S1,h0,h1,h4,aF,aU,dF,c1]
        rw[scanUp,if_pos (eb (bB dF) (ct.trans (bB c1)))]at hk
        exact⟨k+1,by omega,.i ⟨hd,ay⟩,rfl,by omega,by omega,hk⟩
       ·simp -implicitDefEqProofs (maxSteps:=1000000) (disch:=omega) only[aa,ah,ai,aj,ak,aq,ar,wA,aP,wS,aO,wM,S2,op,ef,cl,sq,reduceIte,j2,j3,j4,j5,j6,j7,j8,j9,y1,S1,h0,h1,h4,aF,aU,dF,c1]
        rw[scanUp,if_neg (cN (ct.trans (bw c1)))]at hk
        subst hk
        exact⟨.i ⟨hd,ay⟩,rfl,oM,tE⟩
      ·simp -implicitDefEqProofs only[op,ef,cl,sq,reduceIte,j2,j3,j4,j5,j6,j7,j8,j9,y1,S1,h0,h1,h4,aF,aU,dF]
       rw[scanUp,if_neg (cz (bw dF))]at hk
       subst hk
       exact⟨.i ⟨hd,ay⟩,rfl,oM,tE⟩
     ·rintro R H2⟨⟨hd,ay⟩,h0,h1,h4,aF,aU,uU,Cf⟩
      simp -implicitDefEqProofs only[op,ef,cl,sq,reduceIte,j2,j3,j4,j5,j6,j7,j8,j9,y1,S1,h0,h1,h4,aF,aU]
      obtain⟨sj,pn⟩:∃sj,sj=scanDown (fun x=>!strLt x di[a]!) di si j:=⟨_,rfl⟩
      refine W.bU 8 (fun (k:Nat) R H'=>At H' (fun H'=>H'[c]?=some (.cells (aK eS di.toList))∧bX (fun x=>x=c) H H')∧R 0=.aB c 0 n 1∧R 1=.int .i64 a∧R 0=.aB c 0 n 1∧R 10=.int .i64 si∧R 11=.int .i64 k∧k≤j∧scanDown (fun x=>!strLt x di[a]!) di si k=sj) (fun k=>k) (j)
       (fun R H'=>At H' (fun H'=>H'[c]?=some (.cells (aK eS di.toList))∧bX (fun x=>x=c) H H')∧R 0=.aB c 0 n 1∧R 1=.int .i64 a∧R 0=.aB c 0 n 1∧R 10=.int .i64 si∧R 11=.int .i64 sj∧sj≤j) ⟨.i ⟨hd,ay⟩,h0,h1,h4,aF,aU,Nat.le_refl _,pn.symm⟩ ?_ ?_
      ·rintro k R H3⟨⟨hd,ay⟩,h0,h1,h4,aF,aU,dF,hk⟩
       have lc:=bo hd
       rw[cF (by omega)]at hk
       by_cases bE:si≤k
       ·simp -implicitDefEqProofs (maxSteps:=1000000) (disch:=omega) only[aa,ah,ai,aj,ak,aq,ar,wA,aP,wS,aO,wM,S2,op,ef,cl,sq,reduceIte,j2,j3,j4,j5,j6,j7,j8,j9,y1,S1,h0,h1,h4,aF,aU,bE,hd,lc]
        refine af _ _ _ _ _ _ _ _ (aX di[k]! di[a]! _) ?_
        rintro u H4⟨hu,dk⟩
        cases hu
        have hx:Ext H3 H4:=by rw[dk];exact Ext.rfl'
        have hd:=hx.get hd
        have lc:=bo hd
        have ay:=ay.trans (aN (F:=fun _=>False) hx) (fun _ h=>h.elim)
        have ct:strLt di[k]! di[a]! = decide (strLt di[k]! di[a]! = true):=by simp
        by_cases c1:strLt di[k]! di[a]! = true
        ·simp -implicitDefEqProofs (maxSteps:=1000000) (disch:=omega) only[aa,ah,ai,aj,ak,aq,ar,wA,aP,wS,aO,wM,S2,op,ef,cl,sq,reduceIte,j2,j3,j4,j5,j6,j7,j8,j9,y1,S1,h0,h1,h4,aF,aU,bE,c1]
         rw[if_neg (cN (by rw[ct,bB c1];rfl))]at hk
         subst hk
         exact⟨.i ⟨hd,ay⟩,rfl,dF⟩
        ·simp -implicitDefEqProofs (maxSteps:=1000000) (disch:=omega) only[aa,ah,ai,aj,ak,aq,ar,wA,aP,wS,aO,wM,S2,op,ef,cl,sq,reduceIte,j2,j3,j4,j5,j6,j7,j8,j9,y1,S1,h0,h1,h4,aF,aU,bE,c1]
         rw[if_pos (eb (bB bE) (dA (ct.trans (bw c1))))]at hk
         exact⟨k-1,by omega,.i ⟨hd,ay⟩,rfl,by omega,hk⟩
       ·simp -implicitDefEqProofs only[op,ef,cl,sq,reduceIte,j2,j3,j4,j5,j6,j7,j8,j9,y1,S1,h0,h1,h4,aF,aU,bE]
        rw[if_neg (cz (bw bE))]at hk
        subst hk
        exact⟨.i ⟨hd,ay⟩,rfl,dF⟩
      ·rintro R H3⟨⟨hd,ay⟩,h0,h1,h4,aF,aU,Cg⟩
       have lc:=bo hd
       rw[oN mJ pn]at hP
       by_cases fy:sj<si
       ·rw[if_pos fy]at hP
        simp -implicitDefEqProofs only[op,ef,cl,sq,reduceIte,j2,j3,j4,j5,j6,j7,j8,j9,y1,S1,h0,h1,h4,aF,aU,fy]
        exact⟨.i ⟨di,hd,aQ,by rw[←hP],ay⟩,by rw[←hP],by rw[←hP];simp only;omega⟩
       ·rw[if_neg fy,if_pos (by omega)]at hP
        simp -implicitDefEqProofs (maxSteps:=1000000) (disch:=omega) only[aa,ah,ai,aj,ak,aq,ar,wA,aP,wS,aO,wM,S2,op,ef,cl,sq,reduceIte,j2,j3,j4,j5,j6,j7,j8,j9,y1,S1,h0,h1,h4,aF,aU,fy,hd,lc]
        exact⟨(si+1,sj-1),by simp only;omega,.i (.swp hd (by rw[swp_size];exact aQ) hP ay),rfl,rfl,by simp only;omega,by simp only;omega,by simp only;omega⟩
    ·rintro R H1⟨⟨di,hd,aQ,rfl,ay⟩,h0,h1,h4,aU,yg⟩
     have lc:=bo hd
     simp -implicitDefEqProofs (maxSteps:=1000000) (disch:=omega) only[aa,ah,ai,aj,ak,aq,ar,wA,aP,wS,aO,wM,S2,op,ef,cl,sq,reduceIte,j2,j3,j4,j5,j6,j7,j8,j9,y1,S1,h0,h1,h4,aU,hd,lc]
     exact .swp hd (by rw[swp_size];exact aQ) rfl ay
open Go.Sort in
theorem gK {d:Array ByteArray}{k:Nat}(h:1≤k):shiftDown strLt k d=if (!strLt d[k]! d[k-1]!)=true then d else shiftDown strLt (k-1) (swp d k (k-1)):=by
 cases k with
 | zero=>omega
 | succ k=>rw[shiftDown];rfl
open Go.Sort in
theorem uW (c n:Nat)(d:Array ByteArray)(a b:Nat)(H:ae)(hn:d.size=n)(hc:H[c]?=some (.cells (aK eS d.toList)))(hb:b≤n)(ga:a<b)(hs:n<2305843009213693951) :
  W env (.call 203 [.aB c 0 n 1,.int .i64 a,.int .i64 b]) H (fun o H'=>o=.val (.bool (partialInsertionSort strLt d a b).2)∧bV c n H (fun x=>x=(partialInsertionSort strLt d a b).1) H'):=by
 refine W.cQ rfl rfl rfl ?_
 obtain⟨r,hr⟩:∃r,r=partialInsertionSort strLt d a b:=⟨_,rfl⟩
 rw[←hr]
 simp -implicitDefEqProofs (maxSteps:=1000000) (disch:=omega) only[BS,aa,ah,ai,aj,ak,aq,ar,wA,aP,wS,aO,wM,S2,op,ef,cl,sq,reduceIte,j2,j3,j4,j5,j6,j7,j8,j9,y1,S1]
 refine W.bU 0 (fun (j:Nat) R H'=>At H' (fun H'=>∃i,R 7=.int .i64 (i:Nat)∧a<i∧i≤b∧bV c n H (fun di=>partialIns strLt a b (5-j) i di=r) H')∧R 0=.aB c 0 n 1∧R 1=.int .i64 a∧R 2=.int .i64 b∧R 0=.aB c 0 n 1∧R 8=.int .i64 j∧j≤5) (fun j=>5-j) 0
  (fun R H'=>At H' (fun H'=>bV c n H (fun di=>(di,false)=r) H')) ⟨.i ⟨a+1,rfl,by omega,by omega,d,hc,hn,hr.symm,bX.refl _ _⟩,rfl,rfl,rfl,rfl,rfl,by omega⟩ ?_ ?_
 ·rintro j R H1⟨⟨i,h9,Cc,QY,di,hd,aQ,hP,ay⟩,h0,h1,h2,h3,aG,hj⟩
  by_cases QZ:j<5
  rotate_left
  ·have:j=5:=by omega
   subst this
   simp -implicitDefEqProofs only[op,ef,cl,sq,reduceIte,j2,j3,j4,j5,j6,j7,j8,j9,y1,S1,h0,h1,h2,h3,aG]
   exact .i ⟨di,hd,aQ,hP,ay⟩
  obtain⟨s,E1⟩:∃s,5-j=s+1:=⟨4-j,by omega⟩
  have rp:5-(j+1)=s:=by omega
  rw[E1,partialIns]at hP
  simp -implicitDefEqProofs only[op,ef,cl,sq,reduceIte,j2,j3,j4,j5,j6,j7,j8,j9,y1,S1,h0,h1,h2,h3,aG,QZ]
  obtain⟨si,mJ⟩:∃si,si=scanSorted strLt di b i:=⟨_,rfl⟩
  rw[←mJ]at hP
  refine W.bU 2 (fun (k:Nat) R H'=>At H' (fun H'=>H'[c]?=some (.cells (aK eS di.toList))∧bX (fun x=>x=c) H H')∧R 0=.aB c 0 n 1∧R 1=.int .i64 a∧R 2=.int .i64 b∧R 0=.aB c 0 n 1∧R 7=.int .i64 k∧R 8=.int .i64 j∧i≤k∧k≤b∧scanSorted strLt di b k=si) (fun k=>b-k) i
   (fun R H'=>At H' (fun H'=>H'[c]?=some (.cells (aK eS di.toList))∧bX (fun x=>x=c) H H')∧R 0=.aB c 0 n 1∧R 1=.int .i64 a∧R 2=.int .i64 b∧R 0=.aB c 0 n 1∧R 7=.int .i64 si∧R 8=.int .i64 j∧i≤si∧si≤b) ⟨.i ⟨hd,ay⟩,?_,?_,?_,?_,?_,?_,Nat.le_refl _,QY,mJ.symm⟩ ?_ ?_
  ·simp -implicitDefEqProofs only[op,ef,cl,sq,reduceIte,j2,j3,j4,j5,j6,j7,j8,j9,y1,S1,h0]
  ·simp -implicitDefEqProofs only[op,ef,cl,sq,reduceIte,j2,j3,j4,j5,j6,j7,j8,j9,y1,S1,h1]
  ·simp -implicitDefEqProofs only[op,ef,cl,sq,reduceIte,j2,j3,j4,j5,j6,j7,j8,j9,y1,S1,h2]
  ·simp -implicitDefEqProofs only[op,ef,cl,sq,reduceIte,j2,j3,j4,j5,j6,j7,j8,j9,y1,S1,h3]
  ·simp -implicitDefEqProofs only[op,ef,cl,sq,reduceIte,j2,j3,j4,j5,j6,j7,j8,j9,y1,S1,h9]
  ·simp -implicitDefEqProofs only[op,ef,cl,sq,reduceIte,j2,j3,j4,j5,j6,j7,j8,j9,y1,S1,aG]
  ·rintro k R H2⟨⟨hd,ay⟩,h0,h1,h2,h3,h9,aG,oM,xf,hk⟩
   have lc:=bo hd
   by_cases bE:k<b
   ·simp -implicitDefEqProofs (maxSteps:=1000000) (disch:=omega) only[aa,ah,ai,aj,ak,aq,ar,wA,aP,wS,aO,wM,S2,op,ef,cl,sq,reduceIte,j2,j3,j4,j5,j6,j7,j8,j9,y1,S1,h0,h1,h2,h3,h9,aG,bE,hd,lc]
    refine af _ _ _ _ _ _ _ _ (aX di[k]! di[k-1]! _) ?_
    rintro u H3⟨hu,dk⟩
    cases hu
    have hx:Ext H2 H3:=by rw[dk];exact Ext.rfl'
    have hd:=hx.get hd
    have lc:=bo hd
    have ay:=ay.trans (aN (F:=fun _=>False) hx) (fun _ h=>h.elim)
    have ct:strLt di[k]! di[k-1]! = decide (strLt di[k]! di[k-1]! = true):=by simp
    by_cases c1:strLt di[k]! di[k-1]! = true
    ·simp -implicitDefEqProofs (maxSteps:=1000000) (disch:=omega) only[aa,ah,ai,aj,ak,aq,ar,wA,aP,wS,aO,wM,S2,op,ef,cl,sq,reduceIte,j2,j3,j4,j5,j6,j7,j8,j9,y1,S1,h0,h1,h2,h3,h9,aG,bE,c1]
     rw[scanSorted,if_neg (cN (by rw[ct,bB c1];rfl))]at hk
     subst hk
     exact⟨.i ⟨hd,ay⟩,rfl,oM,xf⟩
    ·simp -implicitDefEqProofs (maxSteps:=1000000) (disch:=omega) only[aa,ah,ai,aj,ak,aq,ar,wA,aP,wS,aO,wM,S2,op,ef,cl,sq,reduceIte,j2,j3,j4,j5,j6,j7,j8,j9,y1,S1,h0,h1,h2,h3,h9,aG,bE,c1]
     rw[scanSorted,if_pos (eb (bB bE) (dA (ct.trans (bw c1))))]at hk
     exact⟨k+1,by omega,.i ⟨hd,ay⟩,rfl,by omega,by omega,hk⟩
   ·simp -implicitDefEqProofs only[op,ef,cl,sq,reduceIte,j2,j3,j4,j5,j6,j7,j8,j9,y1,S1,h0,h1,h2,h3,h9,aG,bE]
    rw[scanSorted,if_neg (cz (bw bE))]at hk
    subst hk
    exact⟨.i ⟨hd,ay⟩,rfl,oM,xf⟩
  ·rintro R H2⟨⟨hd,ay⟩,h0,h1,h2,h3,h9,aG,uU,Q0⟩
   have lc:=bo hd
   by_cases lZ:si=b
   ·rw[if_pos lZ]at hP
    have e1:((si:Int)==(b:Int))=true:=by rw[lZ];simp
    simp -implicitDefEqProofs (maxSteps:=1000000) (disch:=omega) only[aa,ah,ai,aj,ak,aq,ar,wA,aP,wS,aO,wM,S2,op,ef,cl,sq,reduceIte,j2,j3,j4,j5,j6,j7,j8,j9,y1,S1,h0,h1,h2,h3,h9,aG,e1]
    rw[←hP]
    exact⟨rfl,di,hd,aQ,rfl,ay⟩
   rw[if_neg lZ]at hP
   have e1:((si:Int)==(b:Int))=false:=by simp;omega
   by_cases rf:b-a<50
   ·rw[if_pos rf]at hP
    simp -implicitDefEqProofs (maxSteps:=1000000) (disch:=omega) only[aa,ah,ai,aj,ak,aq,ar,wA,aP,wS,aO,wM,S2,op,ef,cl,sq,reduceIte,j2,j3,j4,j5,j6,j7,j8,j9,y1,S1,h0,h1,h2,h3,h9,aG,e1,rf]
    rw[←hP]
    exact⟨rfl,di,hd,aQ,rfl,ay⟩
   rw[if_neg rf]at hP
   simp -implicitDefEqProofs (maxSteps:=1000000) (disch:=omega) only[aa,ah,ai,aj,ak,aq,ar,wA,aP,wS,aO,wM,S2,op,ef,cl,sq,reduceIte,j2,j3,j4,j5,j6,j7,j8,j9,y1,S1,h0,h1,h2,h3,h9,aG,e1,rf,hd,lc]
   obtain⟨d3,jN⟩:∃d3,d3=if si-a≥2 then shiftDown strLt (si-1) (swp di si (si-1))else swp di si (si-1):=⟨_,rfl⟩
   obtain⟨d4,oO⟩:∃d4,d4=if b-si≥2 then shiftUp strLt b (si+1) d3 else d3:=⟨_,rfl⟩
   have hP:partialIns strLt a b s si d4=r:=by rw[oO,jN];exact hP
   obtain⟨d2,bm,fo,e2,cR⟩:=bV.swp (n:=n) (P:=fun x=>x=swp di si (si-1)) (x:=.cells (aK eS (di.toList.set si di[si-1]!))) hd (by rw[swp_size];exact aQ) rfl ay
   subst e2
   generalize ((H2.set c (.cells (aK eS (di.toList.set si di[si-1]!)))).set c (.cells (aK eS (swp di si (si-1)).toList)))=H5 at *
   by_cases hA:2≤si-a
   ·rw[if_pos hA]at jN
    simp -implicitDefEqProofs (maxSteps:=1000000) (disch:=omega) only[aa,ah,ai,aj,ak,aq,ar,wA,aP,wS,aO,wM,S2,op,ef,cl,sq,reduceIte,j2,j3,j4,j5,j6,j7,j8,j9,y1,S1,h0,h1,h2,h3,h9,aG,hA]
    refine W.bU 4 (fun (k:Nat) R H'=>At H' (fun H'=>bV c n H (fun dx=>shiftDown strLt k dx=d3) H')∧R 0=.aB c 0 n 1∧R 1=.int .i64 a∧R 2=.int .i64 b∧R 0=.aB c 0 n 1∧R 7=.int .i64 si∧R 8=.int .i64 j∧R 9=.int .i64 k∧k<b) (fun k=>k) (si-1)
     (fun R H'=>At H' (fun H'=>bV c n H (fun dx=>dx=d3) H')∧R 0=.aB c 0 n 1∧R 1=.int .i64 a∧R 2=.int .i64 b∧R 0=.aB c 0 n 1∧R 7=.int .i64 si∧R 8=.int .i64 j) ⟨.i ⟨_,bm,fo,jN.symm,cR⟩,?_,?_,?_,?_,?_,?_,?_,by omega⟩ ?_ ?_
    ·simp -implicitDefEqProofs only[op,ef,cl,sq,reduceIte,j2,j3,j4,j5,j6,j7,j8,j9,y1,S1,h0]
    ·simp -implicitDefEqProofs only[op,ef,cl,sq,reduceIte,j2,j3,j4,j5,j6,j7,j8,j9,y1,S1,h1]
    ·simp -implicitDefEqProofs only[op,ef,cl,sq,reduceIte,j2,j3,j4,j5,j6,j7,j8,j9,y1,S1,h2]
    ·simp -implicitDefEqProofs only[op,ef,cl,sq,reduceIte,j2,j3,j4,j5,j6,j7,j8,j9,y1,S1,h3]
    ·simp -implicitDefEqProofs only[op,ef,cl,sq,reduceIte,j2,j3,j4,j5,j6,j7,j8,j9,y1,S1,h9]
    ·simp -implicitDefEqProofs only[op,ef,cl,sq,reduceIte,j2,j3,j4,j5,j6,j7,j8,j9,y1,S1,aG]
    ·simp -implicitDefEqProofs only[op,ef,cl,sq,reduceIte,j2,j3,j4,j5,j6,j7,j8,j9,y1,S1]
    ·rintro k R H2⟨⟨dx,hd,aQ,hk,ay⟩,h0,h1,h2,h3,h9,aG,aM,xf⟩
     have lc:=bo hd
     by_cases o9:1≤k
     ·simp -implicitDefEqProofs (maxSteps:=1000000) (disch:=omega) only[aa,ah,ai,aj,ak,aq,ar,wA,aP,wS,aO,wM,S2,op,ef,cl,sq,reduceIte,j2,j3,j4,j5,j6,j7,j8,j9,y1,S1,h0,h1,h2,h3,h9,aG,aM,o9,hd,lc]
      refine af _ _ _ _ _ _ _ _ (aX dx[k]! dx[k-1]! _) ?_
      rintro u H3⟨hu,dk⟩
      cases hu
      have hx:Ext H2 H3:=by rw[dk];exact Ext.rfl'
      have hd:=hx.get hd
      have lc:=bo hd
      have ay:=ay.trans (aN (F:=fun _=>False) hx) (fun _ h=>h.elim)
      have ct:strLt dx[k]! dx[k-1]! = decide (strLt dx[k]! dx[k-1]! = true):=by simp
      rw[gK o9]at hk
      by_cases c1:strLt dx[k]! dx[k-1]! = true
      ·simp -implicitDefEqProofs (maxSteps:=1000000) (disch:=omega) only[aa,ah,ai,aj,ak,aq,ar,wA,aP,wS,aO,wM,S2,op,ef,cl,sq,reduceIte,j2,j3,j4,j5,j6,j7,j8,j9,y1,S1,h0,h1,h2,h3,h9,aG,aM,o9,hd,lc,c1]
       rw[if_neg (iM (ct.trans (bB c1)))]at hk
       exact⟨k-1,by omega,.i (.swp hd (by rw[swp_size];exact aQ) hk ay),rfl,by omega⟩
      ·simp -implicitDefEqProofs (maxSteps:=1000000) (disch:=omega) only[aa,ah,ai,aj,ak,aq,ar,wA,aP,wS,aO,wM,S2,op,ef,cl,sq,reduceIte,j2,j3,j4,j5,j6,j7,j8,j9,y1,S1,h0,h1,h2,h3,h9,aG,aM,o9,hd,lc,c1]
       rw[if_pos (dA (ct.trans (bw c1)))]at hk
       exact .i ⟨dx,hd,aQ,hk,ay⟩
     ·have Jp:k=0:=by omega
      subst Jp
      simp -implicitDefEqProofs only[op,ef,cl,sq,reduceIte,j2,j3,j4,j5,j6,j7,j8,j9,y1,S1,h0,h1,h2,h3,h9,aG,aM,o9]
      rw[shiftDown]at hk
      exact .i ⟨dx,hd,aQ,hk,ay⟩
    ·rintro R H2⟨⟨dx,hd,mK,rfl,ay⟩,h0,h1,h2,h3,h9,aG⟩
     have lc:=bo hd
     by_cases hB:2≤b-si
     ·simp -implicitDefEqProofs (maxSteps:=1000000) (disch:=omega) only[aa,ah,ai,aj,ak,aq,ar,wA,aP,wS,aO,wM,S2,op,ef,cl,sq,reduceIte,j2,j3,j4,j5,j6,j7,j8,j9,y1,S1,h0,h1,h2,h3,h9,aG,hB]
      rw[if_pos hB]at oO
      refine W.bU 6 (fun (k:Nat) R H'=>At H' (fun H'=>bV c n H (fun dx=>shiftUp strLt b k dx=d4) H')∧R 0=.aB c 0 n 1∧R 1=.int .i64 a∧R 2=.int .i64 b∧R 0=.aB c 0 n 1∧R 7=.int .i64 si∧R 8=.int .i64 j∧R 10=.int .i64 k∧1≤k∧k≤b) (fun k=>b-k) (si+1)
       (fun R H'=>At H' (fun H'=>bV c n H (fun dx=>dx=d4) H')∧R 0=.aB c 0 n 1∧R 1=.int .i64 a∧R 2=.int .i64 b∧R 0=.aB c 0 n 1∧R 7=.int .i64 si∧R 8=.int .i64 j) ⟨.i ⟨dx,hd,mK,oO.symm,ay⟩,?_,?_,?_,?_,?_,?_,?_,by omega,by omega⟩ ?_ ?_
      ·simp -implicitDefEqProofs only[op,ef,cl,sq,reduceIte,j2,j3,j4,j5,j6,j7,j8,j9,y1,S1,h0]
      ·simp -implicitDefEqProofs only[op,ef,cl,sq,reduceIte,j2,j3,j4,j5,j6,j7,j8,j9,y1,S1,h1]
      ·simp -implicitDefEqProofs only[op,ef,cl,sq,reduceIte,j2,j3,j4,j5,j6,j7,j8,j9,y1,S1,h2]
      ·simp -implicitDefEqProofs only[op,ef,cl,sq,reduceIte,j2,j3,j4,j5,j6,j7,j8,j9,y1,S1,h3]
      ·simp -implicitDefEqProofs only[op,ef,cl,sq,reduceIte,j2,j3,j4,j5,j6,j7,j8,j9,y1,S1,h9]
      ·simp -implicitDefEqProofs only[op,ef,cl,sq,reduceIte,j2,j3,j4,j5,j6,j7,j8,j9,y1,S1,aG]
      ·simp -implicitDefEqProofs only[op,ef,cl,sq,reduceIte,j2,j3,j4,j5,j6,j7,j8,j9,y1,S1]
      ·rintro k R H2⟨⟨dx,hd,aQ,hk,ay⟩,h0,h1,h2,h3,h9,aG,aF,o9,xf⟩
       have lc:=bo hd
       by_cases bE:k<b
       ·simp -implicitDefEqProofs (maxSteps:=1000000) (disch:=omega) only[aa,ah,ai,aj,ak,aq,ar,wA,aP,wS,aO,wM,S2,op,ef,cl,sq,reduceIte,j2,j3,j4,j5,j6,j7,j8,j9,y1,S1,h0,h1,h2,h3,h9,aG,aF,bE,hd,lc]
        refine af _ _ _ _ _ _ _ _ (aX dx[k]! dx[k-1]! _) ?_
        rintro u H3⟨hu,dk⟩
        cases hu
        have hx:Ext H2 H3:=by rw[dk];exact Ext.rfl'
        have hd:=hx.get hd
        have lc:=bo hd
        have ay:=ay.trans (aN (F:=fun _=>False) hx) (fun _ h=>h.elim)
        have ct:strLt dx[k]! dx[k-1]! = decide (strLt dx[k]! dx[k-1]! = true):=by simp
        rw[shiftUp,if_pos bE]at hk
        by_cases c1:strLt dx[k]! dx[k-1]! = true
        ·simp -implicitDefEqProofs (maxSteps:=1000000) (disch:=omega) only[aa,ah,ai,aj,ak,aq,ar,wA,aP,wS,aO,wM,S2,op,ef,cl,sq,reduceIte,j2,j3,j4,j5,j6,j7,j8,j9,y1,S1,h0,h1,h2,h3,h9,aG,aF,bE,hd,lc,c1]
         rw[if_neg (iM (ct.trans (bB c1)))]at hk
         exact⟨k+1,by omega,.i (.swp hd (by rw[swp_size];exact aQ) hk ay),rfl,by omega,by omega⟩
        ·simp -implicitDefEqProofs (maxSteps:=1000000) (disch:=omega) only[aa,ah,ai,aj,ak,aq,ar,wA,aP,wS,aO,wM,S2,op,ef,cl,sq,reduceIte,j2,j3,j4,j5,j6,j7,j8,j9,y1,S1,h0,h1,h2,h3,h9,aG,aF,bE,hd,lc,c1]
         rw[if_pos (dA (ct.trans (bw c1)))]at hk
         exact .i ⟨dx,hd,aQ,hk,ay⟩
       ·simp -implicitDefEqProofs only[op,ef,cl,sq,reduceIte,j2,j3,j4,j5,j6,j7,j8,j9,y1,S1,h0,h1,h2,h3,h9,aG,aF,bE]
        rw[shiftUp,if_neg bE]at hk
        exact .i ⟨dx,hd,aQ,hk,ay⟩
      ·rintro R H2⟨⟨dx,hd,aQ,rfl,ay⟩,h0,h1,h2,h3,h9,aG⟩
       simp -implicitDefEqProofs (maxSteps:=1000000) (disch:=omega) only[aa,ah,ai,aj,ak,aq,ar,wA,aP,wS,aO,wM,S2,op,ef,cl,sq,reduceIte,j2,j3,j4,j5,j6,j7,j8,j9,y1,S1,h0,h1,h2,h3,h9,aG]
       exact⟨j+1,by omega,.i ⟨si,rfl,by omega,by omega,dx,hd,aQ,by rw[rp];exact hP,ay⟩,rfl,by omega⟩
     ·rw[if_neg hB]at oO
      subst oO
      simp -implicitDefEqProofs (maxSteps:=1000000) (disch:=omega) only[aa,ah,ai,aj,ak,aq,ar,wA,aP,wS,aO,wM,S2,op,ef,cl,sq,reduceIte,j2,j3,j4,j5,j6,j7,j8,j9,y1,S1,h0,h1,h2,h3,h9,aG,hB]
      exact⟨j+1,by omega,.i ⟨si,rfl,by omega,by omega,d4,hd,mK,by rw[rp];exact hP,ay⟩,rfl,by omega⟩
   ·rw[if_neg hA]at jN
    simp -implicitDefEqProofs (maxSteps:=1000000) (disch:=omega) only[aa,ah,ai,aj,ak,aq,ar,wA,aP,wS,aO,wM,S2,op,ef,cl,sq,reduceIte,j2,j3,j4,j5,j6,j7,j8,j9,y1,S1,h0,h1,h2,h3,h9,aG,hA]
    have hd:=bm
    have mK:=fo
    have ay:=cR
    rw[←jN]at hd mK
    by_cases hB:2≤b-si
    ·simp -implicitDefEqProofs (maxSteps:=1000000) (disch:=omega) only[aa,ah,ai,aj,ak,aq,ar,wA,aP,wS,aO,wM,S2,op,ef,cl,sq,reduceIte,j2,j3,j4,j5,j6,j7,j8,j9,y1,S1,h0,h1,h2,h3,h9,aG,hB]
     rw[if_pos hB]at oO
     refine W.bU 6 (fun (k:Nat) R H'=>At H' (fun H'=>bV c n H (fun dx=>shiftUp strLt b k dx=d4) H')∧R 0=.aB c 0 n 1∧R 1=.int .i64 a∧R 2=.int .i64 b∧R 0=.aB c 0 n 1∧R 7=.int .i64 si∧R 8=.int .i64 j∧R 10=.int .i64 k∧1≤k∧k≤b) (fun k=>b-k) (si+1)
      (fun R H'=>At H' (fun H'=>bV c n H (fun dx=>dx=d4) H')∧R 0=.aB c 0 n 1∧R 1=.int .i64 a∧R 2=.int .i64 b∧R 0=.aB c 0 n 1∧R 7=.int .i64 si∧R 8=.int .i64 j) ⟨.i ⟨d3,hd,mK,oO.symm,ay⟩,?_,?_,?_,?_,?_,?_,?_,by omega,by omega⟩ ?_ ?_
     ·simp -implicitDefEqProofs only[op,ef,cl,sq,reduceIte,j2,j3,j4,j5,j6,j7,j8,j9,y1,S1,h0]
     ·simp -implicitDefEqProofs only[op,ef,cl,sq,reduceIte,j2,j3,j4,j5,j6,j7,j8,j9,y1,S1,h1]
     ·simp -implicitDefEqProofs only[op,ef,cl,sq,reduceIte,j2,j3,j4,j5,j6,j7,j8,j9,y1,S1,h2]
     ·simp -implicitDefEqProofs only[op,ef,cl,sq,reduceIte,j2,j3,j4,j5,j6,j7,j8,j9,y1,S1,h3]
     ·simp -implicitDefEqProofs only[op,ef,cl,sq,reduceIte,j2,j3,j4,j5,j6,j7,j8,j9,y1,S1,h9]
     ·simp -implicitDefEqProofs only[op,ef,cl,sq,reduceIte,j2,j3,j4,j5,j6,j7,j8,j9,y1,S1,aG]
     ·simp -implicitDefEqProofs only[op,ef,cl,sq,reduceIte,j2,j3,j4,j5,j6,j7,j8,j9,y1,S1]
     ·rintro k R H2⟨⟨dx,hd,aQ,hk,ay⟩,h0,h1,h2,h3,h9,aG,aF,o9,xf⟩
      have lc:=bo hd
      by_cases bE:k<b
      ·simp -implicitDefEqProofs (maxSteps:=1000000) (disch:=omega) only[aa,ah,ai,aj,ak,aq,ar,wA,aP,wS,aO,wM,S2,op,ef,cl,sq,reduceIte,j2,j3,j4,j5,j6,j7,j8,j9,y1,S1,h0,h1,h2,h3,h9,aG,aF,bE,hd,lc]
       refine af _ _ _ _ _ _ _ _ (aX dx[k]! dx[k-1]! _) ?_
       rintro u H3⟨hu,dk⟩
       cases hu
       have hx:Ext H2 H3:=by rw[dk];exact Ext.rfl'
       have hd:=hx.get hd
       have lc:=bo hd
       have ay:=ay.trans (aN (F:=fun _=>False) hx) (fun _ h=>h.elim)
       have ct:strLt dx[k]! dx[k-1]! = decide (strLt dx[k]! dx[k-1]! = true):=by simp
       rw[shiftUp,if_pos bE]at hk
       by_cases c1:strLt dx[k]! dx[k-1]! = true
       ·simp -implicitDefEqProofs (maxSteps:=1000000) (disch:=omega) only[aa,ah,ai,aj,ak,aq,ar,wA,aP,wS,aO,wM,S2,op,ef,cl,sq,reduceIte,j2,j3,j4,j5,j6,j7,j8,j9,y1,S1,h0,h1,h2,h3,h9,aG,aF,bE,hd,lc,c1]
        rw[if_neg (iM (ct.trans (bB c1)))]at hk
        exact⟨k+1,by omega,.i (.swp hd (by rw[swp_size];exact aQ) hk ay),rfl,by omega,by omega⟩
       ·simp -implicitDefEqProofs (maxSteps:=1000000) (disch:=omega) only[aa,ah,ai,aj,ak,aq,ar,wA,aP,wS,aO,wM,S2,op,ef,cl,sq,reduceIte,j2,j3,j4,j5,j6,j7,j8,j9,y1,S1,h0,h1,h2,h3,h9,aG,aF,bE,hd,lc,c1]
        rw[if_pos (dA (ct.trans (bw c1)))]at hk
        exact .i ⟨dx,hd,aQ,hk,ay⟩
      ·simp -implicitDefEqProofs only[op,ef,cl,sq,reduceIte,j2,j3,j4,j5,j6,j7,j8,j9,y1,S1,h0,h1,h2,h3,h9,aG,aF,bE]
       rw[shiftUp,if_neg bE]at hk
       exact .i ⟨dx,hd,aQ,hk,ay⟩
     ·rintro R H2⟨⟨dx,hd,aQ,rfl,ay⟩,h0,h1,h2,h3,h9,aG⟩
      simp -implicitDefEqProofs (maxSteps:=1000000) (disch:=omega) only[aa,ah,ai,aj,ak,aq,ar,wA,aP,wS,aO,wM,S2,op,ef,cl,sq,reduceIte,j2,j3,j4,j5,j6,j7,j8,j9,y1,S1,h0,h1,h2,h3,h9,aG]
      exact⟨j+1,by omega,.i ⟨si,rfl,by omega,by omega,dx,hd,aQ,by rw[rp];exact hP,ay⟩,rfl,by omega⟩
    ·rw[if_neg hB]at oO
     subst oO
     simp -implicitDefEqProofs (maxSteps:=1000000) (disch:=omega) only[aa,ah,ai,aj,ak,aq,ar,wA,aP,wS,aO,wM,S2,op,ef,cl,sq,reduceIte,j2,j3,j4,j5,j6,j7,j8,j9,y1,S1,h0,h1,h2,h3,h9,aG,hB]
     exact⟨j+1,by omega,.i ⟨si,rfl,by omega,by omega,d4,hd,mK,by rw[rp];exact hP,ay⟩,rfl,by omega⟩
 ·rintro R H1⟨di,hd,aQ,hP,ay⟩
  try simp -implicitDefEqProofs only[op,ef,cl,sq,reduceIte,j2,j3,j4,j5,j6,j7,j8,j9,y1,S1]
  rw[←hP]
  exact⟨rfl,di,hd,aQ,rfl,ay⟩
structure jz (R:ax)(c n a b br:Nat)(wb wp:Bool):Prop where
 r0:R 0=.aB c 0 n 1
 r1:R 1=.int .i64 a
 r2:R 2=.int .i64 b
 r3:R 3=.int .i64 br
 r4:R 0=.aB c 0 n 1
 UU:R 8=.bool wb
 UW:R 9=.bool wp
 UX:R 10=.int .i64 (b-a:Nat)
open Go.Sort in
theorem Ch (A:C)(hA:(cr dt.body 1).map (dc · 3)=some A)(c n a b br:Nat)(wb wp:Bool)(d:Array ByteArray)(R:ax)(H0 H:ae)(K:Out→ae→Prop)(hp:jz R c n a b br wb wp)(hd:bV c n H0 (fun x=>x=d) H)(hb:b≤n)(ga:a+12<b)(hs:n<16777216)(hl:1≤br∧br<1000)
  (rest:∀R' H',jz R' c n a b (if (!wb)=true then br-1 else br) wb wp→bV c n H0 (fun x=>x=if (!wb)=true then breakPatterns d a b else d) H'→K (.ex .normal R') H'):fQ env A R H K:=by
 simp[dt,cr,dc,sq]at hA
 subst hA
 obtain⟨h0,h1,h2,h3,h4,aG,aM,aF⟩:=hp
 obtain⟨di,hc,hn,rfl,ay⟩:=hd
 cases wb with
 | true =>
  simp -implicitDefEqProofs (maxSteps:=1000000) (disch:=omega) only[op,ef,cl,sq,reduceIte,j2,j3,j4,j5,j6,j7,j8,j9,y1,S1,h0,h1,h2,h3,h4,aG,aM,aF]
  exact rest _ _ ⟨by simp -implicitDefEqProofs only[op,ef,cl,sq,reduceIte,j2,j3,j4,j5,j6,j7,j8,j9,y1,S1,h0],by simp -implicitDefEqProofs only[op,ef,cl,sq,reduceIte,j2,j3,j4,j5,j6,j7,j8,j9,y1,S1,h1],by simp -implicitDefEqProofs only[op,ef,cl,sq,reduceIte,j2,j3,j4,j5,j6,j7,j8,j9,y1,S1,h2],by simp -implicitDefEqProofs only[op,ef,cl,sq,reduceIte,j2,j3,j4,j5,j6,j7,j8,j9,y1,S1,h3],by simp -implicitDefEqProofs only[op,ef,cl,sq,reduceIte,j2,j3,j4,j5,j6,j7,j8,j9,y1,S1,h4],by simp -implicitDefEqProofs only[op,ef,cl,sq,reduceIte,j2,j3,j4,j5,j6,j7,j8,j9,y1,S1,aG],by simp -implicitDefEqProofs only[op,ef,cl,sq,reduceIte,j2,j3,j4,j5,j6,j7,j8,j9,y1,S1,aM],by simp -implicitDefEqProofs only[op,ef,cl,sq,reduceIte,j2,j3,j4,j5,j6,j7,j8,j9,y1,S1,aF]⟩ ⟨di,hc,hn,rfl,ay⟩
 | false =>
  simp -implicitDefEqProofs (maxSteps:=1000000) (disch:=omega) only[op,ef,cl,sq,reduceIte,j2,j3,j4,j5,j6,j7,j8,j9,y1,S1,h0,h1,h2,h3,h4,aG,aM,aF]
  refine af _ _ _ _ _ _ _ _ (rm c n di a b _ hn hc hb ga hs) ?_
  rintro u H2⟨hu,d2,bm,fo,e2,cR⟩
  cases hu
  simp -implicitDefEqProofs (maxSteps:=1000000) (disch:=omega) only[aa,ah,ai,aj,ak,aq,ar,wA,aP,wS,aO,wM,S2,op,ef,cl,sq,reduceIte,j2,j3,j4,j5,j6,j7,j8,j9,y1,S1,h0,h1,h2,h3,h4,aG,aM,aF]
  exact rest _ _ ⟨by simp -implicitDefEqProofs only[op,ef,cl,sq,reduceIte,j2,j3,j4,j5,j6,j7,j8,j9,y1,S1,h0],by simp -implicitDefEqProofs only[op,ef,cl,sq,reduceIte,j2,j3,j4,j5,j6,j7,j8,j9,y1,S1,h1],by simp -implicitDefEqProofs only[op,ef,cl,sq,reduceIte,j2,j3,j4,j5,j6,j7,j8,j9,y1,S1,h2],by simp -implicitDefEqProofs only[op,ef,cl,sq,reduceIte,j2,j3,j4,j5,j6,j7,j8,j9,y1,S1],by simp -implicitDefEqProofs only[op,ef,cl,sq,reduceIte,j2,j3,j4,j5,j6,j7,j8,j9,y1,S1,h4],by simp -implicitDefEqProofs only[op,ef,cl,sq,reduceIte,j2,j3,j4,j5,j6,j7,j8,j9,y1,S1,aG],by simp -implicitDefEqProofs only[op,ef,cl,sq,reduceIte,j2,j3,j4,j5,j6,j7,j8,j9,y1,S1,aM],by simp -implicitDefEqProofs only[op,ef,cl,sq,reduceIte,j2,j3,j4,j5,j6,j7,j8,j9,y1,S1,aF]⟩ ⟨d2,bm,fo,e2,ay.trans cR fun _ h=>.inl h⟩
open Go.Sort in
theorem Ci (A:C)(hA:(cr dt.body 1).map (dc · 5)=some A)(c n a b br:Nat)(wb wp:Bool)(d:Array ByteArray)(pv:Nat)(hi:Hint)(R:ax)(H0 H:ae)(K:Out→ae→Prop)(hp:jz R c n a b br wb wp)(aU:R 11=.int .i64 pv)(kN:R 12=.int .i64 (fm hi))(hd:bV c n H0 (fun x=>x=d) H)(hb:b≤n)(ga:a+12<b)(hs:n<16777216)(ki:a≤pv∧pv<b)
  (rest:∀R' H',jz R' c n a b br wb wp→R' 11=.int .i64 (if hi=.decreasing then(b-1)-(pv-a)else pv:Nat)→R' 12=.int .i64 (fm (if hi=.decreasing then Hint.increasing else hi))→bV c n H0 (fun x=>x=if hi=.decreasing then reverseRange d a b else d) H'→K (.ex .normal R') H'):fQ env A R H K:=by
 simp[dt,cr,dc,sq]at hA
 subst hA
 obtain⟨h0,h1,h2,h3,h4,aG,aM,aF⟩:=hp
 obtain⟨di,hc,hn,rfl,ay⟩:=hd
 have e:((fm hi)==2)=decide (hi=.decreasing):=by cases hi<;>decide
 by_cases hh:hi=.decreasing
 ·rw[decide_eq_true hh]at e
  simp -implicitDefEqProofs (maxSteps:=1000000) (disch:=omega) only[op,ef,cl,sq,reduceIte,j2,j3,j4,j5,j6,j7,j8,j9,y1,S1,h0,h1,h2,h3,h4,aG,aM,aF,aU,kN,e]
  refine af _ _ _ _ _ _ _ _ (Cb c n di a b _ hn hc hb (by omega) (by omega)) ?_
  rintro u H2⟨hu,d2,bm,fo,e2,cR⟩
  cases hu
  simp -implicitDefEqProofs (maxSteps:=1000000) (disch:=omega) only[aa,ah,ai,aj,ak,aq,ar,wA,aP,wS,aO,wM,S2,op,ef,cl,sq,reduceIte,j2,j3,j4,j5,j6,j7,j8,j9,y1,S1,h0,h1,h2,h3,h4,aG,aM,aF,aU,kN]
  refine rest _ _ ⟨?_,?_,?_,?_,?_,?_,?_,?_⟩ ?_ ?_ ⟨d2,bm,fo,?_,ay.trans cR fun _ h=>.inl h⟩
  all_goals simp -implicitDefEqProofs only[op,ef,cl,sq,reduceIte,j2,j3,j4,j5,j6,j7,j8,j9,y1,S1,h0,h1,h2,h3,h4,aG,aM,aF,if_pos hh,fm]
  exact e2
 ·rw[decide_eq_false hh]at e
  simp -implicitDefEqProofs (maxSteps:=1000000) (disch:=omega) only[op,ef,cl,sq,reduceIte,j2,j3,j4,j5,j6,j7,j8,j9,y1,S1,h0,h1,h2,h3,h4,aG,aM,aF,aU,kN,e]
  refine rest _ _ ⟨?_,?_,?_,?_,?_,?_,?_,?_⟩ ?_ ?_ ⟨di,hc,hn,?_,ay⟩
  all_goals simp -implicitDefEqProofs only[op,ef,cl,sq,reduceIte,j2,j3,j4,j5,j6,j7,j8,j9,y1,S1,h0,h1,h2,h3,h4,aG,aM,aF,aU,kN,if_neg hh]
open Go.Sort in
theorem Cj (A:C)(hA:(cr dt.body 1).map (dc · 6)=some A)(c n a b br:Nat)(wb wp:Bool)(d:Array ByteArray)(pv:Nat)(hi:Hint)(R:ax)(H0 H:ae)(K:Out→ae→Prop)(hp:jz R c n a b br wb wp)(aU:R 11=.int .i64 pv)(kN:R 12=.int .i64 (fm hi))(hd:bV c n H0 (fun x=>x=d) H)(hb:b≤n)(ga:a+12<b)(hs:n<16777216)
  (pi:Array ByteArray×Bool) (Ck:pi=if (wb&&wp&&hi=.increasing)=true then partialInsertionSort strLt d a b else(d,false))
  (fV:∀R' H',pi.2=true→bV c n H0 (fun x=>x=pi.1) H'→K (.ex .ret R') H')
  (dU:∀R' H',pi.2=false→jz R' c n a b br wb wp→R' 11=.int .i64 pv→bV c n H0 (fun x=>x=pi.1) H'→K (.ex .normal R') H'):fQ env A R H K:=by
 simp[dt,cr,dc,sq]at hA
 subst hA
 obtain⟨h0,h1,h2,h3,h4,aG,aM,aF⟩:=hp
 obtain⟨di,hc,hn,rfl,ay⟩:=hd
 have e:((fm hi)==1)=decide (hi=.increasing):=by cases hi<;>decide
 have no:(wb&&wp&&decide (hi=.increasing))=false→∀R',jz R' c n a b br wb wp→R' 11=.int .i64 pv→K (.ex .normal R') H:=fun h R' q q'=>dU R' H (by rw[Ck,h];rfl) q q' ⟨di,hc,hn,by rw[Ck,h];rfl,ay⟩
 cases wb with
 | false =>
  simp -implicitDefEqProofs only[op,ef,cl,sq,reduceIte,j2,j3,j4,j5,j6,j7,j8,j9,y1,S1,h0,h1,h2,h3,h4,aG,aM,aF,aU,kN]
  refine no rfl _ ⟨?_,?_,?_,?_,?_,?_,?_,?_⟩ ?_
  all_goals simp -implicitDefEqProofs only[op,ef,cl,sq,reduceIte,j2,j3,j4,j5,j6,j7,j8,j9,y1,S1,h0,h1,h2,h3,h4,aG,aM,aF,aU]
 | true =>
  cases wp with
  | false =>
   simp -implicitDefEqProofs only[op,ef,cl,sq,reduceIte,j2,j3,j4,j5,j6,j7,j8,j9,y1,S1,h0,h1,h2,h3,h4,aG,aM,aF,aU,kN]
   refine no rfl _ ⟨?_,?_,?_,?_,?_,?_,?_,?_⟩ ?_
   all_goals simp -implicitDefEqProofs only[op,ef,cl,sq,reduceIte,j2,j3,j4,j5,j6,j7,j8,j9,y1,S1,h0,h1,h2,h3,h4,aG,aM,aF,aU]
  | true =>
   by_cases hh:hi=.increasing
   ·rw[decide_eq_true hh]at e
    rw[decide_eq_true hh]at Ck
    simp -implicitDefEqProofs only[op,ef,cl,sq,reduceIte,j2,j3,j4,j5,j6,j7,j8,j9,y1,S1,h0,h1,h2,h3,h4,aG,aM,aF,aU,kN,e]
    refine af _ _ _ _ _ _ _ _ (uW c n di a b _ hn hc hb (by omega) (by omega)) ?_
    rintro u H2⟨hu,d2,bm,fo,e2,cR⟩
    cases hu
    rw[if_pos (show(true&&true&&true)=true from rfl)]at Ck
    rw[←Ck]at e2 ⊢
    cases pC:pi.2 with
    | true =>
     try simp -implicitDefEqProofs only[op,ef,cl,sq,reduceIte,j2,j3,j4,j5,j6,j7,j8,j9,y1,S1]
     exact fV _ _ pC ⟨d2,bm,fo,e2,ay.trans cR fun _ h=>.inl h⟩
    | false =>
     try simp -implicitDefEqProofs only[op,ef,cl,sq,reduceIte,j2,j3,j4,j5,j6,j7,j8,j9,y1,S1]
     refine dU _ _ pC ⟨?_,?_,?_,?_,?_,?_,?_,?_⟩ ?_ ⟨d2,bm,fo,e2,ay.trans cR fun _ h=>.inl h⟩
     all_goals simp -implicitDefEqProofs only[op,ef,cl,sq,reduceIte,j2,j3,j4,j5,j6,j7,j8,j9,y1,S1,h0,h1,h2,h3,h4,aG,aM,aF,aU]
   ·rw[decide_eq_false hh]at e
    simp -implicitDefEqProofs only[op,ef,cl,sq,reduceIte,j2,j3,j4,j5,j6,j7,j8,j9,y1,S1,h0,h1,h2,h3,h4,aG,aM,aF,aU,kN,e]
    refine no (by rw[decide_eq_false hh];rfl) _ ⟨?_,?_,?_,?_,?_,?_,?_,?_⟩ ?_
    all_goals simp -implicitDefEqProofs only[op,ef,cl,sq,reduceIte,j2,j3,j4,j5,j6,j7,j8,j9,y1,S1,h0,h1,h2,h3,h4,aG,aM,aF,aU]
open Go.Sort in
theorem Cl (A:C)(hA:(cr dt.body 1).map (dc · 7)=some A)(c n a b br:Nat)(wb wp:Bool)(d:Array ByteArray)(pv:Nat)(R:ax)(H0 H:ae)(K:Out→ae→Prop)(hp:jz R c n a b br wb wp)(aU:R 11=.int .i64 pv)(hd:bV c n H0 (fun x=>x=d) H)(hb:b≤n)(ga:a+12<b)(hs:n<16777216)(ki:a≤pv∧pv<b)
  (fV:∀R' H',(a>0&&!strLt d[a-1]! d[pv]!)=true→R' 0=.aB c 0 n 1→R' 1=.int .i64 (partitionEqual strLt d a b pv).1→R' 2=.int .i64 b→R' 3=.int .i64 br→R' 0=.aB c 0 n 1→R' 8=.bool wb→R' 9=.bool wp→bV c n H0 (fun x=>x=(partitionEqual strLt d a b pv).2) H'→K (.ex (.exit 1) R') H')
  (dU:∀R' H',(a>0&&!strLt d[a-1]! d[pv]!)=false→jz R' c n a b br wb wp→R' 11=.int .i64 pv→bV c n H0 (fun x=>x=d) H'→K (.ex .normal R') H'):fQ env A R H K:=by
 simp[dt,cr,dc,sq]at hA
 subst hA
 obtain⟨h0,h1,h2,h3,h4,aG,aM,aF⟩:=hp
 obtain⟨di,hd,hn,rfl,ay⟩:=hd
 have lc:=bo hd
 by_cases ha:0<a
 ·simp -implicitDefEqProofs (maxSteps:=1000000) (disch:=omega) only[aa,ah,ai,aj,ak,aq,ar,wA,aP,wS,aO,wM,S2,op,ef,cl,sq,reduceIte,j2,j3,j4,j5,j6,j7,j8,j9,y1,S1,h0,h1,h2,h3,h4,aG,aM,aF,aU,ha,hd,lc]
  refine af _ _ _ _ _ _ _ _ (aX di[a-1]! di[pv]! _) ?_
  rintro u H3⟨hu,dk⟩
  cases hu
  have hx:Ext H H3:=by rw[dk];exact Ext.rfl'
  have hd:=hx.get hd
  have lc:=bo hd
  have ay:=ay.trans (aN (F:=fun _=>False) hx) (fun _ h=>h.elim)
  have ct:strLt di[a-1]! di[pv]! = decide (strLt di[a-1]! di[pv]! = true):=by simp
  by_cases c1:strLt di[a-1]! di[pv]! = true
  ·simp -implicitDefEqProofs (maxSteps:=1000000) (disch:=omega) only[aa,ah,ai,aj,ak,aq,ar,wA,aP,wS,aO,wM,S2,op,ef,cl,sq,reduceIte,j2,j3,j4,j5,j6,j7,j8,j9,y1,S1,h0,h1,h2,h3,h4,aG,aM,aF,aU,ha,hd,lc,c1]
   refine dU _ _ (by rw[ct,bB c1];simp) ⟨?_,?_,?_,?_,?_,?_,?_,?_⟩ ?_ ⟨di,hd,hn,rfl,ay⟩
   all_goals simp -implicitDefEqProofs only[op,ef,cl,sq,reduceIte,j2,j3,j4,j5,j6,j7,j8,j9,y1,S1,h0,h1,h2,h3,h4,aG,aM,aF,aU]
  ·simp -implicitDefEqProofs (maxSteps:=1000000) (disch:=omega) only[aa,ah,ai,aj,ak,aq,ar,wA,aP,wS,aO,wM,S2,op,ef,cl,sq,reduceIte,j2,j3,j4,j5,j6,j7,j8,j9,y1,S1,h0,h1,h2,h3,h4,aG,aM,aF,aU,ha,hd,lc,c1]
   refine af _ _ _ _ _ _ _ _ (Ce c n di a b pv _ hn hd hb (by omega) (by omega) (by omega)) ?_
   rintro u H4⟨hu,d2,bm,fo,e2,cR⟩
   cases hu
   try simp -implicitDefEqProofs only[op,ef,cl,sq,reduceIte,j2,j3,j4,j5,j6,j7,j8,j9,y1,S1]
   refine fV _ _ (by rw[ct,bw c1];simp;exact ha) ?_ ?_ ?_ ?_ ?_ ?_ ?_ ⟨d2,bm,fo,e2,ay.trans cR fun _ h=>.inl h⟩
   all_goals simp -implicitDefEqProofs only[op,ef,cl,sq,reduceIte,j2,j3,j4,j5,j6,j7,j8,j9,y1,S1,h0,h1,h2,h3,h4,aG,aM,aF,aU]
 ·simp -implicitDefEqProofs only[op,ef,cl,sq,reduceIte,j2,j3,j4,j5,j6,j7,j8,j9,y1,S1,h0,h1,h2,h3,h4,aG,aM,aF,aU,ha]
  refine dU _ _ (by rw[decide_eq_false ha];rfl) ⟨?_,?_,?_,?_,?_,?_,?_,?_⟩ ?_ ⟨di,hd,hn,rfl,ay⟩
  all_goals simp -implicitDefEqProofs only[op,ef,cl,sq,reduceIte,j2,j3,j4,j5,j6,j7,j8,j9,y1,S1,h0,h1,h2,h3,h4,aG,aM,aF,aU]
open Go.Sort in
theorem mL {d d1 d2:Array ByteArray}{a b br dh pv:Nat}{wb wp:Bool}{cp:Nat×Hint}{hi:Hint}{pi:Array ByteArray×Bool}(aF:¬b-a≤12)(hl:¬br=0)
  (e1:d1=if (!wb)=true then breakPatterns d a b else d) (el:dh=if (!wb)=true then br-1 else br) (ec:cp=choosePivot strLt d1 a b) (e2:d2=if cp.2=.decreasing then reverseRange d1 a b else d1)
  (ep:pv=if cp.2=.decreasing then(b-1)-(cp.1-a)else cp.1) (eh:hi=if cp.2=.decreasing then .increasing else cp.2) (E2:pi=if (wb&&wp&&hi=.increasing)=true then partialInsertionSort strLt d2 a b else(d2,false)) :
  pdq strLt d a b br wb wp=if pi.2=true then pi.1 else if (a>0&&!strLt pi.1[a-1]! pi.1[pv]!)=true then(if a<(partitionEqual strLt pi.1 a b pv).1∧(partitionEqual strLt pi.1 a b pv).1≤b then pdq strLt (partitionEqual strLt pi.1 a b pv).2 (partitionEqual strLt pi.1 a b pv).1 b dh wb wp else(partitionEqual strLt pi.1 a b pv).2)
   else(if a≤(partition strLt pi.1 a b pv).1∧(partition strLt pi.1 a b pv).1<b then if (partition strLt pi.1 a b pv).1-a<b-(partition strLt pi.1 a b pv).1 then pdq strLt (pdq strLt (partition strLt pi.1 a b pv).2.2 a (partition strLt pi.1 a b pv).1 dh true true) ((partition strLt pi.1 a b pv).1+1) b dh (decide ((partition strLt pi.1 a b pv).1-a≥(b-a)/8)) (partition strLt pi.1 a b pv).2.1
    else pdq strLt (pdq strLt (partition strLt pi.1 a b pv).2.2 ((partition strLt pi.1 a b pv).1+1) b dh true true) a (partition strLt pi.1 a b pv).1 dh (decide (b-(partition strLt pi.1 a b pv).1≥(b-a)/8)) (partition strLt pi.1 a b pv).2.1 else(partition strLt pi.1 a b pv).2.2):=by
 subst E2 eh ep e2 ec el e1
 rw[pdq,if_neg aF,if_neg hl]
 rfl
open Go.Sort in
theorem kO (d:Array ByteArray){a b pv:Nat}(h1:a≤pv)(h2:pv<b)(hb:b≤d.size):a<(partitionEqual strLt d a b pv).1∧(partitionEqual strLt d a b pv).1≤b:=by
 have:=partEqLoop_spec (lt:=strLt) a b b (a+1) (b-1) (swp d a pv) (by omega) (by omega) (by omega) (by omega) (by rw[swp_size];exact hb) (fun t h h'=>by omega) (fun t h h'=>by omega)
 exact⟨this.1,this.2.1⟩
open Go.Sort in
theorem Cm (A:C)(hA:(cr dt.body 1).map (dc · 0)=some A)(c n a b br:Nat)(wb wp:Bool)(R:ax)(H:ae)(K:Out→ae→Prop)(h0:R 0=.aB c 0 n 1)(h1:R 1=.int .i64 a)(h2:R 2=.int .i64 b)(h3:R 3=.int .i64 br)(h4:R 0=.aB c 0 n 1)(aG:R 8=.bool wb)(aM:R 9=.bool wp)(ga:a≤b)(hb:b<16777216)
  (rest:∀R',jz R' c n a b br wb wp→K (.ex .normal R') H):fQ env A R H K:=by
 simp[dt,cr,dc,sq]at hA
 subst hA
 simp -implicitDefEqProofs (maxSteps:=1000000) (disch:=omega) only[aa,ah,ai,aj,ak,aq,ar,wA,aP,wS,aO,wM,S2,op,ef,cl,sq,reduceIte,j2,j3,j4,j5,j6,j7,j8,j9,y1,S1,h0,h1,h2,h3,h4,aG,aM]
 refine rest _ ⟨?_,?_,?_,?_,?_,?_,?_,?_⟩
 all_goals simp -implicitDefEqProofs only[op,ef,cl,sq,reduceIte,j2,j3,j4,j5,j6,j7,j8,j9,y1,S1,h0,h1,h2,h3,h4,aG,aM]
open Go.Sort in
theorem Cn (A:C)(hA:(cr dt.body 1).map (dc · 1)=some A)(c n a b br:Nat)(wb wp:Bool)(d:Array ByteArray)(R:ax)(H0 H:ae)(K:Out→ae→Prop)(hp:jz R c n a b br wb wp)(hd:bV c n H0 (fun x=>x=d) H)(hb:b≤n)(ga:a≤b)(hs:n<16777216)
  (fV:∀R' H',b-a≤12→bV c n H0 (fun x=>x=insertionSort strLt d a b) H'→K (.ex .ret R') H')
  (dU:∀R',¬b-a≤12→jz R' c n a b br wb wp→K (.ex .normal R') H):fQ env A R H K:=by
 simp[dt,cr,dc,sq]at hA
 subst hA
 obtain⟨h0,h1,h2,h3,h4,aG,aM,aF⟩:=hp
 obtain⟨di,hc,hn,rfl,ay⟩:=hd
 by_cases hle:b-a≤12
 ·simp -implicitDefEqProofs only[op,ef,cl,sq,reduceIte,j2,j3,j4,j5,j6,j7,j8,j9,y1,S1,h0,h1,h2,h3,h4,aG,aM,aF,hle]
  have hi:=wI c di a b H hc (by omega) ga (by omega)
  rw[hn]at hi
  refine af _ _ _ _ _ _ _ _ hi ?_
  rintro u H2⟨hu,bm,cR⟩
  cases hu
  try simp -implicitDefEqProofs only[op,ef,cl,sq,reduceIte,j2,j3,j4,j5,j6,j7,j8,j9,y1,S1]
  exact fV _ _ hle ⟨_,bm,by rw[(insertionSort_holds mH di a b ga (by omega)).1.1];exact hn,rfl,ay.trans cR fun _ h=>.inl h⟩
 ·simp -implicitDefEqProofs only[op,ef,cl,sq,reduceIte,j2,j3,j4,j5,j6,j7,j8,j9,y1,S1,h0,h1,h2,h3,h4,aG,aM,aF,hle]
  refine dU _ hle ⟨?_,?_,?_,?_,?_,?_,?_,?_⟩
  all_goals simp -implicitDefEqProofs only[op,ef,cl,sq,reduceIte,j2,j3,j4,j5,j6,j7,j8,j9,y1,S1,h0,h1,h2,h3,h4,aG,aM,aF]
open Go.Sort in
theorem Co (A:C)(hA:(cr dt.body 1).map (dc · 2)=some A)(c n a b br:Nat)(wb wp:Bool)(d:Array ByteArray)(R:ax)(H0 H:ae)(K:Out→ae→Prop)(hp:jz R c n a b br wb wp)(hd:bV c n H0 (fun x=>x=d) H)(hb:b≤n)(ga:a+12<b)(hs:n<16777216)
  (fV:∀R' H',br=0→bV c n H0 (fun x=>x=heapSort strLt d a b) H'→K (.ex .ret R') H')
  (dU:∀R',¬br=0→jz R' c n a b br wb wp→K (.ex .normal R') H):fQ env A R H K:=by
 simp[dt,cr,dc,sq]at hA
 subst hA
 obtain⟨h0,h1,h2,h3,h4,aG,aM,aF⟩:=hp
 obtain⟨di,hc,hn,rfl,ay⟩:=hd
 by_cases hl:br=0
 ·subst hl
  have e:(((0:Nat):Int)==0)=true:=rfl
  simp -implicitDefEqProofs only[op,ef,cl,sq,reduceIte,j2,j3,j4,j5,j6,j7,j8,j9,y1,S1,h0,h1,h2,h3,h4,aG,aM,aF,e]
  refine af _ _ _ _ _ _ _ _ (uT c n di a b _ hn hc hb (by omega) (by omega)) ?_
  rintro u H2⟨hu,d2,bm,fo,e2,cR⟩
  cases hu
  try simp -implicitDefEqProofs only[op,ef,cl,sq,reduceIte,j2,j3,j4,j5,j6,j7,j8,j9,y1,S1]
  exact fV _ _ rfl ⟨_,bm,fo,e2,ay.trans cR fun _ h=>.inl h⟩
 ·have e:((br:Int)==0)=false:=by simp;omega
  simp -implicitDefEqProofs only[op,ef,cl,sq,reduceIte,j2,j3,j4,j5,j6,j7,j8,j9,y1,S1,h0,h1,h2,h3,h4,aG,aM,aF,e]
  refine dU _ hl ⟨?_,?_,?_,?_,?_,?_,?_,?_⟩
  all_goals simp -implicitDefEqProofs only[op,ef,cl,sq,reduceIte,j2,j3,j4,j5,j6,j7,j8,j9,y1,S1,h0,h1,h2,h3,h4,aG,aM,aF]
open Go.Sort in
theorem Cp (A:C)(hA:(cr dt.body 1).map (dc · 4)=some A)(c n a b br:Nat)(wb wp:Bool)(d:Array ByteArray)(R:ax)(H0 H:ae)(K:Out→ae→Prop)(hp:jz R c n a b br wb wp)(hd:bV c n H0 (fun x=>x=d) H)(hb:b≤n)(ga:a+12<b)(hs:n<16777216)
  (rest:∀R' H',jz R' c n a b br wb wp→R' 11=.int .i64 (choosePivot strLt d a b).1→R' 12=.int .i64 (fm (choosePivot strLt d a b).2)→bV c n H0 (fun x=>x=d) H'→K (.ex .normal R') H'):fQ env A R H K:=by
 simp[dt,cr,dc,sq]at hA
 subst hA
 obtain⟨h0,h1,h2,h3,h4,aG,aM,aF⟩:=hp
 obtain⟨di,hc,hn,rfl,ay⟩:=hd
 simp -implicitDefEqProofs only[op,ef,cl,sq,reduceIte,j2,j3,j4,j5,j6,j7,j8,j9,y1,S1,h0,h1,h2,h3,h4,aG,aM,aF]
 refine af _ _ _ _ _ _ _ _ (oL c n di a b _ hn hc hb ga (by omega)) ?_
 rintro u H2⟨hu,hx⟩
 cases hu
 try simp -implicitDefEqProofs only[op,ef,cl,sq,reduceIte,j2,j3,j4,j5,j6,j7,j8,j9,y1,S1]
 refine rest _ _ ⟨?_,?_,?_,?_,?_,?_,?_,?_⟩ ?_ ?_ ⟨di,hx.get hc,hn,rfl,ay.trans (aN (F:=fun _=>False) hx) (fun _ h=>h.elim)⟩
 all_goals simp -implicitDefEqProofs only[op,ef,cl,sq,reduceIte,j2,j3,j4,j5,j6,j7,j8,j9,y1,S1,h0,h1,h2,h3,h4,aG,aM,aF]
open Go.Sort in
theorem Cq (A:C)(hA:(cr dt.body 1).map (B6 · 8)=some A)(c n a b br:Nat)(wb wp:Bool)(d:Array ByteArray)(pv:Nat)(R:ax)(H0 H:ae)(K:Out→ae→Prop)(hp:jz R c n a b br wb wp)(aU:R 11=.int .i64 pv)(hd:bV c n H0 (fun x=>x=d) H)(hb:b≤n)(ga:a+12<b)(hs:n<16777216)(ki:a≤pv∧pv<b)
  (ih:∀a' b' (d':Array ByteArray) H',b'-a'<b-a→a'≤b'→b'≤n→d'.size=n→H'[c]?=some (.cells (aK eS d'.toList))→W env (.call 181 [.aB c 0 n 1,.int .i64 a',.int .i64 b',.int .i64 br]) H' (fU c n (pdq strLt d' a' b' br true true) H'))
  (rest:∀R' H' a' b' (d':Array ByteArray) (E3:Bool),a≤a'→a'≤b'→b'≤b→b'-a'<b-a→R' 0=.aB c 0 n 1→R' 1=.int .i64 (a':Nat)→R' 2=.int .i64 (b':Nat)→R' 3=.int .i64 br→R' 0=.aB c 0 n 1→R' 8=.bool E3→R' 9=.bool (partition strLt d a b pv).2.1 →
   pdq strLt d' a' b' br E3 (partition strLt d a b pv).2.1=(if (partition strLt d a b pv).1-a<b-(partition strLt d a b pv).1 then pdq strLt (pdq strLt (partition strLt d a b pv).2.2 a (partition strLt d a b pv).1 br true true) ((partition strLt d a b pv).1+1) b br (decide ((partition strLt d a b pv).1-a≥(b-a)/8)) (partition strLt d a b pv).2.1
    else pdq strLt (pdq strLt (partition strLt d a b pv).2.2 ((partition strLt d a b pv).1+1) b br true true) a (partition strLt d a b pv).1 br (decide (b-(partition strLt d a b pv).1≥(b-a)/8)) (partition strLt d a b pv).2.1) →
   bV c n H0 (fun x=>x=d') H'→K (.ex .normal R') H'):fQ env A R H K:=by
 simp[dt,cr,B6,sq]at hA
 subst hA
 obtain⟨h0,h1,h2,h3,h4,aG,aM,aF⟩:=hp
 obtain⟨di,hc,hn,rfl,ay⟩:=hd
 have lG:=partition_holds strLt mH di a b pv ki.1 ki.2 (by omega)
 simp -implicitDefEqProofs only[op,ef,cl,sq,reduceIte,j2,j3,j4,j5,j6,j7,j8,j9,y1,S1,h0,h1,h2,h3,h4,aG,aM,aF,aU]
 refine af _ _ _ _ _ _ _ _ (uV c n di a b pv _ hn hc hb (by omega) (by omega) (by omega)) ?_
 rintro u H2⟨hu,d2,bm,fo,e2,cR⟩
 cases hu
 generalize partition strLt di a b pv=r at *
 obtain⟨mid,ap,d4⟩:=r
 simp only at lG e2 rest ⊢
 subst e2
 obtain⟨m1,m2,_⟩:=lG
 have fT:=ay.trans cR fun _ h=>.inl h
 by_cases aE:mid-a<b-mid
 ·rw[if_pos aE]at rest
  simp -implicitDefEqProofs (maxSteps:=1000000) (disch:=omega) only[aa,ah,ai,aj,ak,aq,ar,wA,aP,wS,aO,wM,S2,op,ef,cl,sq,reduceIte,j2,j3,j4,j5,j6,j7,j8,j9,y1,S1,NV,h0,h1,h2,h3,h4,aG,aM,aF,aU,aE]
  refine af _ _ _ _ _ _ _ _ (ih a mid d2 _ (by omega) m1 (by omega) fo bm) ?_
  rintro u H3⟨hu,d3,jN,pt,e3,tD⟩
  cases hu
  simp -implicitDefEqProofs (maxSteps:=1000000) (disch:=omega) only[aa,ah,ai,aj,ak,aq,ar,wA,aP,wS,aO,wM,S2,op,ef,cl,sq,reduceIte,j2,j3,j4,j5,j6,j7,j8,j9,y1,S1,h0,h1,h2,h3,h4,aG,aM,aF,aU]
  refine rest _ _ (mid+1) b d3 (decide ((b-a)/8≤mid-a)) (by omega) (by omega) (Nat.le_refl _) (by omega) ?_ ?_ ?_ ?_ ?_ ?_ ?_ (by rw[e3]) ⟨d3,jN,pt,rfl,fT.trans tD fun _ h=>.inl h⟩
  all_goals simp -implicitDefEqProofs only[op,ef,cl,sq,reduceIte,j2,j3,j4,j5,j6,j7,j8,j9,y1,S1,h0,h1,h2,h3,h4,aG,aM,aF]
 ·rw[if_neg aE]at rest
  simp -implicitDefEqProofs (maxSteps:=1000000) (disch:=omega) only[aa,ah,ai,aj,ak,aq,ar,wA,aP,wS,aO,wM,S2,op,ef,cl,sq,reduceIte,j2,j3,j4,j5,j6,j7,j8,j9,y1,S1,NV,h0,h1,h2,h3,h4,aG,aM,aF,aU,aE]
  refine af _ _ _ _ _ _ _ _ (ih (mid+1) b d2 _ (by omega) m2 (by omega) fo bm) ?_
  rintro u H3⟨hu,d3,jN,pt,e3,tD⟩
  cases hu
  simp -implicitDefEqProofs (maxSteps:=1000000) (disch:=omega) only[aa,ah,ai,aj,ak,aq,ar,wA,aP,wS,aO,wM,S2,op,ef,cl,sq,reduceIte,j2,j3,j4,j5,j6,j7,j8,j9,y1,S1,h0,h1,h2,h3,h4,aG,aM,aF,aU]
  refine rest _ _ a mid d3 (decide ((b-a)/8≤b-mid)) (by omega) (by omega) (by omega) (by omega) ?_ ?_ ?_ ?_ ?_ ?_ ?_ (by rw[e3]) ⟨d3,jN,pt,rfl,fT.trans tD fun _ h=>.inl h⟩
  all_goals simp -implicitDefEqProofs only[op,ef,cl,sq,reduceIte,j2,j3,j4,j5,j6,j7,j8,j9,y1,S1,h0,h1,h2,h3,h4,aG,aM,aF]
open Go.Sort in
theorem Cr (c n:Nat)(hs:n<16777216):∀m a b br (d:Array ByteArray) H,b-a=m→a≤b→b≤n→br<1000→d.size=n→H[c]?=some (.cells (aK eS d.toList)) →
  W env (.call 181 [.aB c 0 n 1,.int .i64 (a:Nat),.int .i64 (b:Nat),.int .i64 (br:Nat)]) H (fU c n (pdq strLt d a b br true true) H):=by
 intro m
 induction m using Nat.strongRecOn with
 | _ m ih =>
 intro a b br d H hm ga hb Q1 hn hc
 subst hm
 refine W.cQ rfl rfl rfl ?_
 simp -implicitDefEqProofs only[dt,op,ef,cl,sq,reduceIte,j2,j3,j4,j5,j6,j7,j8,j9,y1,S1]
 refine W.fg (fun (q:Nat×Nat×Nat×Bool×Bool) R H'=>At H' (fun H'=>bV c n H (fun di=>pdq strLt di q.1 q.2.1 q.2.2.1 q.2.2.2.1 q.2.2.2.2=pdq strLt d a b br true true) H')∧R 0=.aB c 0 n 1∧R 1=.int .i64 q.1∧R 2=.int .i64 q.2.1∧R 3=.int .i64 q.2.2.1∧R 0=.aB c 0 n 1∧R 8=.bool q.2.2.2.1∧R 9=.bool q.2.2.2.2∧a≤q.1∧q.1≤q.2.1∧q.2.1≤b∧q.2.2.1≤br) (fun q=>q.2.1-q.1) (a,b,br,true,true) ⟨.i ⟨d,hc,hn,rfl,bX.refl _ _⟩,rfl,rfl,rfl,rfl,rfl,rfl,rfl,Nat.le_refl _,ga,Nat.le_refl _,Nat.le_refl _⟩ ?_
 rintro⟨a1,b1,l1,wb,wp⟩ R H1 ⟨⟨di,hd,aQ,hP,ay⟩,h0,h1,h2,h3,h4,aG,aM,q1,q2,q3,q4⟩
 simp only at hP h1 h2 h3 aG aM q1 q2 q3 q4 ⊢
 rw[nu,dZ]
 refine Cm _ rfl c n a1 b1 l1 wb wp R H1 _ h0 h1 h2 h3 h4 aG aM q2 (by omega) ?_
 intro R1 p1
 rw[cM,bW,dZ]
 refine Cn _ rfl c n a1 b1 l1 wb wp di R1 H H1 _ p1 ⟨di,hd,aQ,rfl,ay⟩ (by omega) q2 hs ?_ ?_
 ·rintro R' H' hle⟨d',eZ,dW,rfl,nk⟩
  rw[pdq,if_pos hle]at hP
  try simp -implicitDefEqProofs only[op,ef,cl,sq,reduceIte,j2,j3,j4,j5,j6,j7,j8,j9,y1,S1]
  exact⟨rfl,_,eZ,dW,hP,nk⟩
 intro R2 aF p2
 rw[cM,bW,dZ]
 refine Co _ rfl c n a1 b1 l1 wb wp di R2 H H1 _ p2 ⟨di,hd,aQ,rfl,ay⟩ (by omega) (by omega) hs ?_ ?_
 ·rintro R' H' vt⟨d',eZ,dW,rfl,nk⟩
  rw[pdq,if_neg aF,if_pos vt]at hP
  try simp -implicitDefEqProofs only[op,ef,cl,sq,reduceIte,j2,j3,j4,j5,j6,j7,j8,j9,y1,S1]
  exact⟨rfl,_,eZ,dW,hP,nk⟩
 intro R3 vt p3
 rw[cM,bW,dZ]
 refine Ch _ rfl c n a1 b1 l1 wb wp di R3 H H1 _ p3 ⟨di,hd,aQ,rfl,ay⟩ (by omega) (by omega) hs (by omega) ?_
 rintro R4 H4 p4⟨d1,oO,CV,e1,Cd⟩
 obtain⟨dh,el⟩:∃l,l=if (!wb)=true then l1-1 else l1:=⟨_,rfl⟩
 have hJ:dh≤l1:=by rw[el];split<;>omega
 rw[←el]at p4
 rw[cM,bW,dZ]
 refine Cp _ rfl c n a1 b1 dh wb wp d1 R4 H H4 _ p4 ⟨d1,oO,CV,rfl,Cd⟩ (by omega) (by omega) hs ?_
 rintro R5 H5 p5 aU kN⟨E4,MW,E1,JN,Q2⟩
 subst JN
 have MX:=choosePivot_holds strLt E4 a1 b1 (by omega)
 obtain⟨cp,ec⟩:∃x,x=choosePivot strLt E4 a1 b1:=⟨_,rfl⟩
 rw[←ec]at aU kN MX
 rw[cM,bW,dZ]
 refine Ci _ rfl c n a1 b1 dh wb wp E4 cp.1 cp.2 R5 H H5 _ p5 aU kN ⟨E4,MW,E1,rfl,Q2⟩ (by omega) (by omega) hs MX ?_
 rintro R6 H6 p6 aU kN⟨d2,Q3,Q4,e2,Q5⟩
 obtain⟨pv,ep⟩:∃x,x=if cp.2=.decreasing then(b1-1)-(cp.1-a1)else cp.1:=⟨_,rfl⟩
 obtain⟨hi,eh⟩:∃x,x=if cp.2=.decreasing then Hint.increasing else cp.2:=⟨_,rfl⟩
 rw[←ep]at aU
 rw[←eh]at kN
 have ki:a1≤pv∧pv<b1:=by rw[ep];split<;>omega
 rw[cM,bW,dZ]
 obtain⟨pi,E2⟩:∃x,x=if (wb&&wp&&hi=.increasing)=true then partialInsertionSort strLt d2 a1 b1 else(d2,false):=⟨_,rfl⟩
 rw[mL aF vt e1 el ec e2 ep eh E2]at hP
 refine Cj _ rfl c n a1 b1 dh wb wp d2 pv hi R6 H H6 _ p6 aU kN ⟨d2,Q3,Q4,rfl,Q5⟩ (by omega) (by omega) hs pi E2 ?_ ?_
 ·rintro R' H' Q6⟨d',eZ,dW,rfl,nk⟩
  rw[if_pos Q6]at hP
  try simp -implicitDefEqProofs only[op,ef,cl,sq,reduceIte,j2,j3,j4,j5,j6,j7,j8,j9,y1,S1]
  exact⟨rfl,_,eZ,dW,hP,nk⟩
 rintro R7 H7 Q7 p7 aU⟨d3,Q8,Q9,e3,Ra⟩
 rw[if_neg (by rw[Q7];simp),←e3]at hP
 rw[cM,bW,dZ]
 refine Cl _ rfl c n a1 b1 dh wb wp d3 pv R7 H H7 _ p7 aU ⟨d3,Q8,Q9,rfl,Ra⟩ (by omega) (by omega) hs ki ?_ ?_
 ·rintro R' H' fy g0 g1 g2 g3 g4 C6 IK⟨d',eZ,dW,e',nk⟩
  have hr:=kO d3 ki.1 ki.2 (by omega)
  rw[if_pos fy,if_pos hr,←e']at hP
  try simp -implicitDefEqProofs only[op,ef,cl,sq,reduceIte,j2,j3,j4,j5,j6,j7,j8,j9,y1,S1]
  exact⟨((partitionEqual strLt d3 a1 b1 pv).1,b1,dh,wb,wp),by simp only;omega,.i ⟨_,eZ,dW,hP,nk⟩,g0,g1,g2,g3,g4,C6,IK,by simp only;omega,by simp only;omega,by simp only;omega,by simp only;omega⟩
 rintro R8 H8 fy p8 aU⟨E5,J7,Rb,Rc,Re⟩
 subst Rc
 have hr:=partition_holds strLt mH E5 a1 b1 pv ki.1 ki.2 (by omega)
 rw[if_neg (by rw[fy];simp),if_pos ⟨hr.1,hr.2.1⟩]at hP
 rw[cM,bW]
 refine Cq _ rfl c n a1 b1 dh wb wp E5 pv R8 H H8 _ p8 aU ⟨E5,J7,Rb,rfl,Re⟩ (by omega) (by omega) hs ki (fun a' b' d' H' aE MY eR dW mc=>ih _ (by omega) a' b' dh d' H' rfl MY eR (by omega) dW mc) ?_
 rintro R' H' a' b' d' E3 MY IL eR aE g0 g1 g2 g3 g4 C6 IK e'⟨UY,eZ,dW,rfl,nk⟩
 try simp -implicitDefEqProofs only[op,ef,cl,sq,reduceIte,j2,j3,j4,j5,j6,j7,j8,j9,y1,S1]
 exact⟨(a',b',dh,E3,(partition strLt E5 a1 b1 pv).2.1),by simp only;omega,.i ⟨_,eZ,dW,by simp only;rw[e'];exact hP,nk⟩,g0,g1,g2,g3,g4,C6,IK,by simp only;omega,IL,by simp only;omega,by simp only;omega⟩
open Go.Sort in
theorem wJ (c:Nat)(d:Array ByteArray)(H:ae)(hc:H[c]?=some (.cells (aK eS d.toList)))(hs:d.size<16777216) :
  W env (.call 152 [.aB c 0 d.size 1]) H (fU c d.size (sort strLt d) H):=by
 refine W.cQ rfl rfl rfl ?_
 have w1:IntKind.u64.wrap (d.size:Int)=(d.size:Int):=mY (by omega)
 simp -implicitDefEqProofs only[BB,op,ef,cl,sq,reduceIte,j2,j3,j4,j5,j6,j7,j8,j9,y1,S1,w1]
 refine af _ _ _ _ _ _ _ _ (B4 d.size hs _) ?_
 rintro u H1⟨hu,rfl⟩
 cases hu
 have hb:=ny (n:=d.size) (k:=24) hs
 try simp -implicitDefEqProofs only[op,ef,cl,sq,reduceIte,j2,j3,j4,j5,j6,j7,j8,j9,y1,S1]
 refine af _ _ _ _ _ _ _ _ (Cr c d.size hs _ 0 d.size (bitsLen d.size) d _ rfl (Nat.zero_le _) (Nat.le_refl _) (by omega) rfl hc) ?_
 rintro u H2⟨hu,h2⟩
 cases hu
 try simp -implicitDefEqProofs only[op,ef,cl,sq,reduceIte,j2,j3,j4,j5,j6,j7,j8,j9,y1,S1]
 exact⟨rfl,h2⟩
end Go.Proofs.YtmgldhlcapjdkaaGreat.St
end

section
namespace Go.Proofs.YtmgldhlcapjdkaaGreat.St.Un
open Go.Rmp Go.Proofs.YtmgldhlcapjdkaaGreat.Ir
set_option maxRecDepth 10000
def aI (a b:Nat):Bool:=decide (a<b)
theorem aX (a b:Nat)(H:ae):W env (.call 145 [.int .u64 a,.int .u64 b]) H (rN (.bool (aI a b)) H):=B1 a b H
theorem lO:Go.Sort.SWO aI where
 irrefl a:=by simp[aI]
 trans a b c h1 h2:=by simp[aI]at *;omega
 ntrans x y z h1 h2:=by simp[aI]at *;omega
def B7 (c:Nat)(d':Array Nat)(H:ae):Out→ae→Prop:=fun o H'=>o=.val (.bC [])∧H'[c]?=some (.cells (aK eU d'.toList))∧bX (fun x=>x=c) H H'
theorem dR {Hx:ae}{c:Nat}(d:Array Nat){i j:Nat}(hi:i<d.size)(hj:j<d.size) :
  ou Hx c [.int .u64 (d[j]!:Nat)] (i*1) (some (.cells (aK eU d.toList)))=some (Hx.set c (.cells (aK eU (d.toList.set i d[j]!)))) ∧
  ∀Hy,ou Hy c [.int .u64 (d[i]!:Nat)] (j*1) (some (.cells (aK eU (d.toList.set i d[j]!))))=some (Hy.set c (.cells (aK eU (Go.Sort.swp d i j).toList))):=by
 have g1:=fx (enc:=eU) (n:=1) (y:=d[j]!) (fun _=>rfl) (gB hi) Hx c (eU d[j]!) 0 (by simp[eU]) (by simp[eU])
 obtain⟨z,hz⟩:=dQ (l:=d.toList.set i d[j]!) (i:=j) (by simpa using hj)
 have g2:=fun Hy=>fx (enc:=eU) (n:=1) (y:=d[i]!) (fun _=>rfl) hz Hy c (eU d[i]!) 0 (by simp[eU]) (by simp[eU])
 refine⟨by simpa[eU]using g1,fun Hy=>?_⟩
 rw[oJ]
 simpa[eU]using g2 Hy
theorem gJ {d:Array Nat}{i:Nat}(h:i<d.size):jT 1 (i*1) (some (.cells (aK eU d.toList)))=some [.int .u64 (d[i]!:Nat)]:=by
 have:=cD (enc:=eU) (n:=1) (fun _=>rfl) (gB h) 0 1 (by decide)
 simpa[eU]using this
open Go.Sort in
theorem wI (c:Nat)(d:Array Nat)(a b:Nat)(H:ae)(hc:H[c]?=some (.cells (aK eU d.toList)))(hb:b≤d.size)(ga:a≤b)(hs:d.size<4611686018427387903) :
  W env (.call 139 [.aB c 0 d.size 1,.int .i64 a,.int .i64 b]) H (B7 c (insertionSort aI d a b) H):=by
 refine W.cQ rfl rfl rfl ?_
 have wa:=aJ (show a<9223372036854775807 by omega)
 simp -implicitDefEqProofs only[wE,op,ef,cl,sq,reduceIte,j2,j3,j4,j5,j6,j7,j8,j9,y1,S1,wa]
 refine W.fg (fun (i:Nat) R H'=>At H' (fun H'=>∃di:Array Nat,H'[c]?=some (.cells (aK eU di.toList))∧di.size=d.size∧insOuter aI a b i di=insertionSort aI d a b∧bX (fun x=>x=c) H H')∧R 0=.aB c 0 d.size 1∧R 1=.int .i64 a∧R 2=.int .i64 b∧R 6=.int .i64 i∧a+1≤i) (fun i=>b-i) (a+1) ⟨.i ⟨d,hc,rfl,rfl,bX.refl _ _⟩,rfl,rfl,rfl,rfl,Nat.le_refl _⟩ ?_
 rintro i R H1⟨⟨di,hd,aQ,oK,ay⟩,h0,h1,h2,h6,Sr⟩
 by_cases aE:i<b
 ·have wi:=aJ (show i<9223372036854775807 by omega)
  simp -implicitDefEqProofs only[op,ef,cl,sq,reduceIte,j2,j3,j4,j5,j6,j7,j8,j9,y1,S1,h0,h1,h2,h6,aE]
  refine W.bU 2 (fun (j:Nat) R H'=>At H' (fun H'=>∃dj:Array Nat,H'[c]?=some (.cells (aK eU dj.toList))∧dj.size=d.size∧insInner aI a j dj=insInner aI a i di∧bX (fun x=>x=c) H H')∧R 0=.aB c 0 d.size 1∧R 1=.int .i64 a∧R 2=.int .i64 b∧R 6=.int .i64 i∧R 7=.int .i64 j∧j≤i) (fun j=>j) i
   (fun R H'=>At H' (fun H'=>∃dj:Array Nat,H'[c]?=some (.cells (aK eU dj.toList))∧dj.size=d.size∧dj=insInner aI a i di∧bX (fun x=>x=c) H H')∧R 0=.aB c 0 d.size 1∧R 1=.int .i64 a∧R 2=.int .i64 b∧R 6=.int .i64 i) ?_ ?_ ?_
  ·refine⟨.i ⟨di,hd,aQ,rfl,ay⟩,?_,?_,?_,?_,?_,Nat.le_refl _⟩
   all_goals (simp -implicitDefEqProofs only[op,ef,cl,sq,reduceIte,j2,j3,j4,j5,j6,j7,j8,j9,y1,S1,h0,h1,h2,h6])
  ·rintro j R H2⟨⟨dj,bm,jw,jx,fT⟩,q0,q1,q2,q6,q7,yd⟩
   by_cases B8:a<j
   ·obtain⟨j',rfl⟩:∃j',j=j'+1:=⟨j-1,by omega⟩
    have wp:IntKind.i64.wrap (((j'+1:Nat):Int)-1)=(j':Int):=by rw[wrap64 (by omega)];omega
    have j1:j'+1<d.size:=by omega
    have j0:j'<d.size:=by omega
    have i1:eW 1 (j'+1) (.aB c 0 d.size 1)=some (.ptr c ((j'+1)*1)):=by rw[fh];simp[j1]
    have i0:eW 1 j' (.aB c 0 d.size 1)=some (.ptr c (j'*1)):=by rw[fh];simp[j0]
    have v1:=gJ (d:=dj) (i:=j'+1) (by omega)
    have v0:=gJ (d:=dj) (i:=j') (by omega)
    simp -implicitDefEqProofs only[op,ef,cl,sq,reduceIte,j2,j3,j4,j5,j6,j7,j8,j9,y1,S1,q0,q1,q2,q6,q7,B8,aa,i1,i0,wp,bm,v1,v0]
    refine af _ _ _ _ _ _ _ _ (aX dj[j'+1]! dj[j']! _) ?_
    rintro u H3⟨hu,rfl⟩
    cases hu
    have jN:=bm
    obtain⟨s1,s2⟩:=dR (Hx:=H3) (c:=c) dj (i:=j'+1) (j:=j') (by omega) (by omega)
    cases jC:aI dj[j'+1]! dj[j']! with
    | true =>
     simp -implicitDefEqProofs only[op,ef,cl,sq,reduceIte,j2,j3,j4,j5,j6,j7,j8,j9,y1,S1,q0,q1,q2,q6,q7,aa,i1,i0,wp,jN,v1,v0,s1,S2,s2,bo jN]
     exact⟨j',by omega,.i ⟨swp dj (j'+1) j',gh (by rw[List.length_set];exact bo jN),by rw[swp_size];exact jw,by rw[←jx];conv=>{ rhs;rw[insInner,if_pos (by simp -implicitDefEqProofs only[Bool.and_eq_true,decide_eq_true_eq];exact⟨B8,jC⟩)] },(fT.set (.inl rfl) _).set (.inl rfl) _⟩,rfl,by omega⟩
    | false =>
     simp -implicitDefEqProofs only[op,ef,cl,sq,reduceIte,j2,j3,j4,j5,j6,j7,j8,j9,y1,S1,q0,q1,q2,q6,q7]
     exact .i ⟨dj,jN,jw,by rw[←jx,insInner];simp[jC],fT⟩
   ·simp -implicitDefEqProofs only[op,ef,cl,sq,reduceIte,j2,j3,j4,j5,j6,j7,j8,j9,y1,S1,q0,q1,q2,q6,q7,B8]
    refine .i ⟨dj,bm,jw,?_,fT⟩
    rw[←jx]
    cases j with
    | zero=>rfl
    | succ j=>rw[insInner,if_neg (by simp -implicitDefEqProofs only[Bool.and_eq_true,decide_eq_true_eq];omega)]
  ·rintro R H2⟨⟨dj,bm,jw,jx,fT⟩,q0,q1,q2,q6⟩
   simp -implicitDefEqProofs only[op,ef,cl,sq,reduceIte,j2,j3,j4,j5,j6,j7,j8,j9,y1,S1,q0,q1,q2,q6,wi]
   refine⟨i+1,by omega,.i ⟨dj,bm,jw,?_,fT⟩,rfl,by omega⟩
   rw[←oK,jx]
   conv=>rhs;rw[insOuter,if_pos aE]
 ·simp -implicitDefEqProofs only[op,ef,cl,sq,reduceIte,j2,j3,j4,j5,j6,j7,j8,j9,y1,S1,h0,h1,h2,h6,aE]
  rw[insOuter,if_neg aE]at oK
  subst oK
  exact⟨rfl,hd,ay⟩
set_option maxHeartbeats 8000000
section
variable {c n i j:Nat} {d:Array Nat}
theorem ah (h:i<n):eW 1 i (.aB c 0 n 1)=some (.ptr c (i*1)):=by rw[fh];simp[h]
theorem dS {l:List Nat}:(aK eU l).length=l.length*1:=by rw[cC (n:=1) (fun _=>rfl)]
theorem ai (h:i<d.size):(i*1+1≤(aK eU d.toList).length)=True:=by rw[dS];simp;omega
theorem aj (h:i<d.size):List.take 1 (List.drop (i*1) (aK eU d.toList))=[.int .u64 (d[i]!:Nat)]:=by
 have:=gJ h
 rw[mD,if_pos (by rw[dS];simp;omega)]at this
 exact Option.some.inj this
theorem ak {x:Nat}(h:i<d.size):(i*1+1≤(aK eU (d.toList.set j x)).length)=True:=by rw[dS];simp;omega
theorem aq (h:i<d.size)(h':j<d.size):(List.take (i*1) (aK eU d.toList)++[.int .u64 (d[j]!:Nat)])++List.drop (i*1+1) (aK eU d.toList)=aK eU (d.toList.set i d[j]!):=by
 have:=(dR (Hx:=[.cells []]) (c:=0) d h h').1
 rw[kJ,if_pos (by rw[dS];simp;omega)]at this
 simpa using this
theorem ar (h:i<d.size)(h':j<d.size):(List.take (j*1) (aK eU (d.toList.set i d[j]!))++[.int .u64 (d[i]!:Nat)])++List.drop (j*1+1) (aK eU (d.toList.set i d[j]!))=aK eU (Go.Sort.swp d i j).toList:=by
 have:=(dR (Hx:=[.cells []]) (c:=0) d h h').2 [.cells []]
 rw[kJ,if_pos (by rw[dS];simp;omega)]at this
 simpa using this
end
open Go.Sort in
def bV (c n:Nat)(H:ae)(P:Array Nat→Prop)(H':ae):Prop:=∃d:Array Nat,H'[c]?=some (.cells (aK eU d.toList))∧d.size=n∧P d∧bX (fun x=>x=c) H H'
open Go.Sort in
theorem bV.swp {c n:Nat}{H H1:ae}{P:Array Nat→Prop}{y x:B}{d':Array Nat}(hd:H1[c]?=some y)(hs:d'.size=n)(hP:P d')(hf:bX (fun x=>x=c) H H1):bV c n H P ((H1.set c x).set c (.cells (aK eU d'.toList))) :=
 ⟨d',gh (by rw[List.length_set];exact bo hd),hs,hP,(hf.set (.inl rfl) _).set (.inl rfl) _⟩
open Go.Sort in
def fU (c n:Nat)(d':Array Nat)(H:ae):Out→ae→Prop:=fun o H'=>o=.val (.bC [])∧bV c n H (fun x=>x=d') H'
open Go.Sort in
theorem Cb (c n:Nat)(d:Array Nat)(a b:Nat)(H:ae)(hn:d.size=n)(hc:H[c]?=some (.cells (aK eU d.toList)))(hb:b≤n)(ga:a<b)(hs:n<4611686018427387903) :
  W env (.call 143 [.aB c 0 n 1,.int .i64 a,.int .i64 b]) H (fU c n (reverseRange d a b) H):=by
 refine W.cQ rfl rfl rfl ?_
 simp -implicitDefEqProofs (maxSteps:=1000000) (disch:=omega) only[Bv,op,ef,cl,sq,reduceIte,j2,j3,j4,j5,j6,j7,j8,j9,y1,S1,aO]
 refine W.fg (fun (i:Nat) R H'=>At H' (fun H'=>∃j,R 7=.int .i64 (j:Nat)∧i+j=a+b-1∧a≤i∧bV c n H (fun di=>reverseLoop i j di=reverseRange d a b) H')∧R 0=.aB c 0 n 1∧R 6=.int .i64 i) (fun i=>a+b-i) a ⟨.i ⟨b-1,rfl,by omega,Nat.le_refl _,d,hc,hn,rfl,bX.refl _ _⟩,rfl,rfl⟩ ?_
 rintro i R H1⟨⟨j,h9,GM,Cc,di,hd,aQ,uS,ay⟩,h0,h8⟩
 have lc:=bo hd
 by_cases aE:i<j
 ·simp -implicitDefEqProofs (maxSteps:=1000000) (disch:=omega) only[aa,ah,ai,aj,ak,aq,ar,wA,aP,wS,aO,wM,S2,op,ef,cl,sq,reduceIte,j2,j3,j4,j5,j6,j7,j8,j9,y1,S1,h0,h8,h9,aE,hd,lc]
  exact⟨i+1,by omega,.i ⟨j-1,rfl,by omega,by omega,.swp hd (by rw[swp_size];exact aQ) (by rw[←uS];conv=>{ rhs;rw[reverseLoop,if_pos aE] }) ay⟩,rfl⟩
 ·simp -implicitDefEqProofs only[op,ef,cl,sq,reduceIte,j2,j3,j4,j5,j6,j7,j8,j9,y1,S1,h0,h8,h9,aE]
  rw[reverseLoop,if_neg aE]at uS
  exact⟨rfl,di,hd,aQ,uS,ay⟩
open Go.Sort in
theorem lP (c n:Nat)(d:Array Nat)(lo hi first:Nat)(H:ae)(hn:d.size=n)(hc:H[c]?=some (.cells (aK eU d.toList)))(hb:first+hi≤n)(pF:lo≤n)(hs:n<2305843009213693951) :
  W env (.call 175 [.aB c 0 n 1,.int .i64 lo,.int .i64 hi,.int .i64 first]) H (fU c n (siftDown aI hi first lo d) H):=by
 refine W.cQ rfl rfl rfl ?_
 simp -implicitDefEqProofs only[BH,op,ef,cl,sq,reduceIte,j2,j3,j4,j5,j6,j7,j8,j9,y1,S1]
 refine W.fg (fun (r:Nat) R H'=>At H' (fun H'=>bV c n H (fun di=>siftDown aI hi first r di=siftDown aI hi first lo d) H')∧R 0=.aB c 0 n 1∧R 2=.int .i64 hi∧R 3=.int .i64 first∧R 0=.aB c 0 n 1∧R 8=.int .i64 r∧r≤n) (fun r=>hi-r) lo ⟨.i ⟨d,hc,hn,rfl,bX.refl _ _⟩,rfl,rfl,rfl,rfl,rfl,pF⟩ ?_
 rintro r R H1⟨⟨di,hd,aQ,hP,ay⟩,h0,h2,h3,h4,aG,hr⟩
 have lc:=bo hd
 by_cases dD:2*r+1≥hi
 ·simp -implicitDefEqProofs (maxSteps:=1000000) (disch:=omega) only[aa,ah,ai,aj,ak,aq,ar,wA,aP,wS,aO,wM,S2,op,ef,cl,sq,reduceIte,j2,j3,j4,j5,j6,j7,j8,j9,y1,S1,h0,h2,h3,h4,aG,dD]
  rw[siftDown,dif_pos dD]at hP
  exact⟨rfl,di,hd,aQ,hP,ay⟩
 by_cases dg:2*r+1+1<hi
 ·simp -implicitDefEqProofs (maxSteps:=1000000) (disch:=omega) only[aa,ah,ai,aj,ak,aq,ar,wA,aP,wS,aO,wM,S2,op,ef,cl,sq,reduceIte,j2,j3,j4,j5,j6,j7,j8,j9,y1,S1,h0,h2,h3,h4,aG,dD,dg,hd,lc]
  refine af _ _ _ _ _ _ _ _ (aX di[first+(2*r+1)]! di[first+(2*r+1)+1]! _) ?_
  rintro u H2⟨hu,dk⟩
  cases hu
  have hx:Ext H1 H2:=by rw[dk];exact Ext.rfl'
  have hd:=hx.get hd
  have lc:=bo hd
  have ay:=ay.trans (aN (F:=fun _=>False) hx) (fun _ h=>h.elim)
  have ct:aI di[first+(2*r+1)]! di[first+(2*r+1)+1]! = decide (aI di[first+(2*r+1)]! di[first+(2*r+1)+1]! = true):=by simp
  by_cases c1:aI di[first+(2*r+1)]! di[first+(2*r+1)+1]! = true
  ·simp -implicitDefEqProofs (maxSteps:=1000000) (disch:=omega) only[aa,ah,ai,aj,ak,aq,ar,wA,aP,wS,aO,wM,S2,op,ef,cl,sq,reduceIte,j2,j3,j4,j5,j6,j7,j8,j9,y1,S1,h0,h2,h3,h4,aG,dD,dg,hd,lc,c1]
   refine af _ _ _ _ _ _ _ _ (aX di[first+r]! di[first+(2*r+1+1)]! _) ?_
   rintro u H3⟨hu,dk⟩
   cases hu
   have hx:Ext H2 H3:=by rw[dk];exact Ext.rfl'
   have hd:=hx.get hd
   have lc:=bo hd
   have ay:=ay.trans (aN (F:=fun _=>False) hx) (fun _ h=>h.elim)
   have tC:aI di[first+r]! di[first+(2*r+1+1)]! = decide (aI di[first+r]! di[first+(2*r+1+1)]! = true):=by simp
   by_cases c2:aI di[first+r]! di[first+(2*r+1+1)]! = true
   ·simp -implicitDefEqProofs (maxSteps:=1000000) (disch:=omega) only[aa,ah,ai,aj,ak,aq,ar,wA,aP,wS,aO,wM,S2,op,ef,cl,sq,reduceIte,j2,j3,j4,j5,j6,j7,j8,j9,y1,S1,h0,h2,h3,h4,aG,dD,dg,hd,lc,c2]
    refine⟨2*r+1+1,by omega,.i (.swp hd (by rw[swp_size];exact aQ) ?_ ay),rfl,by omega⟩
    rw[←hP]
    conv=>{ rhs;rw[siftDown,dif_neg dD,if_pos (eb (bB dg) (ct.trans (bB c1))),if_neg (iM (tC.trans (bB c2))),dif_pos dg] }
   ·simp -implicitDefEqProofs (maxSteps:=1000000) (disch:=omega) only[aa,ah,ai,aj,ak,aq,ar,wA,aP,wS,aO,wM,S2,op,ef,cl,sq,reduceIte,j2,j3,j4,j5,j6,j7,j8,j9,y1,S1,h0,h2,h3,h4,aG,dD,dg,hd,lc,c2]
    rw[siftDown,dif_neg dD,if_pos (eb (bB dg) (ct.trans (bB c1))),if_pos (dA (tC.trans (bw c2)))]at hP
    exact⟨rfl,di,hd,aQ,hP,ay⟩
  ·simp -implicitDefEqProofs (maxSteps:=1000000) (disch:=omega) only[aa,ah,ai,aj,ak,aq,ar,wA,aP,wS,aO,wM,S2,op,ef,cl,sq,reduceIte,j2,j3,j4,j5,j6,j7,j8,j9,y1,S1,h0,h2,h3,h4,aG,dD,dg,hd,lc,c1]
   refine af _ _ _ _ _ _ _ _ (aX di[first+r]! di[first+(2*r+1)]! _) ?_
   rintro u H3⟨hu,dk⟩
   cases hu
   have hx:Ext H2 H3:=by rw[dk];exact Ext.rfl'
   have hd:=hx.get hd
   have lc:=bo hd
   have ay:=ay.trans (aN (F:=fun _=>False) hx) (fun _ h=>h.elim)
   have tC:aI di[first+r]! di[first+(2*r+1)]! = decide (aI di[first+r]! di[first+(2*r+1)]! = true):=by simp
   by_cases c2:aI di[first+r]! di[first+(2*r+1)]! = true
   ·simp -implicitDefEqProofs (maxSteps:=1000000) (disch:=omega) only[aa,ah,ai,aj,ak,aq,ar,wA,aP,wS,aO,wM,S2,op,ef,cl,sq,reduceIte,j2,j3,j4,j5,j6,j7,j8,j9,y1,S1,h0,h2,h3,h4,aG,dD,dg,hd,lc,c2]
    refine⟨2*r+1,by omega,.i (.swp hd (by rw[swp_size];exact aQ) ?_ ay),rfl,by omega⟩
    rw[←hP]
    conv=>{ rhs;rw[siftDown,dif_neg dD,if_neg (cN (ct.trans (bw c1))),if_neg (iM (tC.trans (bB c2)))] }
   ·simp -implicitDefEqProofs (maxSteps:=1000000) (disch:=omega) only[aa,ah,ai,aj,ak,aq,ar,wA,aP,wS,aO,wM,S2,op,ef,cl,sq,reduceIte,j2,j3,j4,j5,j6,j7,j8,j9,y1,S1,h0,h2,h3,h4,aG,dD,dg,hd,lc,c2]
    rw[siftDown,dif_neg dD,if_neg (cN (ct.trans (bw c1))),if_pos (dA (tC.trans (bw c2)))]at hP
    exact⟨rfl,di,hd,aQ,hP,ay⟩
 ·simp -implicitDefEqProofs (maxSteps:=1000000) (disch:=omega) only[aa,ah,ai,aj,ak,aq,ar,wA,aP,wS,aO,wM,S2,op,ef,cl,sq,reduceIte,j2,j3,j4,j5,j6,j7,j8,j9,y1,S1,h0,h2,h3,h4,aG,dD,dg,hd,lc]
  try simp -implicitDefEqProofs only[op,ef,cl,sq,reduceIte,j2,j3,j4,j5,j6,j7,j8,j9,y1,S1]
  try simp -implicitDefEqProofs (maxSteps:=1000000) (disch:=omega) only[aa,ah,ai,aj,ak,aq,ar,wA,aP,wS,aO,wM,S2,op,ef,cl,sq,reduceIte,j2,j3,j4,j5,j6,j7,j8,j9,y1,S1,h0,h2,h3,h4,aG,dD,dg,hd,lc]
  refine af _ _ _ _ _ _ _ _ (aX di[first+r]! di[first+(2*r+1)]! _) ?_
  rintro u H3⟨hu,dk⟩
  cases hu
  have hx:Ext H1 H3:=by rw[dk];exact Ext.rfl'
  have hd:=hx.get hd
  have lc:=bo hd
  have ay:=ay.trans (aN (F:=fun _=>False) hx) (fun _ h=>h.elim)
  have tC:aI di[first+r]! di[first+(2*r+1)]! = decide (aI di[first+r]! di[first+(2*r+1)]! = true):=by simp
  by_cases c2:aI di[first+r]! di[first+(2*r+1)]! = true
  ·simp -implicitDefEqProofs (maxSteps:=1000000) (disch:=omega) only[aa,ah,ai,aj,ak,aq,ar,wA,aP,wS,aO,wM,S2,op,ef,cl,sq,reduceIte,j2,j3,j4,j5,j6,j7,j8,j9,y1,S1,h0,h2,h3,h4,aG,dD,dg,hd,lc,c2]
   refine⟨2*r+1,by omega,.i (.swp hd (by rw[swp_size];exact aQ) ?_ ay),rfl,by omega⟩
   rw[←hP]
   conv=>{ rhs;rw[siftDown,dif_neg dD,if_neg (cz (bw dg)),if_neg (iM (tC.trans (bB c2)))] }
  ·simp -implicitDefEqProofs (maxSteps:=1000000) (disch:=omega) only[aa,ah,ai,aj,ak,aq,ar,wA,aP,wS,aO,wM,S2,op,ef,cl,sq,reduceIte,j2,j3,j4,j5,j6,j7,j8,j9,y1,S1,h0,h2,h3,h4,aG,dD,dg,hd,lc,c2]
   rw[siftDown,dif_neg dD,if_neg (cz (bw dg)),if_pos (dA (tC.trans (bw c2)))]at hP
   exact⟨rfl,di,hd,aQ,hP,ay⟩
open Go.Sort in
theorem uT (c n:Nat)(d:Array Nat)(a b:Nat)(H:ae)(hn:d.size=n)(hc:H[c]?=some (.cells (aK eU d.toList)))(hb:b≤n)(ga:a<b)(hs:n<2305843009213693951) :
  W env (.call 140 [.aB c 0 n 1,.int .i64 a,.int .i64 b]) H (fU c n (heapSort aI d a b) H):=by
 refine W.cQ rfl rfl rfl ?_
 simp -implicitDefEqProofs (maxSteps:=1000000) (disch:=omega) only[Bt,aa,ah,ai,aj,ak,aq,ar,wA,aP,wS,aO,wM,S2,op,ef,cl,sq,reduceIte,j2,j3,j4,j5,j6,j7,j8,j9,y1,S1,Sp]
 refine W.bU 0 (fun (k:Nat) R H'=>At H' (fun H'=>bV c n H (fun di=>heapBuild aI (b-a) a k di=heapBuild aI (b-a) a ((b-a-1)/2+1) d) H')∧R 0=.aB c 0 n 1∧R 0=.aB c 0 n 1∧R 6=.int .i64 a∧R 7=.int .i64 0∧R 8=.int .i64 (b-a:Nat)∧R 9=.int .i64 ((k:Int)-1)∧k≤b-a) (fun k=>k) ((b-a-1)/2+1)
  (fun R H'=>At H' (fun H'=>bV c n H (fun di=>di=heapBuild aI (b-a) a ((b-a-1)/2+1) d) H')∧R 0=.aB c 0 n 1∧R 0=.aB c 0 n 1∧R 6=.int .i64 a∧R 7=.int .i64 0∧R 8=.int .i64 (b-a:Nat))
  ⟨.i ⟨d,hc,hn,rfl,bX.refl _ _⟩,rfl,rfl,rfl,rfl,rfl,by simp[kQ],by omega⟩ ?_ ?_
 ·rintro k R H1⟨⟨di,hd,aQ,hP,ay⟩,h0,h3,h8,h9,aG,aM,hk⟩
  cases k with
  | zero =>
   rw[show(((0:Nat):Int)-1)=-1 from rfl]at aM
   simp -implicitDefEqProofs (maxSteps:=1000000) (disch:=omega) only[aa,ah,ai,aj,ak,aq,ar,wA,aP,wS,aO,wM,S2,op,ef,cl,sq,reduceIte,j2,j3,j4,j5,j6,j7,j8,j9,y1,S1,h0,h3,h8,h9,aG,aM]
   exact .i ⟨di,hd,aQ,hP,ay⟩
  | succ k =>
   rw[show(((k+1:Nat):Int)-1)=(k:Int) by omega]at aM
   simp -implicitDefEqProofs (maxSteps:=1000000) (disch:=omega) only[aa,ah,ai,aj,ak,aq,ar,wA,aP,wS,aO,wM,S2,op,ef,cl,sq,reduceIte,j2,j3,j4,j5,j6,j7,j8,j9,y1,S1,h0,h3,h8,h9,aG,aM,ET]
   refine af _ _ _ _ _ _ _ _ (lP c n di k (b-a) a _ aQ hd (by omega) (by omega) hs) ?_
   rintro u H2⟨hu,d2,bm,fo,rfl,cR⟩
   cases hu
   simp -implicitDefEqProofs (maxSteps:=1000000) (disch:=omega) only[NR,op,ef,cl,sq,reduceIte,j2,j3,j4,j5,j6,j7,j8,j9,y1,S1,h0,h3,h8,h9,aG,aM]
   exact⟨k,by omega,.i ⟨_,bm,fo,hP,ay.trans cR fun _ h=>.inl h⟩,rfl,by omega⟩
 ·rintro R H1⟨⟨di,hd,aQ,hP,ay⟩,h0,h3,h8,h9,aG⟩
  simp -implicitDefEqProofs (maxSteps:=1000000) (disch:=omega) only[aa,ah,ai,aj,ak,aq,ar,wA,aP,wS,aO,wM,S2,op,ef,cl,sq,reduceIte,j2,j3,j4,j5,j6,j7,j8,j9,y1,S1,h0,h3,h8,h9,aG]
  refine W.fg (fun (k:Nat) R H'=>At H' (fun H'=>bV c n H (fun di=>heapPop aI a k di=heapSort aI d a b) H')∧R 0=.aB c 0 n 1∧R 0=.aB c 0 n 1∧R 6=.int .i64 a∧R 7=.int .i64 0∧R 8=.int .i64 (b-a:Nat)∧R 10=.int .i64 ((k:Int)-1)∧k≤b-a) (fun k=>k) (b-a) ⟨.i ⟨di,hd,aQ,by rw[hP];rfl,ay⟩,?_,?_,?_,?_,?_,?_,Nat.le_refl _⟩ ?_
  ·simp -implicitDefEqProofs only[op,ef,cl,sq,reduceIte,j2,j3,j4,j5,j6,j7,j8,j9,y1,S1,h0]
  ·simp -implicitDefEqProofs only[op,ef,cl,sq,reduceIte,j2,j3,j4,j5,j6,j7,j8,j9,y1,S1,h3]
  ·simp -implicitDefEqProofs only[op,ef,cl,sq,reduceIte,j2,j3,j4,j5,j6,j7,j8,j9,y1,S1,h8]
  ·simp -implicitDefEqProofs only[op,ef,cl,sq,reduceIte,j2,j3,j4,j5,j6,j7,j8,j9,y1,S1,h9]
  ·simp -implicitDefEqProofs only[op,ef,cl,sq,reduceIte,j2,j3,j4,j5,j6,j7,j8,j9,y1,S1,aG]
  ·simp -implicitDefEqProofs only[op,ef,cl,sq,reduceIte,j2,j3,j4,j5,j6,j7,j8,j9,y1,S1];omega
  rintro k R H1⟨⟨di,hd,aQ,hP,ay⟩,h0,h3,h8,h9,aG,aF,hk⟩
  have lc:=bo hd
  cases k with
  | zero =>
   rw[show(((0:Nat):Int)-1)=-1 from rfl]at aF
   simp -implicitDefEqProofs (maxSteps:=1000000) (disch:=omega) only[aa,ah,ai,aj,ak,aq,ar,wA,aP,wS,aO,wM,S2,op,ef,cl,sq,reduceIte,j2,j3,j4,j5,j6,j7,j8,j9,y1,S1,h0,h3,h8,h9,aG,aF]
   exact⟨rfl,di,hd,aQ,hP,ay⟩
  | succ k =>
   rw[show(((k+1:Nat):Int)-1)=(k:Int) by omega]at aF
   simp -implicitDefEqProofs (maxSteps:=1000000) (disch:=omega) only[aa,ah,ai,aj,ak,aq,ar,wA,aP,wS,aO,wM,S2,op,ef,cl,sq,reduceIte,j2,j3,j4,j5,j6,j7,j8,j9,y1,S1,h0,h3,h8,h9,aG,aF,ET,hd,lc]
   obtain⟨d1,oc,xM,rfl,l5⟩:=bV.swp (n:=n) (P:=fun x=>x=swp di a (a+k)) (x:=.cells (aK eU (di.toList.set a di[a+k]!))) hd (by rw[Go.Sort.swp_size];exact aQ) rfl ay
   refine af _ _ _ _ _ _ _ _ (lP c n _ 0 k a _ xM oc (by omega) (by omega) hs) ?_
   rintro u H2⟨hu,d2,bm,fo,rfl,cR⟩
   cases hu
   simp -implicitDefEqProofs (maxSteps:=1000000) (disch:=omega) only[NR,op,ef,cl,sq,reduceIte,j2,j3,j4,j5,j6,j7,j8,j9,y1,S1,h0,h3,h8,h9,aG,aF]
   exact⟨k,by omega,.i ⟨_,bm,fo,hP,l5.trans cR fun _ h=>.inl h⟩,rfl,by omega⟩
open Go.Sort in
theorem kL (c n p sw:Nat)(d:Array Nat)(a b:Nat)(H:ae)(hn:d.size=n)(hc:H[c]?=some (.cells (aK eU d.toList)))(hp:H[p]?=some (.cells [.int .i64 sw]))(ha:a<n)(hb:b<n)(hs:n<2305843009213693951)(IJ:sw<1000) :
  W env (.call 197 [.aB c 0 n 1,.int .i64 a,.int .i64 b,.ptr p 0]) H (MI p (order2 aI d a b sw) H):=by
 refine W.cQ rfl rfl rfl ?_
 have hd:=hc
 have ay:=bX.refl (fun x=>x=p) H
 simp -implicitDefEqProofs (maxSteps:=1000000) (disch:=omega) only[BN,aa,ah,ai,aj,ak,aq,ar,wA,aP,wS,aO,wM,S2,op,ef,cl,sq,reduceIte,j2,j3,j4,j5,j6,j7,j8,j9,y1,S1,hd]
 refine af _ _ _ _ _ _ _ _ (aX d[b]! d[a]! _) ?_
 rintro u H1⟨hu,dk⟩
 cases hu
 have hx:Ext H H1:=by rw[dk];exact Ext.rfl'
 have hd:=hx.get hd
 have lc:=bo hd
 have ay:=ay.trans (aN (F:=fun _=>False) hx) (fun _ h=>h.elim)
 have iX:=hx.get hp
 have lp:=bo iX
 have ct:aI d[b]! d[a]! = decide (aI d[b]! d[a]! = true):=by simp
 by_cases c1:aI d[b]! d[a]! = true
 ·simp -implicitDefEqProofs (maxSteps:=1000000) (disch:=omega) only[aa,ah,ai,aj,ak,aq,ar,wA,aP,wS,aO,wM,S2,op,ef,cl,sq,reduceIte,j2,j3,j4,j5,j6,j7,j8,j9,y1,S1,hd,c1,iX,lp]
  refine⟨?_,?_,?_⟩
  ·rw[order2,if_pos (ct.trans (bB c1))]
  ·rw[order2,if_pos (ct.trans (bB c1))];exact gh lp
  ·exact ay.set (.inl rfl) _
 ·simp -implicitDefEqProofs (maxSteps:=1000000) (disch:=omega) only[aa,ah,ai,aj,ak,aq,ar,wA,aP,wS,aO,wM,S2,op,ef,cl,sq,reduceIte,j2,j3,j4,j5,j6,j7,j8,j9,y1,S1,hd,c1,iX,lp]
  refine⟨?_,?_,?_⟩
  ·rw[order2,if_neg (by rw[ct,bw c1];simp)]
  ·rw[order2,if_neg (by rw[ct,bw c1];simp)];exact iX
  ·exact ay
open Go.Sort in
theorem iH (d:Array Nat){n a b sw:Nat}(ha:a<n)(hb:b<n):(Go.Sort.order2 aI d a b sw).1<n∧(Go.Sort.order2 aI d a b sw).2.1<n∧(Go.Sort.order2 aI d a b sw).2.2≤sw+1:=by
 unfold Go.Sort.order2
 split
 ·exact⟨hb,ha,Nat.le_refl _⟩
 ·exact⟨ha,hb,Nat.le_succ _⟩
open Go.Sort in
theorem kM (c n p sw:Nat)(d:Array Nat)(a b e:Nat)(H:ae)(hn:d.size=n)(hc:H[c]?=some (.cells (aK eU d.toList)))(hp:H[p]?=some (.cells [.int .i64 sw]))(mI:¬c=p)(ha:a<n)(hb:b<n)(he:e<n)(hs:n<2305843009213693951)(IJ:sw<900) :
  W env (.call 179 [.aB c 0 n 1,.int .i64 a,.int .i64 b,.int .i64 e,.ptr p 0]) H (fun o H'=>EU p (median aI d a b e sw) H o H'∧(median aI d a b e sw).1<n∧(median aI d a b e sw).2≤sw+3):=by
 refine W.cQ rfl rfl rfl ?_
 simp -implicitDefEqProofs only[BL,op,ef,cl,sq,reduceIte,j2,j3,j4,j5,j6,j7,j8,j9,y1,S1]
 refine af _ _ _ _ _ _ _ _ (kL c n p sw d a b _ hn hc hp ha hb hs (by omega)) ?_
 rintro u H1⟨hu,iX,l5⟩
 cases hu
 have lz:=l5.get hc mI
 obtain⟨r1,yg⟩:∃r,r=order2 aI d a b sw:=⟨_,rfl⟩
 obtain⟨q1,q2,q3⟩:=iH d (sw:=sw) ha hb
 rw[←yg]at q1 q2 q3 iX ⊢
 try simp -implicitDefEqProofs only[op,ef,cl,sq,reduceIte,j2,j3,j4,j5,j6,j7,j8,j9,y1,S1]
 refine af _ _ _ _ _ _ _ _ (kL c n p r1.2.2 d r1.2.1 e _ hn lz iX q2 he hs (by omega)) ?_
 rintro u H2⟨hu,oj,cR⟩
 cases hu
 have o8:=cR.get lz mI
 obtain⟨r2,Et⟩:∃r,r=order2 aI d r1.2.1 e r1.2.2:=⟨_,rfl⟩
 obtain⟨q4,q5,q6⟩:=iH d (sw:=r1.2.2) q2 he
 rw[←Et]at q4 q5 q6 oj ⊢
 try simp -implicitDefEqProofs only[op,ef,cl,sq,reduceIte,j2,j3,j4,j5,j6,j7,j8,j9,y1,S1]
 refine af _ _ _ _ _ _ _ _ (kL c n p r2.2.2 d r1.1 r2.1 _ hn o8 oj q1 q4 hs (by omega)) ?_
 rintro u H3⟨hu,C5,tD⟩
 cases hu
 obtain⟨q7,q8,q9⟩:=iH d (sw:=r2.2.2) q1 q4
 have e:median aI d a b e sw=((order2 aI d r1.1 r2.1 r2.2.2).2.1,(order2 aI d r1.1 r2.1 r2.2.2).2.2):=by rw[median,←yg,←Et]
 rw[e]
 try simp -implicitDefEqProofs only[op,ef,cl,sq,reduceIte,j2,j3,j4,j5,j6,j7,j8,j9,y1,S1]
 exact⟨⟨rfl,C5,(l5.trans cR fun _ h=>.inl h).trans tD fun _ h=>.inl h⟩,q8,by omega⟩
open Go.Sort in
theorem iI (c n p sw:Nat)(d:Array Nat)(a:Nat)(H:ae)(hn:d.size=n)(hc:H[c]?=some (.cells (aK eU d.toList)))(hp:H[p]?=some (.cells [.int .i64 sw]))(mI:¬c=p)(ha:1≤a)(o6:a+1<n)(hs:n<2305843009213693951)(IJ:sw<900) :
  W env (.call 178 [.aB c 0 n 1,.int .i64 a,.ptr p 0]) H (fun o H'=>EU p (medianAdjacent aI d a sw) H o H'∧(medianAdjacent aI d a sw).1<n∧(medianAdjacent aI d a sw).2≤sw+3):=by
 refine W.cQ rfl rfl rfl ?_
 simp -implicitDefEqProofs (maxSteps:=1000000) (disch:=omega) only[BK,aa,ah,ai,aj,ak,aq,ar,wA,aP,wS,aO,wM,S2,op,ef,cl,sq,reduceIte,j2,j3,j4,j5,j6,j7,j8,j9,y1,S1]
 refine af _ _ _ _ _ _ _ _ (kM c n p sw d (a-1) a (a+1) _ hn hc hp mI (by omega) (by omega) o6 hs IJ) ?_
 rintro u H1⟨⟨hu,iX,l5⟩,q1,q2⟩
 cases hu
 try simp -implicitDefEqProofs only[op,ef,cl,sq,reduceIte,j2,j3,j4,j5,j6,j7,j8,j9,y1,S1]
 exact⟨⟨rfl,iX,l5⟩,q1,q2⟩
open Go.Sort in
theorem oL (c n:Nat)(d:Array Nat)(a b:Nat)(H:ae)(hn:d.size=n)(hc:H[c]?=some (.cells (aK eU d.toList)))(hb:b≤n)(ga:a+12<b)(hs:n<1305843009213693951) :
  W env (.call 142 [.aB c 0 n 1,.int .i64 a,.int .i64 b]) H (fun o H'=>o=.val (.bC [.int .i64 (choosePivot aI d a b).1,.int .i64 (fm (choosePivot aI d a b).2)])∧Ext H H'):=by
 refine W.cQ rfl rfl rfl ?_
 have h8:8≤b-a:=by omega
 have lc:=bo hc
 have mI:¬c=H.length:=by omega
 have jC:(H++[B.cells [T.int IntKind.i64 0]])[c]?=some (.cells (aK eU d.toList)):=by rw[gW lc];exact hc
 have MP:(H++[B.cells [T.int IntKind.i64 0]])[H.length]?=some (.cells [.int .i64 ((0:Nat):Int)]):=bT rfl
 have fin:∀H2:ae,bX (fun x=>x=H.length) (H++[B.cells [T.int IntKind.i64 0]]) H2→Ext H H2:=fun H2 hf=>B2 fun x y hx=>hf.get (by rw[gW (bo hx)];exact hx) (by have:=bo hx;omega)
 by_cases rf:50≤b-a
 ·simp -implicitDefEqProofs (maxSteps:=1000000) (disch:=omega) only[wF,aa,ah,ai,aj,ak,aq,ar,wA,aP,wS,aO,wM,S2,op,ef,cl,sq,reduceIte,j2,j3,j4,j5,j6,j7,j8,j9,y1,S1,yk,NS,yl,NT,h8,rf]
  refine af _ _ _ _ _ _ _ _ (iI c n H.length 0 d _ _ hn jC MP mI (by omega) (by omega) (by omega) (by omega)) ?_
  rintro u H1⟨⟨hu,iX,l5⟩,q1,q2⟩
  cases hu
  obtain⟨ri,MQ⟩:∃r,r=medianAdjacent aI d (a+(b-a)/4*1) 0:=⟨_,rfl⟩
  rw[←MQ]at q1 q2 iX ⊢
  have lz:=l5.get jC mI
  try simp -implicitDefEqProofs only[op,ef,cl,sq,reduceIte,j2,j3,j4,j5,j6,j7,j8,j9,y1,S1]
  refine af _ _ _ _ _ _ _ _ (iI c n H.length ri.2 d _ _ hn lz iX mI (by omega) (by omega) (by omega) (by omega)) ?_
  rintro u H2⟨⟨hu,oj,cR⟩,q3,q4⟩
  cases hu
  obtain⟨rj,MR⟩:∃r,r=medianAdjacent aI d (a+(b-a)/4*2) ri.2:=⟨_,rfl⟩
  rw[←MR]at q3 q4 oj ⊢
  have o8:=cR.get lz mI
  try simp -implicitDefEqProofs only[op,ef,cl,sq,reduceIte,j2,j3,j4,j5,j6,j7,j8,j9,y1,S1]
  refine af _ _ _ _ _ _ _ _ (iI c n H.length rj.2 d _ _ hn o8 oj mI (by omega) (by omega) (by omega) (by omega)) ?_
  rintro u H3⟨⟨hu,C5,tD⟩,q5,q6⟩
  cases hu
  obtain⟨rk,MS⟩:∃r,r=medianAdjacent aI d (a+(b-a)/4*3) rj.2:=⟨_,rfl⟩
  rw[←MS]at q5 q6 C5 ⊢
  have QX:=tD.get o8 mI
  try simp -implicitDefEqProofs only[op,ef,cl,sq,reduceIte,j2,j3,j4,j5,j6,j7,j8,j9,y1,S1]
  refine af _ _ _ _ _ _ _ _ (kM c n H.length rk.2 d ri.1 rj.1 rk.1 _ hn QX C5 mI q1 q3 q5 (by omega) (by omega)) ?_
  rintro u H4⟨⟨hu,rl,Cd⟩,q7,q8⟩
  cases hu
  have e:choosePivot aI d a b=((median aI d ri.1 rj.1 rk.1 rk.2).1,if (median aI d ri.1 rj.1 rk.1 rk.2).2=0 then .increasing else if (median aI d ri.1 rj.1 rk.1 rk.2).2=12 then .decreasing else .unknown):=by
   simp -implicitDefEqProofs only[choosePivot,ge_iff_le,if_pos h8,if_pos rf,←MQ,←MR,←MS]
  rw[e]
  have hx:=fin _ (((l5.trans cR fun _ h=>.inl h).trans tD fun _ h=>.inl h).trans Cd fun _ h=>.inl h)
  generalize median aI d ri.1 rj.1 rk.1 rk.2=r at *
  obtain⟨m,sw⟩:=r
  simp only at rl ⊢
  by_cases s0:sw=0
  ·subst s0
   have e0:(((0:Nat):Int)==0)=true:=rfl
   simp -implicitDefEqProofs only[op,ef,cl,sq,reduceIte,j2,j3,j4,j5,j6,j7,j8,j9,y1,S1,rl,e0]
   exact⟨rfl,hx⟩
  have e0:(((sw:Nat):Int)==0)=false:=by simp;omega
  by_cases s1:sw=12
  ·subst s1
   have e1:(((12:Nat):Int)==12)=true:=rfl
   simp -implicitDefEqProofs only[op,ef,cl,sq,reduceIte,j2,j3,j4,j5,j6,j7,j8,j9,y1,S1,rl,e0,e1]
   exact⟨rfl,hx⟩
  have e1:(((sw:Nat):Int)==12)=false:=by simp;omega
  simp -implicitDefEqProofs only[op,ef,cl,sq,reduceIte,j2,j3,j4,j5,j6,j7,j8,j9,y1,S1,rl,e0,e1,s0,s1]
  exact⟨rfl,hx⟩
 ·simp -implicitDefEqProofs (maxSteps:=1000000) (disch:=omega) only[wF,aa,ah,ai,aj,ak,aq,ar,wA,aP,wS,aO,wM,S2,op,ef,cl,sq,reduceIte,j2,j3,j4,j5,j6,j7,j8,j9,y1,S1,yk,NS,yl,NT,h8,rf]
  refine af _ _ _ _ _ _ _ _ (kM c n H.length 0 d _ _ _ _ hn jC MP mI (by omega) (by omega) (by omega) (by omega) (by omega)) ?_
  rintro u H4⟨⟨hu,rl,Cd⟩,q7,q8⟩
  cases hu
  have e:choosePivot aI d a b=((median aI d (a+(b-a)/4*1) (a+(b-a)/4*2) (a+(b-a)/4*3) 0).1,if (median aI d (a+(b-a)/4*1) (a+(b-a)/4*2) (a+(b-a)/4*3) 0).2=0 then .increasing else if (median aI d (a+(b-a)/4*1) (a+(b-a)/4*2) (a+(b-a)/4*3) 0).2=12 then .decreasing else .unknown):=by
   simp -implicitDefEqProofs only[choosePivot,ge_iff_le,if_pos h8,if_neg rf]
  rw[e]
  have hx:=fin _ Cd
  generalize median aI d (a+(b-a)/4*1) (a+(b-a)/4*2) (a+(b-a)/4*3) 0=r at *
  obtain⟨m,sw⟩:=r
  simp only at rl ⊢
  by_cases s0:sw=0
  ·subst s0
   have e0:(((0:Nat):Int)==0)=true:=rfl
   simp -implicitDefEqProofs only[op,ef,cl,sq,reduceIte,j2,j3,j4,j5,j6,j7,j8,j9,y1,S1,rl,e0]
   exact⟨rfl,hx⟩
  have e0:(((sw:Nat):Int)==0)=false:=by simp;omega
  by_cases s1:sw=12
  ·subst s1
   have e1:(((12:Nat):Int)==12)=true:=rfl
   simp -implicitDefEqProofs only[op,ef,cl,sq,reduceIte,j2,j3,j4,j5,j6,j7,j8,j9,y1,S1,rl,e0,e1]
   exact⟨rfl,hx⟩
  have e1:(((sw:Nat):Int)==12)=false:=by simp;omega
  simp -implicitDefEqProofs only[op,ef,cl,sq,reduceIte,j2,j3,j4,j5,j6,j7,j8,j9,y1,S1,rl,e0,e1,s0,s1]
  exact⟨rfl,hx⟩
def jy (a len md:Nat)(d:Array Nat):Nat→UInt64×Array Nat
 | 0=>(UInt64.ofNat len,d)
 | j+1=>Go.Sort.breakStep a len md (jy a len md d j) (a+len/4*2-1+j)
open Go.Sort in
theorem rm (c n:Nat)(d:Array Nat)(a b:Nat)(H:ae)(hn:d.size=n)(hc:H[c]?=some (.cells (aK eU d.toList)))(hb:b≤n)(ga:a+12<b)(hs:n<16777216) :
  W env (.call 141 [.aB c 0 n 1,.int .i64 a,.int .i64 b]) H (fU c n (breakPatterns d a b) H):=by
 refine W.cQ rfl rfl rfl ?_
 have h8:8≤b-a:=by omega
 have lc:=bo hc
 obtain⟨len,hlen⟩:∃len,len=b-a:=⟨_,rfl⟩
 have wl:IntKind.u64.wrap ((len:Nat):Int)=(len:Int):=mY (by omega)
 rw[←hlen]at h8
 simp -implicitDefEqProofs (maxSteps:=1000000) (disch:=omega) only[Bu,aa,ah,ai,aj,ak,aq,ar,wA,aP,wS,aO,wM,S2,op,ef,cl,sq,reduceIte,j2,j3,j4,j5,j6,j7,j8,j9,y1,S1,yk,yl,←hlen,wl,h8]
 refine af _ _ _ _ _ _ _ _ (B5 len (by omega) _) ?_
 rintro u H1⟨hu,rfl⟩
 cases hu
 obtain⟨md,MT⟩:∃md,md=1 <<< bitsLen len:=⟨_,rfl⟩
 have qQ:=tz (n:=len) (by omega)
 have MU:1≤1 <<< bitsLen len:=by rw[Nat.one_shiftLeft];exact Nat.one_le_two_pow
 rw[←MT]at MU qQ ⊢
 have hq:len/4*2≤len:=by omega
 obtain⟨ix,rZ⟩:∃ix,ix=a+len/4*2-1:=⟨_,rfl⟩
 have qT:breakPatterns d a b=(jy a len md d 3).2:=by
  simp -implicitDefEqProofs only[breakPatterns,←hlen,ge_iff_le,if_pos h8,jy,←MT,Nat.add_zero]
 simp -implicitDefEqProofs (maxSteps:=1000000) (disch:=omega) only[aa,ah,ai,aj,ak,aq,ar,wA,aP,wS,aO,wM,S2,op,ef,cl,sq,reduceIte,j2,j3,j4,j5,j6,j7,j8,j9,y1,S1,yk,yl,←rZ]
 have lz:(H++[B.cells [T.int IntKind.u64 len]])[c]?=some (.cells (aK eU d.toList)):=by rw[gW lc];exact hc
 have iX:(H++[B.cells [T.int IntKind.u64 len]])[H.length]?=some (.cells [.int .u64 (UInt64.ofNat len).toNat]):=by
  rw[bT rfl,UInt64.toNat_ofNat_of_lt' (by show len<18446744073709551616;omega)]
 refine W.fg (fun (j:Nat) R H'=>At H' (fun H'=>∃d':Array Nat,H'[c]?=some (.cells (aK eU d'.toList))∧d'.size=n∧d'=(jy a len md d j).2∧H'[H.length]?=some (.cells [.int .u64 (jy a len md d j).1.toNat])∧bX (fun x=>x=c∨x=H.length) (H++[B.cells [T.int IntKind.u64 len]]) H')∧R 0=.aB c 0 n 1∧R 1=.int .i64 a∧R 6=.int .i64 len∧R 7=.ptr H.length 0∧R 8=.int .u64 md∧R 9=.int .i64 (ix+j:Nat)∧j≤3) (fun j=>3-j) 0 ⟨.i ⟨d,lz,hn,rfl,iX,bX.refl _ _⟩,rfl,rfl,rfl,rfl,rfl,rfl,by omega⟩ ?_
 rintro j R H1⟨⟨di,hd,aQ,MV,hp,ay⟩,h0,h1,EY,h9,aG,aM,hj⟩
 by_cases US:j<3
 ·have hle:ix+j≤a+len/4*2+1:=by omega
  simp -implicitDefEqProofs (maxSteps:=1000000) (disch:=omega) only[aa,ah,ai,aj,ak,aq,ar,wA,aP,wS,aO,wM,S2,op,ef,cl,sq,reduceIte,j2,j3,j4,j5,j6,j7,j8,j9,y1,S1,yk,yl,h0,h1,EY,h9,aG,aM,hle]
  refine af _ _ _ _ _ _ _ _ (GL H.length _ _ hp) ?_
  rintro u H2⟨hu,oj,cR⟩
  cases hu
  have hd:=cR.get hd (by omega)
  have EZ:=bo hd
  obtain⟨r,hr⟩:∃r,r=xorNext (jy a len md d j).1:=⟨_,rfl⟩
  rw[←hr]at oj ⊢
  obtain⟨ot,E0⟩:∃ot,ot=r.toNat &&& (md-1):=⟨_,rfl⟩
  have UT:ot≤md-1:=by rw[E0];exact Nat.and_le_right
  have bz:jy a len md d (j+1)=(r,swp di (ix+j) (a+if ot≥len then ot-len else ot)):=by
   simp -implicitDefEqProofs only[jy,breakStep,←hr,←MV,←E0,←rZ]
  have aY:¬(c=H.length):=by omega
  by_cases dD:len≤ot
  ·rw[if_pos dD]at bz
   simp -implicitDefEqProofs (maxSteps:=1000000) (disch:=omega) only[aa,ah,ai,aj,ak,aq,ar,wA,aP,wS,aO,wM,S2,op,ef,cl,sq,reduceIte,j2,j3,j4,j5,j6,j7,j8,j9,y1,S1,NU,wH,wN,←E0,h0,h1,EY,h9,aG,aM,dD,hd,EZ]
   refine⟨j+1,by omega,.i ⟨swp di (ix+j) (a+(ot-len)),gh (by rw[List.length_set];exact EZ),by rw[swp_size];exact aQ,by rw[bz],?_,((ay.trans cR fun x h=>.inl (.inr h)).set (.inl (.inl rfl)) _).set (.inl (.inl rfl)) _⟩,rfl,by omega⟩
   rw[jS aY,jS aY,oj,bz]
  ·rw[if_neg dD]at bz
   simp -implicitDefEqProofs (maxSteps:=1000000) (disch:=omega) only[aa,ah,ai,aj,ak,aq,ar,wA,aP,wS,aO,wM,S2,op,ef,cl,sq,reduceIte,j2,j3,j4,j5,j6,j7,j8,j9,y1,S1,NU,wH,wN,←E0,h0,h1,EY,h9,aG,aM,dD,hd,EZ]
   refine⟨j+1,by omega,.i ⟨swp di (ix+j) (a+ot),gh (by rw[List.length_set];exact EZ),by rw[swp_size];exact aQ,by rw[bz],?_,((ay.trans cR fun x h=>.inl (.inr h)).set (.inl (.inl rfl)) _).set (.inl (.inl rfl)) _⟩,rfl,by omega⟩
   rw[jS aY,jS aY,oj,bz]
 ·have JA:j=3:=by omega
  subst JA
  have hle:¬(ix+3≤a+len/4*2+1):=by omega
  simp -implicitDefEqProofs (maxSteps:=1000000) (disch:=omega) only[aa,ah,ai,aj,ak,aq,ar,wA,aP,wS,aO,wM,S2,op,ef,cl,sq,reduceIte,j2,j3,j4,j5,j6,j7,j8,j9,y1,S1,yk,yl,h0,h1,EY,h9,aG,aM,hle]
  exact⟨rfl,di,hd,aQ,by rw[qT,MV],(aN (F:=fun x=>x=c) (H:=H) (H':=H++[B.cells [T.int IntKind.u64 len]]) ⟨_,rfl⟩).trans ay fun x h=>h.elim .inl fun e=>.inr (by omega)⟩
open Go.Sort in
theorem cF {p:Nat→Bool}{d:Array Nat}{i k:Nat}(h:1≤i):scanDown p d i k=if (decide (i≤k)&&p d[k]!)=true then scanDown p d i (k-1)else k:=by
 cases k with
 | zero=>rw[scanDown,if_neg (cz (bw (by omega)))]
 | succ k=>rw[scanDown];rfl
open Go.Sort in
theorem rn {a i j si sj:Nat}{d:Array Nat}(hi:si=scanUp (fun x=>!aI d[a]! x) d j i)(hj:sj=scanDown (fun x=>aI d[a]! x) d si j):partEqLoop aI a i j d=if si>sj then(si,d)else if (sj-1)+1-(si+1)<j+1-i then partEqLoop aI a (si+1) (sj-1) (swp d si sj)else(si,d):=by
 subst hi;subst hj
 rw[partEqLoop]
 rfl
open Go.Sort in
theorem Ce (c n:Nat)(d:Array Nat)(a b pv:Nat)(H:ae)(hn:d.size=n)(hc:H[c]?=some (.cells (aK eU d.toList)))(hb:b≤n)(ga:a<b)(ki:pv<n)(hs:n<2305843009213693951) :
  W env (.call 146 [.aB c 0 n 1,.int .i64 a,.int .i64 b,.int .i64 pv]) H (fun o H'=>o=.val (.int .i64 (partitionEqual aI d a b pv).1)∧bV c n H (fun x=>x=(partitionEqual aI d a b pv).2) H'):=by
 refine W.cQ rfl rfl rfl ?_
 have hd:=hc
 have lc:=bo hd
 simp -implicitDefEqProofs (maxSteps:=1000000) (disch:=omega) only[Bz,aa,ah,ai,aj,ak,aq,ar,wA,aP,wS,aO,wM,S2,op,ef,cl,sq,reduceIte,j2,j3,j4,j5,j6,j7,j8,j9,y1,S1,hd,lc]
 obtain⟨d1,oc,xM,e1,l5⟩:=bV.swp (n:=n) (P:=fun x=>x=swp d a pv) (x:=.cells (aK eU (d.toList.set a d[pv]!))) hd (by rw[Go.Sort.swp_size];exact hn) rfl (bX.refl (fun x=>x=c) H)
 subst e1
 generalize ((H.set c (.cells (aK eU (d.toList.set a d[pv]!)))).set c (.cells (aK eU (swp d a pv).toList)))=H1 at *
 refine W.bU 0 (fun (q:Nat×Nat) R H'=>At H' (fun H'=>bV c n H (fun di=>partEqLoop aI a q.1 q.2 di=partitionEqual aI d a b pv) H')∧R 0=.aB c 0 n 1∧R 1=.int .i64 a∧R 0=.aB c 0 n 1∧R 9=.int .i64 q.1∧R 10=.int .i64 q.2∧a<q.1∧q.2<n∧q.1≤n) (fun q=>q.2+1-q.1) (a+1,b-1)
  (fun R H'=>At H' (fun H'=>bV c n H (fun di=>di=(partitionEqual aI d a b pv).2) H')∧R 9=.int .i64 (partitionEqual aI d a b pv).1) ⟨.i ⟨_,oc,xM,rfl,l5⟩,rfl,rfl,rfl,rfl,rfl,by omega,by simp only;omega,by simp only;omega⟩ ?_ ?_
 ·rintro⟨i,j⟩ R H1 ⟨⟨di,hd,aQ,hP,ay⟩,h0,h1,h4,aM,aF,Cc,ye,kx⟩
  simp only at hP aM aF Cc ye kx ⊢
  simp -implicitDefEqProofs only[op,ef,cl,sq,reduceIte,j2,j3,j4,j5,j6,j7,j8,j9,y1,S1,h0,h1,h4,aM,aF]
  obtain⟨si,mJ⟩:∃si,si=scanUp (fun x=>!aI di[a]! x) di j i:=⟨_,rfl⟩
  refine W.bU 2 (fun (k:Nat) R H'=>At H' (fun H'=>H'[c]?=some (.cells (aK eU di.toList))∧bX (fun x=>x=c) H H')∧R 0=.aB c 0 n 1∧R 1=.int .i64 a∧R 0=.aB c 0 n 1∧R 9=.int .i64 k∧R 10=.int .i64 j∧i≤k∧k≤n∧scanUp (fun x=>!aI di[a]! x) di j k=si) (fun k=>j+1-k) i
   (fun R H'=>At H' (fun H'=>H'[c]?=some (.cells (aK eU di.toList))∧bX (fun x=>x=c) H H')∧R 0=.aB c 0 n 1∧R 1=.int .i64 a∧R 0=.aB c 0 n 1∧R 9=.int .i64 si∧R 10=.int .i64 j∧i≤si∧si≤n) ⟨.i ⟨hd,ay⟩,h0,h1,h4,aM,aF,Nat.le_refl _,kx,mJ.symm⟩ ?_ ?_
  ·rintro k R H2⟨⟨hd,ay⟩,h0,h1,h4,aM,aF,oM,tE,hk⟩
   have lc:=bo hd
   by_cases dF:k≤j
   ·simp -implicitDefEqProofs (maxSteps:=1000000) (disch:=omega) only[aa,ah,ai,aj,ak,aq,ar,wA,aP,wS,aO,wM,S2,op,ef,cl,sq,reduceIte,j2,j3,j4,j5,j6,j7,j8,j9,y1,S1,h0,h1,h4,aM,aF,dF,hd,lc]
    refine af _ _ _ _ _ _ _ _ (aX di[a]! di[k]! _) ?_
    rintro u H3⟨hu,dk⟩
    cases hu
    have hx:Ext H2 H3:=by rw[dk];exact Ext.rfl'
    have hd:=hx.get hd
    have lc:=bo hd
    have ay:=ay.trans (aN (F:=fun _=>False) hx) (fun _ h=>h.elim)
    have ct:aI di[a]! di[k]! = decide (aI di[a]! di[k]! = true):=by simp
    by_cases c1:aI di[a]! di[k]! = true
    ·simp -implicitDefEqProofs (maxSteps:=1000000) (disch:=omega) only[aa,ah,ai,aj,ak,aq,ar,wA,aP,wS,aO,wM,S2,op,ef,cl,sq,reduceIte,j2,j3,j4,j5,j6,j7,j8,j9,y1,S1,h0,h1,h4,aM,aF,dF,c1]
     rw[scanUp,if_neg (cN (by rw[ct,bB c1];rfl))]at hk
     subst hk
     exact⟨.i ⟨hd,ay⟩,rfl,oM,tE⟩
    ·simp -implicitDefEqProofs (maxSteps:=1000000) (disch:=omega) only[aa,ah,ai,aj,ak,aq,ar,wA,aP,wS,aO,wM,S2,op,ef,cl,sq,reduceIte,j2,j3,j4,j5,j6,j7,j8,j9,y1,S1,h0,h1,h4,aM,aF,dF,c1]
     rw[scanUp,if_pos (eb (bB dF) (dA (ct.trans (bw c1))))]at hk
     exact⟨k+1,by omega,.i ⟨hd,ay⟩,rfl,by omega,by omega,hk⟩
   ·simp -implicitDefEqProofs (maxSteps:=1000000) (disch:=omega) only[op,ef,cl,sq,reduceIte,j2,j3,j4,j5,j6,j7,j8,j9,y1,S1,h0,h1,h4,aM,aF,dF]
    try simp -implicitDefEqProofs only[op,ef,cl,sq,reduceIte,j2,j3,j4,j5,j6,j7,j8,j9,y1,S1,h0,h1,h4,aM,aF,dF]
    rw[scanUp,if_neg (cz (bw dF))]at hk
    subst hk
    exact⟨.i ⟨hd,ay⟩,rfl,oM,tE⟩
  ·rintro R H2⟨⟨hd,ay⟩,h0,h1,h4,aM,aF,uU,Cf⟩
   simp -implicitDefEqProofs only[op,ef,cl,sq,reduceIte,j2,j3,j4,j5,j6,j7,j8,j9,y1,S1,h0,h1,h4,aM,aF]
   obtain⟨sj,pn⟩:∃sj,sj=scanDown (fun x=>aI di[a]! x) di si j:=⟨_,rfl⟩
   refine W.bU 4 (fun (k:Nat) R H'=>At H' (fun H'=>H'[c]?=some (.cells (aK eU di.toList))∧bX (fun x=>x=c) H H')∧R 0=.aB c 0 n 1∧R 1=.int .i64 a∧R 0=.aB c 0 n 1∧R 9=.int .i64 si∧R 10=.int .i64 k∧k≤j∧scanDown (fun x=>aI di[a]! x) di si k=sj) (fun k=>k) j
    (fun R H'=>At H' (fun H'=>H'[c]?=some (.cells (aK eU di.toList))∧bX (fun x=>x=c) H H')∧R 0=.aB c 0 n 1∧R 1=.int .i64 a∧R 0=.aB c 0 n 1∧R 9=.int .i64 si∧R 10=.int .i64 sj∧sj≤j) ⟨.i ⟨hd,ay⟩,h0,h1,h4,aM,aF,Nat.le_refl _,pn.symm⟩ ?_ ?_
   ·rintro k R H3⟨⟨hd,ay⟩,h0,h1,h4,aM,aF,dF,hk⟩
    have lc:=bo hd
    rw[cF (by omega)]at hk
    by_cases bE:si≤k
    ·simp -implicitDefEqProofs (maxSteps:=1000000) (disch:=omega) only[aa,ah,ai,aj,ak,aq,ar,wA,aP,wS,aO,wM,S2,op,ef,cl,sq,reduceIte,j2,j3,j4,j5,j6,j7,j8,j9,y1,S1,h0,h1,h4,aM,aF,bE,hd,lc]
     refine af _ _ _ _ _ _ _ _ (aX di[a]! di[k]! _) ?_
     rintro u H4⟨hu,dk⟩
     cases hu
     have hx:Ext H3 H4:=by rw[dk];exact Ext.rfl'
     have hd:=hx.get hd
     have lc:=bo hd
     have ay:=ay.trans (aN (F:=fun _=>False) hx) (fun _ h=>h.elim)
     have ct:aI di[a]! di[k]! = decide (aI di[a]! di[k]! = true):=by simp
     by_cases c1:aI di[a]! di[k]! = true
     ·simp -implicitDefEqProofs (maxSteps:=1000000) (disch:=omega) only[aa,ah,ai,aj,ak,aq,ar,wA,aP,wS,aO,wM,S2,op,ef,cl,sq,reduceIte,j2,j3,j4,j5,j6,j7,j8,j9,y1,S1,h0,h1,h4,aM,aF,bE,c1]
      rw[if_pos (eb (bB bE) (ct.trans (bB c1)))]at hk
      exact⟨k-1,by omega,.i ⟨hd,ay⟩,rfl,by omega,hk⟩
     ·simp -implicitDefEqProofs (maxSteps:=1000000) (disch:=omega) only[aa,ah,ai,aj,ak,aq,ar,wA,aP,wS,aO,wM,S2,op,ef,cl,sq,reduceIte,j2,j3,j4,j5,j6,j7,j8,j9,y1,S1,h0,h1,h4,aM,aF,bE,c1]
      rw[if_neg (cN (ct.trans (bw c1)))]at hk
      subst hk
      exact⟨.i ⟨hd,ay⟩,rfl,dF⟩
    ·simp -implicitDefEqProofs only[op,ef,cl,sq,reduceIte,j2,j3,j4,j5,j6,j7,j8,j9,y1,S1,h0,h1,h4,aM,aF,bE]
     rw[if_neg (cz (bw bE))]at hk
     subst hk
     exact⟨.i ⟨hd,ay⟩,rfl,dF⟩
   ·rintro R H3⟨⟨hd,ay⟩,h0,h1,h4,aM,aF,Cg⟩
    have lc:=bo hd
    rw[rn mJ pn]at hP
    by_cases fy:sj<si
    ·rw[if_pos fy]at hP
     simp -implicitDefEqProofs only[op,ef,cl,sq,reduceIte,j2,j3,j4,j5,j6,j7,j8,j9,y1,S1,h0,h1,h4,aM,aF,fy]
     exact⟨.i ⟨di,hd,aQ,by rw[←hP],ay⟩,by rw[←hP]⟩
    ·rw[if_neg fy,if_pos (by omega)]at hP
     simp -implicitDefEqProofs (maxSteps:=1000000) (disch:=omega) only[aa,ah,ai,aj,ak,aq,ar,wA,aP,wS,aO,wM,S2,op,ef,cl,sq,reduceIte,j2,j3,j4,j5,j6,j7,j8,j9,y1,S1,h0,h1,h4,aM,aF,fy,hd,lc]
     exact⟨(si+1,sj-1),by simp only;omega,.i (.swp hd (by rw[swp_size];exact aQ) hP ay),rfl,rfl,by simp only;omega,by simp only;omega,by simp only;omega⟩
 ·rintro R H1⟨⟨di,hd,aQ,hP,ay⟩,aM⟩
  simp -implicitDefEqProofs only[op,ef,cl,sq,reduceIte,j2,j3,j4,j5,j6,j7,j8,j9,y1,S1,aM]
  exact⟨di,hd,aQ,hP,ay⟩
open Go.Sort in
theorem oN {a i j si sj:Nat}{d:Array Nat}(hi:si=scanUp (fun x=>aI x d[a]!) d j i)(hj:sj=scanDown (fun x=>!aI x d[a]!) d si j):partLoop aI a i j d=if si>sj then(sj,d)else if (sj-1)+1-(si+1)<j+1-i then partLoop aI a (si+1) (sj-1) (swp d si sj)else(sj,d):=by
 subst hi;subst hj
 rw[partLoop]
 rfl
open Go.Sort in
theorem uV (c n:Nat)(d:Array Nat)(a b pv:Nat)(H:ae)(hn:d.size=n)(hc:H[c]?=some (.cells (aK eU d.toList)))(hb:b≤n)(ga:a<b)(ki:pv<n)(hs:n<2305843009213693951) :
  W env (.call 147 [.aB c 0 n 1,.int .i64 a,.int .i64 b,.int .i64 pv]) H (fun o H'=>o=.val (.bC [.int .i64 (partition aI d a b pv).1,.bool (partition aI d a b pv).2.1])∧bV c n H (fun x=>x=(partition aI d a b pv).2.2) H'):=by
 refine W.cQ rfl rfl rfl ?_
 have hd:=hc
 have lc:=bo hd
 simp -implicitDefEqProofs (maxSteps:=1000000) (disch:=omega) only[BA,aa,ah,ai,aj,ak,aq,ar,wA,aP,wS,aO,wM,S2,op,ef,cl,sq,reduceIte,j2,j3,j4,j5,j6,j7,j8,j9,y1,S1,hd,lc]
 obtain⟨d1,oc,xM,e1,l5⟩:=bV.swp (n:=n) (P:=fun x=>x=swp d a pv) (x:=.cells (aK eU (d.toList.set a d[pv]!))) hd (by rw[Go.Sort.swp_size];exact hn) rfl (bX.refl (fun x=>x=c) H)
 subst e1
 generalize ((H.set c (.cells (aK eU (d.toList.set a d[pv]!)))).set c (.cells (aK eU (swp d a pv).toList)))=H1 at *
 have hd:=oc
 have ay:=l5
 obtain⟨si,mJ⟩:∃si,si=scanUp (fun x=>aI x (swp d a pv)[a]!) (swp d a pv) (b-1) (a+1):=⟨_,rfl⟩
 refine W.bU 0 (fun (k:Nat) R H'=>At H' (fun H'=>H'[c]?=some (.cells (aK eU (swp d a pv).toList))∧bX (fun x=>x=c) H H')∧R 0=.aB c 0 n 1∧R 1=.int .i64 a∧R 0=.aB c 0 n 1∧R 10=.int .i64 k∧R 11=.int .i64 ((b-1):Nat)∧(a+1)≤k∧k≤n∧scanUp (fun x=>aI x (swp d a pv)[a]!) (swp d a pv) ((b-1)) k=si) (fun k=>(b-1)+1-k) ((a+1))
  (fun R H'=>At H' (fun H'=>H'[c]?=some (.cells (aK eU (swp d a pv).toList))∧bX (fun x=>x=c) H H')∧R 0=.aB c 0 n 1∧R 1=.int .i64 a∧R 0=.aB c 0 n 1∧R 10=.int .i64 si∧R 11=.int .i64 ((b-1):Nat)∧(a+1)≤si∧si≤n) ⟨.i ⟨hd,ay⟩,rfl,rfl,rfl,rfl,rfl,Nat.le_refl _,by omega,mJ.symm⟩ ?_ ?_
 ·rintro k R H2⟨⟨hd,ay⟩,h0,h1,h4,aF,aU,oM,tE,hk⟩
  have lc:=bo hd
  by_cases dF:k≤(b-1)
  ·simp -implicitDefEqProofs (maxSteps:=1000000) (disch:=omega) only[aa,ah,ai,aj,ak,aq,ar,wA,aP,wS,aO,wM,S2,op,ef,cl,sq,reduceIte,j2,j3,j4,j5,j6,j7,j8,j9,y1,S1,h0,h1,h4,aF,aU,dF,hd,lc]
   refine af _ _ _ _ _ _ _ _ (aX (swp d a pv)[k]! (swp d a pv)[a]! _) ?_
   rintro u H3⟨hu,dk⟩
   cases hu
   have hx:Ext H2 H3:=by rw[dk];exact Ext.rfl'
   have hd:=hx.get hd
   have lc:=bo hd
   have ay:=ay.trans (aN (F:=fun _=>False) hx) (fun _ h=>h.elim)
   have ct:aI (swp d a pv)[k]! (swp d a pv)[a]! = decide (aI (swp d a pv)[k]! (swp d a pv)[a]! = true):=by simp
   by_cases c1:aI (swp d a pv)[k]! (swp d a pv)[a]! = true
   ·simp -implicitDefEqProofs (maxSteps:=1000000) (disch:=omega) only[aa,ah,ai,aj,ak,aq,ar,wA,aP,wS,aO,wM,S2,op,ef,cl,sq,reduceIte,j2,j3,j4,j5,j6,j7,j8,j9,y1,S1,h0,h1,h4,aF,aU,dF,c1]
    rw[scanUp,if_pos (eb (bB dF) (ct.trans (bB c1)))]at hk
    exact⟨k+1,by omega,.i ⟨hd,ay⟩,rfl,by omega,by omega,hk⟩
   ·simp -implicitDefEqProofs (maxSteps:=1000000) (disch:=omega) only[aa,ah,ai,aj,ak,aq,ar,wA,aP,wS,aO,wM,S2,op,ef,cl,sq,reduceIte,j2,j3,j4,j5,j6,j7,j8,j9,y1,S1,h0,h1,h4,aF,aU,dF,c1]
    rw[scanUp,if_neg (cN (ct.trans (bw c1)))]at hk
    subst hk
    exact⟨.i ⟨hd,ay⟩,rfl,oM,tE⟩
  ·simp -implicitDefEqProofs only[op,ef,cl,sq,reduceIte,j2,j3,j4,j5,j6,j7,j8,j9,y1,S1,h0,h1,h4,aF,aU,dF]
   rw[scanUp,if_neg (cz (bw dF))]at hk
   subst hk
   exact⟨.i ⟨hd,ay⟩,rfl,oM,tE⟩
 ·rintro R H2⟨⟨hd,ay⟩,h0,h1,h4,aF,aU,uU,Cf⟩
  simp -implicitDefEqProofs only[op,ef,cl,sq,reduceIte,j2,j3,j4,j5,j6,j7,j8,j9,y1,S1,h0,h1,h4,aF,aU]
  obtain⟨sj,pn⟩:∃sj,sj=scanDown (fun x=>!aI x (swp d a pv)[a]!) (swp d a pv) si (b-1):=⟨_,rfl⟩
  refine W.bU 2 (fun (k:Nat) R H'=>At H' (fun H'=>H'[c]?=some (.cells (aK eU (swp d a pv).toList))∧bX (fun x=>x=c) H H')∧R 0=.aB c 0 n 1∧R 1=.int .i64 a∧R 0=.aB c 0 n 1∧R 10=.int .i64 si∧R 11=.int .i64 k∧k≤(b-1)∧scanDown (fun x=>!aI x (swp d a pv)[a]!) (swp d a pv) si k=sj) (fun k=>k) ((b-1))
   (fun R H'=>At H' (fun H'=>H'[c]?=some (.cells (aK eU (swp d a pv).toList))∧bX (fun x=>x=c) H H')∧R 0=.aB c 0 n 1∧R 1=.int .i64 a∧R 0=.aB c 0 n 1∧R 10=.int .i64 si∧R 11=.int .i64 sj∧sj≤(b-1)) ⟨.i ⟨hd,ay⟩,h0,h1,h4,aF,aU,Nat.le_refl _,pn.symm⟩ ?_ ?_
  ·rintro k R H3⟨⟨hd,ay⟩,h0,h1,h4,aF,aU,dF,hk⟩
   have lc:=bo hd
   rw[cF (by omega)]at hk
   by_cases bE:si≤k
   ·simp -implicitDefEqProofs (maxSteps:=1000000) (disch:=omega) only[aa,ah,ai,aj,ak,aq,ar,wA,aP,wS,aO,wM,S2,op,ef,cl,sq,reduceIte,j2,j3,j4,j5,j6,j7,j8,j9,y1,S1,h0,h1,h4,aF,aU,bE,hd,lc]
    refine af _ _ _ _ _ _ _ _ (aX (swp d a pv)[k]! (swp d a pv)[a]! _) ?_
    rintro u H4⟨hu,dk⟩
    cases hu
    have hx:Ext H3 H4:=by rw[dk];exact Ext.rfl'
    have hd:=hx.get hd
    have lc:=bo hd
    have ay:=ay.trans (aN (F:=fun _=>False) hx) (fun _ h=>h.elim)
    have ct:aI (swp d a pv)[k]! (swp d a pv)[a]! = decide (aI (swp d a pv)[k]! (swp d a pv)[a]! = true):=by simp
    by_cases c1:aI (swp d a pv)[k]! (swp d a pv)[a]! = true
    ·simp -implicitDefEqProofs (maxSteps:=1000000) (disch:=omega) only[aa,ah,ai,aj,ak,aq,ar,wA,aP,wS,aO,wM,S2,op,ef,cl,sq,reduceIte,j2,j3,j4,j5,j6,j7,j8,j9,y1,S1,h0,h1,h4,aF,aU,bE,c1]
     rw[if_neg (cN (by rw[ct,bB c1];rfl))]at hk
     subst hk
     exact⟨.i ⟨hd,ay⟩,rfl,dF⟩
    ·simp -implicitDefEqProofs (maxSteps:=1000000) (disch:=omega) only[aa,ah,ai,aj,ak,aq,ar,wA,aP,wS,aO,wM,S2,op,ef,cl,sq,reduceIte,j2,j3,j4,j5,j6,j7,j8,j9,y1,S1,h0,h1,h4,aF,aU,bE,c1]
     rw[if_pos (eb (bB bE) (dA (ct.trans (bw c1))))]at hk
     exact⟨k-1,by omega,.i ⟨hd,ay⟩,rfl,by omega,hk⟩
   ·simp -implicitDefEqProofs only[op,ef,cl,sq,reduceIte,j2,j3,j4,j5,j6,j7,j8,j9,y1,S1,h0,h1,h4,aF,aU,bE]
    rw[if_neg (cz (bw bE))]at hk
    subst hk
    exact⟨.i ⟨hd,ay⟩,rfl,dF⟩
  ·rintro R H3⟨⟨hd,ay⟩,h0,h1,h4,aF,aU,Cg⟩
   have lc:=bo hd
   by_cases fy:sj<si
   ·have e:partition aI d a b pv=(sj,true,swp (swp d a pv) sj a):=by
     simp -implicitDefEqProofs only[partition,←mJ,←pn,gt_iff_lt,if_pos fy]
    rw[e]
    simp -implicitDefEqProofs (maxSteps:=1000000) (disch:=omega) only[aa,ah,ai,aj,ak,aq,ar,wA,aP,wS,aO,wM,S2,op,ef,cl,sq,reduceIte,j2,j3,j4,j5,j6,j7,j8,j9,y1,S1,h0,h1,h4,aF,aU,fy,hd,lc]
    exact .swp hd (by rw[swp_size];exact xM) rfl ay
   ·obtain⟨r,hr⟩:∃r,r=partLoop aI a (si+1) (sj-1) (swp (swp d a pv) si sj):=⟨_,rfl⟩
    have e:partition aI d a b pv=(r.1,false,swp r.2 r.1 a):=by
     simp -implicitDefEqProofs only[partition,←mJ,←pn,gt_iff_lt,if_neg fy,←hr]
    rw[e]
    simp -implicitDefEqProofs (maxSteps:=1000000) (disch:=omega) only[aa,ah,ai,aj,ak,aq,ar,wA,aP,wS,aO,wM,S2,op,ef,cl,sq,reduceIte,j2,j3,j4,j5,j6,j7,j8,j9,y1,S1,h0,h1,h4,aF,aU,fy,hd,lc]
    obtain⟨d2,bm,fo,e2,cR⟩:=bV.swp (n:=n) (P:=fun x=>x=swp (swp d a pv) si sj) (x:=.cells (aK eU ((swp d a pv).toList.set si (swp d a pv)[sj]!))) hd (by rw[swp_size];exact xM) rfl ay
    subst e2
    generalize ((H3.set c (.cells (aK eU ((swp d a pv).toList.set si (swp d a pv)[sj]!)))).set c (.cells (aK eU (swp (swp d a pv) si sj).toList)))=H5 at *
    refine W.bU 4 (fun (q:Nat×Nat) R H'=>At H' (fun H'=>bV c n H (fun di=>partLoop aI a q.1 q.2 di=r) H')∧R 0=.aB c 0 n 1∧R 1=.int .i64 a∧R 0=.aB c 0 n 1∧R 10=.int .i64 q.1∧R 11=.int .i64 q.2∧a<q.1∧q.2<n∧q.1≤n) (fun q=>q.2+1-q.1) (si+1,sj-1)
     (fun R H'=>At H' (fun H'=>bV c n H (fun di=>di=r.2) H')∧R 0=.aB c 0 n 1∧R 1=.int .i64 a∧R 0=.aB c 0 n 1∧R 11=.int .i64 r.1∧r.1<n) ⟨.i ⟨_,bm,fo,hr.symm,cR⟩,?_,?_,?_,?_,?_,by simp only;omega,by simp only;omega,by simp only;omega⟩ ?_ ?_
    ·simp -implicitDefEqProofs only[op,ef,cl,sq,reduceIte,j2,j3,j4,j5,j6,j7,j8,j9,y1,S1,h0]
    ·simp -implicitDefEqProofs only[op,ef,cl,sq,reduceIte,j2,j3,j4,j5,j6,j7,j8,j9,y1,S1,h1]
    ·simp -implicitDefEqProofs only[op,ef,cl,sq,reduceIte,j2,j3,j4,j5,j6,j7,j8,j9,y1,S1,h4]
    ·simp -implicitDefEqProofs only[op,ef,cl,sq,reduceIte,j2,j3,j4,j5,j6,j7,j8,j9,y1,S1,aF]
    ·simp -implicitDefEqProofs only[op,ef,cl,sq,reduceIte,j2,j3,j4,j5,j6,j7,j8,j9,y1,S1,aU]
    ·rintro⟨i,j⟩ R H1 ⟨⟨di,hd,aQ,hP,ay⟩,h0,h1,h4,aF,aU,Cc,ye,kx⟩
     simp only at hP aF aU Cc ye kx ⊢
     simp -implicitDefEqProofs only[op,ef,cl,sq,reduceIte,j2,j3,j4,j5,j6,j7,j8,j9,y1,S1,h0,h1,h4,aF,aU]
     clear mJ pn
     obtain⟨si,mJ⟩:∃si,si=scanUp (fun x=>aI x di[a]!) di j i:=⟨_,rfl⟩
     refine W.bU 6 (fun (k:Nat) R H'=>At H' (fun H'=>H'[c]?=some (.cells (aK eU di.toList))∧bX (fun x=>x=c) H H')∧R 0=.aB c 0 n 1∧R 1=.int .i64 a∧R 0=.aB c 0 n 1∧R 10=.int .i64 k∧R 11=.int .i64 (j:Nat)∧i≤k∧k≤n∧scanUp (fun x=>aI x di[a]!) di (j) k=si) (fun k=>j+1-k) (i)
      (fun R H'=>At H' (fun H'=>H'[c]?=some (.cells (aK eU di.toList))∧bX (fun x=>x=c) H H')∧R 0=.aB c 0 n 1∧R 1=.int .i64 a∧R 0=.aB c 0 n 1∧R 10=.int .i64 si∧R 11=.int .i64 (j:Nat)∧i≤si∧si≤n) ⟨.i ⟨hd,ay⟩,h0,h1,h4,aF,aU,Nat.le_refl _,by omega,mJ.symm⟩ ?_ ?_
     ·rintro k R H2⟨⟨hd,ay⟩,h0,h1,h4,aF,aU,oM,tE,hk⟩
      have lc:=bo hd
      by_cases dF:k≤j
      ·simp -implicitDefEqProofs (maxSteps:=1000000) (disch:=omega) only[aa,ah,ai,aj,ak,aq,ar,wA,aP,wS,aO,wM,S2,op,ef,cl,sq,reduceIte,j2,j3,j4,j5,j6,j7,j8,j9,y1,S1,h0,h1,h4,aF,aU,dF,hd,lc]
       refine af _ _ _ _ _ _ _ _ (aX di[k]! di[a]! _) ?_
       rintro u H3⟨hu,dk⟩
       cases hu
       have hx:Ext H2 H3:=by rw[dk];exact Ext.rfl'
       have hd:=hx.get hd
       have lc:=bo hd
       have ay:=ay.trans (aN (F:=fun _=>False) hx) (fun _ h=>h.elim)
       have ct:aI di[k]! di[a]! = decide (aI di[k]! di[a]! = true):=by simp
       by_cases c1:aI di[k]! di[a]! = true
       ·simp -implicitDefEqProofs (maxSteps:=1000000) (disch:=omega) only[aa,ah,ai,aj,ak,aq,ar,wA,aP,wS,aO,wM,S2,op,ef,cl,sq,reduceIte,j2,j3,j4,j5,j6,j7,j8,j9,y1,S1,h0,h1,h4,aF,aU,dF,c1]
        rw[scanUp,if_pos (eb (bB dF) (ct.trans (bB c1)))]at hk
        exact⟨k+1,by omega,.i ⟨hd,ay⟩,rfl,by omega,by omega,hk⟩
       ·simp -implicitDefEqProofs (maxSteps:=1000000) (disch:=omega) only[aa,ah,ai,aj,ak,aq,ar,wA,aP,wS,aO,wM,S2,op,ef,cl,sq,reduceIte,j2,j3,j4,j5,j6,j7,j8,j9,y1,S1,h0,h1,h4,aF,aU,dF,c1]
        rw[scanUp,if_neg (cN (ct.trans (bw c1)))]at hk
        subst hk
        exact⟨.i ⟨hd,ay⟩,rfl,oM,tE⟩
      ·simp -implicitDefEqProofs only[op,ef,cl,sq,reduceIte,j2,j3,j4,j5,j6,j7,j8,j9,y1,S1,h0,h1,h4,aF,aU,dF]
       rw[scanUp,if_neg (cz (bw dF))]at hk
       subst hk
       exact⟨.i ⟨hd,ay⟩,rfl,oM,tE⟩
     ·rintro R H2⟨⟨hd,ay⟩,h0,h1,h4,aF,aU,uU,Cf⟩
      simp -implicitDefEqProofs only[op,ef,cl,sq,reduceIte,j2,j3,j4,j5,j6,j7,j8,j9,y1,S1,h0,h1,h4,aF,aU]
      obtain⟨sj,pn⟩:∃sj,sj=scanDown (fun x=>!aI x di[a]!) di si j:=⟨_,rfl⟩
      refine W.bU 8 (fun (k:Nat) R H'=>At H' (fun H'=>H'[c]?=some (.cells (aK eU di.toList))∧bX (fun x=>x=c) H H')∧R 0=.aB c 0 n 1∧R 1=.int .i64 a∧R 0=.aB c 0 n 1∧R 10=.int .i64 si∧R 11=.int .i64 k∧k≤j∧scanDown (fun x=>!aI x di[a]!) di si k=sj) (fun k=>k) (j)
       (fun R H'=>At H' (fun H'=>H'[c]?=some (.cells (aK eU di.toList))∧bX (fun x=>x=c) H H')∧R 0=.aB c 0 n 1∧R 1=.int .i64 a∧R 0=.aB c 0 n 1∧R 10=.int .i64 si∧R 11=.int .i64 sj∧sj≤j) ⟨.i ⟨hd,ay⟩,h0,h1,h4,aF,aU,Nat.le_refl _,pn.symm⟩ ?_ ?_
      ·rintro k R H3⟨⟨hd,ay⟩,h0,h1,h4,aF,aU,dF,hk⟩
       have lc:=bo hd
       rw[cF (by omega)]at hk
       by_cases bE:si≤k
       ·simp -implicitDefEqProofs (maxSteps:=1000000) (disch:=omega) only[aa,ah,ai,aj,ak,aq,ar,wA,aP,wS,aO,wM,S2,op,ef,cl,sq,reduceIte,j2,j3,j4,j5,j6,j7,j8,j9,y1,S1,h0,h1,h4,aF,aU,bE,hd,lc]
        refine af _ _ _ _ _ _ _ _ (aX di[k]! di[a]! _) ?_
        rintro u H4⟨hu,dk⟩
        cases hu
        have hx:Ext H3 H4:=by rw[dk];exact Ext.rfl'
        have hd:=hx.get hd
        have lc:=bo hd
        have ay:=ay.trans (aN (F:=fun _=>False) hx) (fun _ h=>h.elim)
        have ct:aI di[k]! di[a]! = decide (aI di[k]! di[a]! = true):=by simp
        by_cases c1:aI di[k]! di[a]! = true
        ·simp -implicitDefEqProofs (maxSteps:=1000000) (disch:=omega) only[aa,ah,ai,aj,ak,aq,ar,wA,aP,wS,aO,wM,S2,op,ef,cl,sq,reduceIte,j2,j3,j4,j5,j6,j7,j8,j9,y1,S1,h0,h1,h4,aF,aU,bE,c1]
         rw[if_neg (cN (by rw[ct,bB c1];rfl))]at hk
         subst hk
         exact⟨.i ⟨hd,ay⟩,rfl,dF⟩
        ·simp -implicitDefEqProofs (maxSteps:=1000000) (disch:=omega) only[aa,ah,ai,aj,ak,aq,ar,wA,aP,wS,aO,wM,S2,op,ef,cl,sq,reduceIte,j2,j3,j4,j5,j6,j7,j8,j9,y1,S1,h0,h1,h4,aF,aU,bE,c1]
         rw[if_pos (eb (bB bE) (dA (ct.trans (bw c1))))]at hk
         exact⟨k-1,by omega,.i ⟨hd,ay⟩,rfl,by omega,hk⟩
       ·simp -implicitDefEqProofs only[op,ef,cl,sq,reduceIte,j2,j3,j4,j5,j6,j7,j8,j9,y1,S1,h0,h1,h4,aF,aU,bE]
        rw[if_neg (cz (bw bE))]at hk
        subst hk
        exact⟨.i ⟨hd,ay⟩,rfl,dF⟩
      ·rintro R H3⟨⟨hd,ay⟩,h0,h1,h4,aF,aU,Cg⟩
       have lc:=bo hd
       rw[oN mJ pn]at hP
       by_cases fy:sj<si
       ·rw[if_pos fy]at hP
        simp -implicitDefEqProofs only[op,ef,cl,sq,reduceIte,j2,j3,j4,j5,j6,j7,j8,j9,y1,S1,h0,h1,h4,aF,aU,fy]
        exact⟨.i ⟨di,hd,aQ,by rw[←hP],ay⟩,by rw[←hP],by rw[←hP];simp only;omega⟩
       ·rw[if_neg fy,if_pos (by omega)]at hP
        simp -implicitDefEqProofs (maxSteps:=1000000) (disch:=omega) only[aa,ah,ai,aj,ak,aq,ar,wA,aP,wS,aO,wM,S2,op,ef,cl,sq,reduceIte,j2,j3,j4,j5,j6,j7,j8,j9,y1,S1,h0,h1,h4,aF,aU,fy,hd,lc]
        exact⟨(si+1,sj-1),by simp only;omega,.i (.swp hd (by rw[swp_size];exact aQ) hP ay),rfl,rfl,by simp only;omega,by simp only;omega,by simp only;omega⟩
    ·rintro R H1⟨⟨di,hd,aQ,rfl,ay⟩,h0,h1,h4,aU,yg⟩
     have lc:=bo hd
     simp -implicitDefEqProofs (maxSteps:=1000000) (disch:=omega) only[aa,ah,ai,aj,ak,aq,ar,wA,aP,wS,aO,wM,S2,op,ef,cl,sq,reduceIte,j2,j3,j4,j5,j6,j7,j8,j9,y1,S1,h0,h1,h4,aU,hd,lc]
     exact .swp hd (by rw[swp_size];exact aQ) rfl ay
open Go.Sort in
theorem gK {d:Array Nat}{k:Nat}(h:1≤k):shiftDown aI k d=if (!aI d[k]! d[k-1]!)=true then d else shiftDown aI (k-1) (swp d k (k-1)):=by
 cases k with
 | zero=>omega
 | succ k=>rw[shiftDown];rfl
open Go.Sort in
theorem uW (c n:Nat)(d:Array Nat)(a b:Nat)(H:ae)(hn:d.size=n)(hc:H[c]?=some (.cells (aK eU d.toList)))(hb:b≤n)(ga:a<b)(hs:n<2305843009213693951) :
  W env (.call 144 [.aB c 0 n 1,.int .i64 a,.int .i64 b]) H (fun o H'=>o=.val (.bool (partialInsertionSort aI d a b).2)∧bV c n H (fun x=>x=(partialInsertionSort aI d a b).1) H'):=by
 refine W.cQ rfl rfl rfl ?_
 obtain⟨r,hr⟩:∃r,r=partialInsertionSort aI d a b:=⟨_,rfl⟩
 rw[←hr]
 simp -implicitDefEqProofs (maxSteps:=1000000) (disch:=omega) only[Bw,aa,ah,ai,aj,ak,aq,ar,wA,aP,wS,aO,wM,S2,op,ef,cl,sq,reduceIte,j2,j3,j4,j5,j6,j7,j8,j9,y1,S1]
 refine W.bU 0 (fun (j:Nat) R H'=>At H' (fun H'=>∃i,R 7=.int .i64 (i:Nat)∧a<i∧i≤b∧bV c n H (fun di=>partialIns aI a b (5-j) i di=r) H')∧R 0=.aB c 0 n 1∧R 1=.int .i64 a∧R 2=.int .i64 b∧R 0=.aB c 0 n 1∧R 8=.int .i64 j∧j≤5) (fun j=>5-j) 0
  (fun R H'=>At H' (fun H'=>bV c n H (fun di=>(di,false)=r) H')) ⟨.i ⟨a+1,rfl,by omega,by omega,d,hc,hn,hr.symm,bX.refl _ _⟩,rfl,rfl,rfl,rfl,rfl,by omega⟩ ?_ ?_
 ·rintro j R H1⟨⟨i,h9,Cc,QY,di,hd,aQ,hP,ay⟩,h0,h1,h2,h3,aG,hj⟩
  by_cases QZ:j<5
  rotate_left
  ·have:j=5:=by omega
   subst this
   simp -implicitDefEqProofs only[op,ef,cl,sq,reduceIte,j2,j3,j4,j5,j6,j7,j8,j9,y1,S1,h0,h1,h2,h3,aG]
   exact .i ⟨di,hd,aQ,hP,ay⟩
  obtain⟨s,E1⟩:∃s,5-j=s+1:=⟨4-j,by omega⟩
  have rp:5-(j+1)=s:=by omega
  rw[E1,partialIns]at hP
  simp -implicitDefEqProofs only[op,ef,cl,sq,reduceIte,j2,j3,j4,j5,j6,j7,j8,j9,y1,S1,h0,h1,h2,h3,aG,QZ]
  obtain⟨si,mJ⟩:∃si,si=scanSorted aI di b i:=⟨_,rfl⟩
  rw[←mJ]at hP
  refine W.bU 2 (fun (k:Nat) R H'=>At H' (fun H'=>H'[c]?=some (.cells (aK eU di.toList))∧bX (fun x=>x=c) H H')∧R 0=.aB c 0 n 1∧R 1=.int .i64 a∧R 2=.int .i64 b∧R 0=.aB c 0 n 1∧R 7=.int .i64 k∧R 8=.int .i64 j∧i≤k∧k≤b∧scanSorted aI di b k=si) (fun k=>b-k) i
   (fun R H'=>At H' (fun H'=>H'[c]?=some (.cells (aK eU di.toList))∧bX (fun x=>x=c) H H')∧R 0=.aB c 0 n 1∧R 1=.int .i64 a∧R 2=.int .i64 b∧R 0=.aB c 0 n 1∧R 7=.int .i64 si∧R 8=.int .i64 j∧i≤si∧si≤b) ⟨.i ⟨hd,ay⟩,?_,?_,?_,?_,?_,?_,Nat.le_refl _,QY,mJ.symm⟩ ?_ ?_
  ·simp -implicitDefEqProofs only[op,ef,cl,sq,reduceIte,j2,j3,j4,j5,j6,j7,j8,j9,y1,S1,h0]
  ·simp -implicitDefEqProofs only[op,ef,cl,sq,reduceIte,j2,j3,j4,j5,j6,j7,j8,j9,y1,S1,h1]
  ·simp -implicitDefEqProofs only[op,ef,cl,sq,reduceIte,j2,j3,j4,j5,j6,j7,j8,j9,y1,S1,h2]
  ·simp -implicitDefEqProofs only[op,ef,cl,sq,reduceIte,j2,j3,j4,j5,j6,j7,j8,j9,y1,S1,h3]
  ·simp -implicitDefEqProofs only[op,ef,cl,sq,reduceIte,j2,j3,j4,j5,j6,j7,j8,j9,y1,S1,h9]
  ·simp -implicitDefEqProofs only[op,ef,cl,sq,reduceIte,j2,j3,j4,j5,j6,j7,j8,j9,y1,S1,aG]
  ·rintro k R H2⟨⟨hd,ay⟩,h0,h1,h2,h3,h9,aG,oM,xf,hk⟩
   have lc:=bo hd
   by_cases bE:k<b
   ·simp -implicitDefEqProofs (maxSteps:=1000000) (disch:=omega) only[aa,ah,ai,aj,ak,aq,ar,wA,aP,wS,aO,wM,S2,op,ef,cl,sq,reduceIte,j2,j3,j4,j5,j6,j7,j8,j9,y1,S1,h0,h1,h2,h3,h9,aG,bE,hd,lc]
    refine af _ _ _ _ _ _ _ _ (aX di[k]! di[k-1]! _) ?_
    rintro u H3⟨hu,dk⟩
    cases hu
    have hx:Ext H2 H3:=by rw[dk];exact Ext.rfl'
    have hd:=hx.get hd
    have lc:=bo hd
    have ay:=ay.trans (aN (F:=fun _=>False) hx) (fun _ h=>h.elim)
    have ct:aI di[k]! di[k-1]! = decide (aI di[k]! di[k-1]! = true):=by simp
    by_cases c1:aI di[k]! di[k-1]! = true
    ·simp -implicitDefEqProofs (maxSteps:=1000000) (disch:=omega) only[aa,ah,ai,aj,ak,aq,ar,wA,aP,wS,aO,wM,S2,op,ef,cl,sq,reduceIte,j2,j3,j4,j5,j6,j7,j8,j9,y1,S1,h0,h1,h2,h3,h9,aG,bE,c1]
     rw[scanSorted,if_neg (cN (by rw[ct,bB c1];rfl))]at hk
     subst hk
     exact⟨.i ⟨hd,ay⟩,rfl,oM,xf⟩
    ·simp -implicitDefEqProofs (maxSteps:=1000000) (disch:=omega) only[aa,ah,ai,aj,ak,aq,ar,wA,aP,wS,aO,wM,S2,op,ef,cl,sq,reduceIte,j2,j3,j4,j5,j6,j7,j8,j9,y1,S1,h0,h1,h2,h3,h9,aG,bE,c1]
     rw[scanSorted,if_pos (eb (bB bE) (dA (ct.trans (bw c1))))]at hk
     exact⟨k+1,by omega,.i ⟨hd,ay⟩,rfl,by omega,by omega,hk⟩
   ·simp -implicitDefEqProofs only[op,ef,cl,sq,reduceIte,j2,j3,j4,j5,j6,j7,j8,j9,y1,S1,h0,h1,h2,h3,h9,aG,bE]
    rw[scanSorted,if_neg (cz (bw bE))]at hk
    subst hk
    exact⟨.i ⟨hd,ay⟩,rfl,oM,xf⟩
  ·rintro R H2⟨⟨hd,ay⟩,h0,h1,h2,h3,h9,aG,uU,Q0⟩
   have lc:=bo hd
   by_cases lZ:si=b
   ·rw[if_pos lZ]at hP
    have e1:((si:Int)==(b:Int))=true:=by rw[lZ];simp
    simp -implicitDefEqProofs (maxSteps:=1000000) (disch:=omega) only[aa,ah,ai,aj,ak,aq,ar,wA,aP,wS,aO,wM,S2,op,ef,cl,sq,reduceIte,j2,j3,j4,j5,j6,j7,j8,j9,y1,S1,h0,h1,h2,h3,h9,aG,e1]
    rw[←hP]
    exact⟨rfl,di,hd,aQ,rfl,ay⟩
   rw[if_neg lZ]at hP
   have e1:((si:Int)==(b:Int))=false:=by simp;omega
   by_cases rf:b-a<50
   ·rw[if_pos rf]at hP
    simp -implicitDefEqProofs (maxSteps:=1000000) (disch:=omega) only[aa,ah,ai,aj,ak,aq,ar,wA,aP,wS,aO,wM,S2,op,ef,cl,sq,reduceIte,j2,j3,j4,j5,j6,j7,j8,j9,y1,S1,h0,h1,h2,h3,h9,aG,e1,rf]
    rw[←hP]
    exact⟨rfl,di,hd,aQ,rfl,ay⟩
   rw[if_neg rf]at hP
   simp -implicitDefEqProofs (maxSteps:=1000000) (disch:=omega) only[aa,ah,ai,aj,ak,aq,ar,wA,aP,wS,aO,wM,S2,op,ef,cl,sq,reduceIte,j2,j3,j4,j5,j6,j7,j8,j9,y1,S1,h0,h1,h2,h3,h9,aG,e1,rf,hd,lc]
   obtain⟨d3,jN⟩:∃d3,d3=if si-a≥2 then shiftDown aI (si-1) (swp di si (si-1))else swp di si (si-1):=⟨_,rfl⟩
   obtain⟨d4,oO⟩:∃d4,d4=if b-si≥2 then shiftUp aI b (si+1) d3 else d3:=⟨_,rfl⟩
   have hP:partialIns aI a b s si d4=r:=by rw[oO,jN];exact hP
   obtain⟨d2,bm,fo,e2,cR⟩:=bV.swp (n:=n) (P:=fun x=>x=swp di si (si-1)) (x:=.cells (aK eU (di.toList.set si di[si-1]!))) hd (by rw[swp_size];exact aQ) rfl ay
   subst e2
   generalize ((H2.set c (.cells (aK eU (di.toList.set si di[si-1]!)))).set c (.cells (aK eU (swp di si (si-1)).toList)))=H5 at *
   by_cases hA:2≤si-a
   ·rw[if_pos hA]at jN
    simp -implicitDefEqProofs (maxSteps:=1000000) (disch:=omega) only[aa,ah,ai,aj,ak,aq,ar,wA,aP,wS,aO,wM,S2,op,ef,cl,sq,reduceIte,j2,j3,j4,j5,j6,j7,j8,j9,y1,S1,h0,h1,h2,h3,h9,aG,hA]
    refine W.bU 4 (fun (k:Nat) R H'=>At H' (fun H'=>bV c n H (fun dx=>shiftDown aI k dx=d3) H')∧R 0=.aB c 0 n 1∧R 1=.int .i64 a∧R 2=.int .i64 b∧R 0=.aB c 0 n 1∧R 7=.int .i64 si∧R 8=.int .i64 j∧R 9=.int .i64 k∧k<b) (fun k=>k) (si-1)
     (fun R H'=>At H' (fun H'=>bV c n H (fun dx=>dx=d3) H')∧R 0=.aB c 0 n 1∧R 1=.int .i64 a∧R 2=.int .i64 b∧R 0=.aB c 0 n 1∧R 7=.int .i64 si∧R 8=.int .i64 j) ⟨.i ⟨_,bm,fo,jN.symm,cR⟩,?_,?_,?_,?_,?_,?_,?_,by omega⟩ ?_ ?_
    ·simp -implicitDefEqProofs only[op,ef,cl,sq,reduceIte,j2,j3,j4,j5,j6,j7,j8,j9,y1,S1,h0]
    ·simp -implicitDefEqProofs only[op,ef,cl,sq,reduceIte,j2,j3,j4,j5,j6,j7,j8,j9,y1,S1,h1]
    ·simp -implicitDefEqProofs only[op,ef,cl,sq,reduceIte,j2,j3,j4,j5,j6,j7,j8,j9,y1,S1,h2]
    ·simp -implicitDefEqProofs only[op,ef,cl,sq,reduceIte,j2,j3,j4,j5,j6,j7,j8,j9,y1,S1,h3]
    ·simp -implicitDefEqProofs only[op,ef,cl,sq,reduceIte,j2,j3,j4,j5,j6,j7,j8,j9,y1,S1,h9]
    ·simp -implicitDefEqProofs only[op,ef,cl,sq,reduceIte,j2,j3,j4,j5,j6,j7,j8,j9,y1,S1,aG]
    ·simp -implicitDefEqProofs only[op,ef,cl,sq,reduceIte,j2,j3,j4,j5,j6,j7,j8,j9,y1,S1]
    ·rintro k R H2⟨⟨dx,hd,aQ,hk,ay⟩,h0,h1,h2,h3,h9,aG,aM,xf⟩
     have lc:=bo hd
     by_cases o9:1≤k
     ·simp -implicitDefEqProofs (maxSteps:=1000000) (disch:=omega) only[aa,ah,ai,aj,ak,aq,ar,wA,aP,wS,aO,wM,S2,op,ef,cl,sq,reduceIte,j2,j3,j4,j5,j6,j7,j8,j9,y1,S1,h0,h1,h2,h3,h9,aG,aM,o9,hd,lc]
      refine af _ _ _ _ _ _ _ _ (aX dx[k]! dx[k-1]! _) ?_
      rintro u H3⟨hu,dk⟩
      cases hu
      have hx:Ext H2 H3:=by rw[dk];exact Ext.rfl'
      have hd:=hx.get hd
      have lc:=bo hd
      have ay:=ay.trans (aN (F:=fun _=>False) hx) (fun _ h=>h.elim)
      have ct:aI dx[k]! dx[k-1]! = decide (aI dx[k]! dx[k-1]! = true):=by simp
      rw[gK o9]at hk
      by_cases c1:aI dx[k]! dx[k-1]! = true
      ·simp -implicitDefEqProofs (maxSteps:=1000000) (disch:=omega) only[aa,ah,ai,aj,ak,aq,ar,wA,aP,wS,aO,wM,S2,op,ef,cl,sq,reduceIte,j2,j3,j4,j5,j6,j7,j8,j9,y1,S1,h0,h1,h2,h3,h9,aG,aM,o9,hd,lc,c1]
       rw[if_neg (iM (ct.trans (bB c1)))]at hk
       exact⟨k-1,by omega,.i (.swp hd (by rw[swp_size];exact aQ) hk ay),rfl,by omega⟩
      ·simp -implicitDefEqProofs (maxSteps:=1000000) (disch:=omega) only[aa,ah,ai,aj,ak,aq,ar,wA,aP,wS,aO,wM,S2,op,ef,cl,sq,reduceIte,j2,j3,j4,j5,j6,j7,j8,j9,y1,S1,h0,h1,h2,h3,h9,aG,aM,o9,hd,lc,c1]
       rw[if_pos (dA (ct.trans (bw c1)))]at hk
       exact .i ⟨dx,hd,aQ,hk,ay⟩
     ·have Jp:k=0:=by omega
      subst Jp
      simp -implicitDefEqProofs only[op,ef,cl,sq,reduceIte,j2,j3,j4,j5,j6,j7,j8,j9,y1,S1,h0,h1,h2,h3,h9,aG,aM,o9]
      rw[shiftDown]at hk
      exact .i ⟨dx,hd,aQ,hk,ay⟩
    ·rintro R H2⟨⟨dx,hd,mK,rfl,ay⟩,h0,h1,h2,h3,h9,aG⟩
     have lc:=bo hd
     by_cases hB:2≤b-si
     ·simp -implicitDefEqProofs (maxSteps:=1000000) (disch:=omega) only[aa,ah,ai,aj,ak,aq,ar,wA,aP,wS,aO,wM,S2,op,ef,cl,sq,reduceIte,j2,j3,j4,j5,j6,j7,j8,j9,y1,S1,h0,h1,h2,h3,h9,aG,hB]
      rw[if_pos hB]at oO
      refine W.bU 6 (fun (k:Nat) R H'=>At H' (fun H'=>bV c n H (fun dx=>shiftUp aI b k dx=d4) H')∧R 0=.aB c 0 n 1∧R 1=.int .i64 a∧R 2=.int .i64 b∧R 0=.aB c 0 n 1∧R 7=.int .i64 si∧R 8=.int .i64 j∧R 10=.int .i64 k∧1≤k∧k≤b) (fun k=>b-k) (si+1)
       (fun R H'=>At H' (fun H'=>bV c n H (fun dx=>dx=d4) H')∧R 0=.aB c 0 n 1∧R 1=.int .i64 a∧R 2=.int .i64 b∧R 0=.aB c 0 n 1∧R 7=.int .i64 si∧R 8=.int .i64 j) ⟨.i ⟨dx,hd,mK,oO.symm,ay⟩,?_,?_,?_,?_,?_,?_,?_,by omega,by omega⟩ ?_ ?_
      ·simp -implicitDefEqProofs only[op,ef,cl,sq,reduceIte,j2,j3,j4,j5,j6,j7,j8,j9,y1,S1,h0]
      ·simp -implicitDefEqProofs only[op,ef,cl,sq,reduceIte,j2,j3,j4,j5,j6,j7,j8,j9,y1,S1,h1]
      ·simp -implicitDefEqProofs only[op,ef,cl,sq,reduceIte,j2,j3,j4,j5,j6,j7,j8,j9,y1,S1,h2]
      ·simp -implicitDefEqProofs only[op,ef,cl,sq,reduceIte,j2,j3,j4,j5,j6,j7,j8,j9,y1,S1,h3]
      ·simp -implicitDefEqProofs only[op,ef,cl,sq,reduceIte,j2,j3,j4,j5,j6,j7,j8,j9,y1,S1,h9]
      ·simp -implicitDefEqProofs only[op,ef,cl,sq,reduceIte,j2,j3,j4,j5,j6,j7,j8,j9,y1,S1,aG]
      ·simp -implicitDefEqProofs only[op,ef,cl,sq,reduceIte,j2,j3,j4,j5,j6,j7,j8,j9,y1,S1]
      ·rintro k R H2⟨⟨dx,hd,aQ,hk,ay⟩,h0,h1,h2,h3,h9,aG,aF,o9,xf⟩
       have lc:=bo hd
       by_cases bE:k<b
       ·simp -implicitDefEqProofs (maxSteps:=1000000) (disch:=omega) only[aa,ah,ai,aj,ak,aq,ar,wA,aP,wS,aO,wM,S2,op,ef,cl,sq,reduceIte,j2,j3,j4,j5,j6,j7,j8,j9,y1,S1,h0,h1,h2,h3,h9,aG,aF,bE,hd,lc]
        refine af _ _ _ _ _ _ _ _ (aX dx[k]! dx[k-1]! _) ?_
        rintro u H3⟨hu,dk⟩
        cases hu
        have hx:Ext H2 H3:=by rw[dk];exact Ext.rfl'
        have hd:=hx.get hd
        have lc:=bo hd
        have ay:=ay.trans (aN (F:=fun _=>False) hx) (fun _ h=>h.elim)
        have ct:aI dx[k]! dx[k-1]! = decide (aI dx[k]! dx[k-1]! = true):=by simp
        rw[shiftUp,if_pos bE]at hk
        by_cases c1:aI dx[k]! dx[k-1]! = true
        ·simp -implicitDefEqProofs (maxSteps:=1000000) (disch:=omega) only[aa,ah,ai,aj,ak,aq,ar,wA,aP,wS,aO,wM,S2,op,ef,cl,sq,reduceIte,j2,j3,j4,j5,j6,j7,j8,j9,y1,S1,h0,h1,h2,h3,h9,aG,aF,bE,hd,lc,c1]
         rw[if_neg (iM (ct.trans (bB c1)))]at hk
         exact⟨k+1,by omega,.i (.swp hd (by rw[swp_size];exact aQ) hk ay),rfl,by omega,by omega⟩
        ·simp -implicitDefEqProofs (maxSteps:=1000000) (disch:=omega) only[aa,ah,ai,aj,ak,aq,ar,wA,aP,wS,aO,wM,S2,op,ef,cl,sq,reduceIte,j2,j3,j4,j5,j6,j7,j8,j9,y1,S1,h0,h1,h2,h3,h9,aG,aF,bE,hd,lc,c1]
         rw[if_pos (dA (ct.trans (bw c1)))]at hk
         exact .i ⟨dx,hd,aQ,hk,ay⟩
       ·simp -implicitDefEqProofs only[op,ef,cl,sq,reduceIte,j2,j3,j4,j5,j6,j7,j8,j9,y1,S1,h0,h1,h2,h3,h9,aG,aF,bE]
        rw[shiftUp,if_neg bE]at hk
        exact .i ⟨dx,hd,aQ,hk,ay⟩
      ·rintro R H2⟨⟨dx,hd,aQ,rfl,ay⟩,h0,h1,h2,h3,h9,aG⟩
       simp -implicitDefEqProofs (maxSteps:=1000000) (disch:=omega) only[aa,ah,ai,aj,ak,aq,ar,wA,aP,wS,aO,wM,S2,op,ef,cl,sq,reduceIte,j2,j3,j4,j5,j6,j7,j8,j9,y1,S1,h0,h1,h2,h3,h9,aG]
       exact⟨j+1,by omega,.i ⟨si,rfl,by omega,by omega,dx,hd,aQ,by rw[rp];exact hP,ay⟩,rfl,by omega⟩
     ·rw[if_neg hB]at oO
      subst oO
      simp -implicitDefEqProofs (maxSteps:=1000000) (disch:=omega) only[aa,ah,ai,aj,ak,aq,ar,wA,aP,wS,aO,wM,S2,op,ef,cl,sq,reduceIte,j2,j3,j4,j5,j6,j7,j8,j9,y1,S1,h0,h1,h2,h3,h9,aG,hB]
      exact⟨j+1,by omega,.i ⟨si,rfl,by omega,by omega,d4,hd,mK,by rw[rp];exact hP,ay⟩,rfl,by omega⟩
   ·rw[if_neg hA]at jN
    simp -implicitDefEqProofs (maxSteps:=1000000) (disch:=omega) only[aa,ah,ai,aj,ak,aq,ar,wA,aP,wS,aO,wM,S2,op,ef,cl,sq,reduceIte,j2,j3,j4,j5,j6,j7,j8,j9,y1,S1,h0,h1,h2,h3,h9,aG,hA]
    have hd:=bm
    have mK:=fo
    have ay:=cR
    rw[←jN]at hd mK
    by_cases hB:2≤b-si
    ·simp -implicitDefEqProofs (maxSteps:=1000000) (disch:=omega) only[aa,ah,ai,aj,ak,aq,ar,wA,aP,wS,aO,wM,S2,op,ef,cl,sq,reduceIte,j2,j3,j4,j5,j6,j7,j8,j9,y1,S1,h0,h1,h2,h3,h9,aG,hB]
     rw[if_pos hB]at oO
     refine W.bU 6 (fun (k:Nat) R H'=>At H' (fun H'=>bV c n H (fun dx=>shiftUp aI b k dx=d4) H')∧R 0=.aB c 0 n 1∧R 1=.int .i64 a∧R 2=.int .i64 b∧R 0=.aB c 0 n 1∧R 7=.int .i64 si∧R 8=.int .i64 j∧R 10=.int .i64 k∧1≤k∧k≤b) (fun k=>b-k) (si+1)
      (fun R H'=>At H' (fun H'=>bV c n H (fun dx=>dx=d4) H')∧R 0=.aB c 0 n 1∧R 1=.int .i64 a∧R 2=.int .i64 b∧R 0=.aB c 0 n 1∧R 7=.int .i64 si∧R 8=.int .i64 j) ⟨.i ⟨d3,hd,mK,oO.symm,ay⟩,?_,?_,?_,?_,?_,?_,?_,by omega,by omega⟩ ?_ ?_
     ·simp -implicitDefEqProofs only[op,ef,cl,sq,reduceIte,j2,j3,j4,j5,j6,j7,j8,j9,y1,S1,h0]
     ·simp -implicitDefEqProofs only[op,ef,cl,sq,reduceIte,j2,j3,j4,j5,j6,j7,j8,j9,y1,S1,h1]
     ·simp -implicitDefEqProofs only[op,ef,cl,sq,reduceIte,j2,j3,j4,j5,j6,j7,j8,j9,y1,S1,h2]
     ·simp -implicitDefEqProofs only[op,ef,cl,sq,reduceIte,j2,j3,j4,j5,j6,j7,j8,j9,y1,S1,h3]
     ·simp -implicitDefEqProofs only[op,ef,cl,sq,reduceIte,j2,j3,j4,j5,j6,j7,j8,j9,y1,S1,h9]
     ·simp -implicitDefEqProofs only[op,ef,cl,sq,reduceIte,j2,j3,j4,j5,j6,j7,j8,j9,y1,S1,aG]
     ·simp -implicitDefEqProofs only[op,ef,cl,sq,reduceIte,j2,j3,j4,j5,j6,j7,j8,j9,y1,S1]
     ·rintro k R H2⟨⟨dx,hd,aQ,hk,ay⟩,h0,h1,h2,h3,h9,aG,aF,o9,xf⟩
      have lc:=bo hd
      by_cases bE:k<b
      ·simp -implicitDefEqProofs (maxSteps:=1000000) (disch:=omega) only[aa,ah,ai,aj,ak,aq,ar,wA,aP,wS,aO,wM,S2,op,ef,cl,sq,reduceIte,j2,j3,j4,j5,j6,j7,j8,j9,y1,S1,h0,h1,h2,h3,h9,aG,aF,bE,hd,lc]
       refine af _ _ _ _ _ _ _ _ (aX dx[k]! dx[k-1]! _) ?_
       rintro u H3⟨hu,dk⟩
       cases hu
       have hx:Ext H2 H3:=by rw[dk];exact Ext.rfl'
       have hd:=hx.get hd
       have lc:=bo hd
       have ay:=ay.trans (aN (F:=fun _=>False) hx) (fun _ h=>h.elim)
       have ct:aI dx[k]! dx[k-1]! = decide (aI dx[k]! dx[k-1]! = true):=by simp
       rw[shiftUp,if_pos bE]at hk
       by_cases c1:aI dx[k]! dx[k-1]! = true
       ·simp -implicitDefEqProofs (maxSteps:=1000000) (disch:=omega) only[aa,ah,ai,aj,ak,aq,ar,wA,aP,wS,aO,wM,S2,op,ef,cl,sq,reduceIte,j2,j3,j4,j5,j6,j7,j8,j9,y1,S1,h0,h1,h2,h3,h9,aG,aF,bE,hd,lc,c1]
        rw[if_neg (iM (ct.trans (bB c1)))]at hk
        exact⟨k+1,by omega,.i (.swp hd (by rw[swp_size];exact aQ) hk ay),rfl,by omega,by omega⟩
       ·simp -implicitDefEqProofs (maxSteps:=1000000) (disch:=omega) only[aa,ah,ai,aj,ak,aq,ar,wA,aP,wS,aO,wM,S2,op,ef,cl,sq,reduceIte,j2,j3,j4,j5,j6,j7,j8,j9,y1,S1,h0,h1,h2,h3,h9,aG,aF,bE,hd,lc,c1]
        rw[if_pos (dA (ct.trans (bw c1)))]at hk
        exact .i ⟨dx,hd,aQ,hk,ay⟩
      ·simp -implicitDefEqProofs only[op,ef,cl,sq,reduceIte,j2,j3,j4,j5,j6,j7,j8,j9,y1,S1,h0,h1,h2,h3,h9,aG,aF,bE]
       rw[shiftUp,if_neg bE]at hk
       exact .i ⟨dx,hd,aQ,hk,ay⟩
     ·rintro R H2⟨⟨dx,hd,aQ,rfl,ay⟩,h0,h1,h2,h3,h9,aG⟩
      simp -implicitDefEqProofs (maxSteps:=1000000) (disch:=omega) only[aa,ah,ai,aj,ak,aq,ar,wA,aP,wS,aO,wM,S2,op,ef,cl,sq,reduceIte,j2,j3,j4,j5,j6,j7,j8,j9,y1,S1,h0,h1,h2,h3,h9,aG]
      exact⟨j+1,by omega,.i ⟨si,rfl,by omega,by omega,dx,hd,aQ,by rw[rp];exact hP,ay⟩,rfl,by omega⟩
    ·rw[if_neg hB]at oO
     subst oO
     simp -implicitDefEqProofs (maxSteps:=1000000) (disch:=omega) only[aa,ah,ai,aj,ak,aq,ar,wA,aP,wS,aO,wM,S2,op,ef,cl,sq,reduceIte,j2,j3,j4,j5,j6,j7,j8,j9,y1,S1,h0,h1,h2,h3,h9,aG,hB]
     exact⟨j+1,by omega,.i ⟨si,rfl,by omega,by omega,d4,hd,mK,by rw[rp];exact hP,ay⟩,rfl,by omega⟩
 ·rintro R H1⟨di,hd,aQ,hP,ay⟩
  try simp -implicitDefEqProofs only[op,ef,cl,sq,reduceIte,j2,j3,j4,j5,j6,j7,j8,j9,y1,S1]
  rw[←hP]
  exact⟨rfl,di,hd,aQ,rfl,ay⟩
structure jz (R:ax)(c n a b br:Nat)(wb wp:Bool):Prop where
 r0:R 0=.aB c 0 n 1
 r1:R 1=.int .i64 a
 r2:R 2=.int .i64 b
 r3:R 3=.int .i64 br
 r4:R 0=.aB c 0 n 1
 UU:R 8=.bool wb
 UW:R 9=.bool wp
 UX:R 10=.int .i64 (b-a:Nat)
open Go.Sort in
theorem Ch (A:C)(hA:(cr dr.body 1).map (dc · 3)=some A)(c n a b br:Nat)(wb wp:Bool)(d:Array Nat)(R:ax)(H0 H:ae)(K:Out→ae→Prop)(hp:jz R c n a b br wb wp)(hd:bV c n H0 (fun x=>x=d) H)(hb:b≤n)(ga:a+12<b)(hs:n<16777216)(hl:1≤br∧br<1000)
  (rest:∀R' H',jz R' c n a b (if (!wb)=true then br-1 else br) wb wp→bV c n H0 (fun x=>x=if (!wb)=true then breakPatterns d a b else d) H'→K (.ex .normal R') H'):fQ env A R H K:=by
 simp[dr,cr,dc,sq]at hA
 subst hA
 obtain⟨h0,h1,h2,h3,h4,aG,aM,aF⟩:=hp
 obtain⟨di,hc,hn,rfl,ay⟩:=hd
 cases wb with
 | true =>
  simp -implicitDefEqProofs (maxSteps:=1000000) (disch:=omega) only[op,ef,cl,sq,reduceIte,j2,j3,j4,j5,j6,j7,j8,j9,y1,S1,h0,h1,h2,h3,h4,aG,aM,aF]
  exact rest _ _ ⟨by simp -implicitDefEqProofs only[op,ef,cl,sq,reduceIte,j2,j3,j4,j5,j6,j7,j8,j9,y1,S1,h0],by simp -implicitDefEqProofs only[op,ef,cl,sq,reduceIte,j2,j3,j4,j5,j6,j7,j8,j9,y1,S1,h1],by simp -implicitDefEqProofs only[op,ef,cl,sq,reduceIte,j2,j3,j4,j5,j6,j7,j8,j9,y1,S1,h2],by simp -implicitDefEqProofs only[op,ef,cl,sq,reduceIte,j2,j3,j4,j5,j6,j7,j8,j9,y1,S1,h3],by simp -implicitDefEqProofs only[op,ef,cl,sq,reduceIte,j2,j3,j4,j5,j6,j7,j8,j9,y1,S1,h4],by simp -implicitDefEqProofs only[op,ef,cl,sq,reduceIte,j2,j3,j4,j5,j6,j7,j8,j9,y1,S1,aG],by simp -implicitDefEqProofs only[op,ef,cl,sq,reduceIte,j2,j3,j4,j5,j6,j7,j8,j9,y1,S1,aM],by simp -implicitDefEqProofs only[op,ef,cl,sq,reduceIte,j2,j3,j4,j5,j6,j7,j8,j9,y1,S1,aF]⟩ ⟨di,hc,hn,rfl,ay⟩
 | false =>
  simp -implicitDefEqProofs (maxSteps:=1000000) (disch:=omega) only[op,ef,cl,sq,reduceIte,j2,j3,j4,j5,j6,j7,j8,j9,y1,S1,h0,h1,h2,h3,h4,aG,aM,aF]
  refine af _ _ _ _ _ _ _ _ (rm c n di a b _ hn hc hb ga hs) ?_
  rintro u H2⟨hu,d2,bm,fo,e2,cR⟩
  cases hu
  simp -implicitDefEqProofs (maxSteps:=1000000) (disch:=omega) only[aa,ah,ai,aj,ak,aq,ar,wA,aP,wS,aO,wM,S2,op,ef,cl,sq,reduceIte,j2,j3,j4,j5,j6,j7,j8,j9,y1,S1,h0,h1,h2,h3,h4,aG,aM,aF]
  exact rest _ _ ⟨by simp -implicitDefEqProofs only[op,ef,cl,sq,reduceIte,j2,j3,j4,j5,j6,j7,j8,j9,y1,S1,h0],by simp -implicitDefEqProofs only[op,ef,cl,sq,reduceIte,j2,j3,j4,j5,j6,j7,j8,j9,y1,S1,h1],by simp -implicitDefEqProofs only[op,ef,cl,sq,reduceIte,j2,j3,j4,j5,j6,j7,j8,j9,y1,S1,h2],by simp -implicitDefEqProofs only[op,ef,cl,sq,reduceIte,j2,j3,j4,j5,j6,j7,j8,j9,y1,S1],by simp -implicitDefEqProofs only[op,ef,cl,sq,reduceIte,j2,j3,j4,j5,j6,j7,j8,j9,y1,S1,h4],by simp -implicitDefEqProofs only[op,ef,cl,sq,reduceIte,j2,j3,j4,j5,j6,j7,j8,j9,y1,S1,aG],by simp -implicitDefEqProofs only[op,ef,cl,sq,reduceIte,j2,j3,j4,j5,j6,j7,j8,j9,y1,S1,aM],by simp -implicitDefEqProofs only[op,ef,cl,sq,reduceIte,j2,j3,j4,j5,j6,j7,j8,j9,y1,S1,aF]⟩ ⟨d2,bm,fo,e2,ay.trans cR fun _ h=>.inl h⟩
open Go.Sort in
theorem Ci (A:C)(hA:(cr dr.body 1).map (dc · 5)=some A)(c n a b br:Nat)(wb wp:Bool)(d:Array Nat)(pv:Nat)(hi:Hint)(R:ax)(H0 H:ae)(K:Out→ae→Prop)(hp:jz R c n a b br wb wp)(aU:R 11=.int .i64 pv)(kN:R 12=.int .i64 (fm hi))(hd:bV c n H0 (fun x=>x=d) H)(hb:b≤n)(ga:a+12<b)(hs:n<16777216)(ki:a≤pv∧pv<b)
  (rest:∀R' H',jz R' c n a b br wb wp→R' 11=.int .i64 (if hi=.decreasing then(b-1)-(pv-a)else pv:Nat)→R' 12=.int .i64 (fm (if hi=.decreasing then Hint.increasing else hi))→bV c n H0 (fun x=>x=if hi=.decreasing then reverseRange d a b else d) H'→K (.ex .normal R') H'):fQ env A R H K:=by
 simp[dr,cr,dc,sq]at hA
 subst hA
 obtain⟨h0,h1,h2,h3,h4,aG,aM,aF⟩:=hp
 obtain⟨di,hc,hn,rfl,ay⟩:=hd
 have e:((fm hi)==2)=decide (hi=.decreasing):=by cases hi<;>decide
 by_cases hh:hi=.decreasing
 ·rw[decide_eq_true hh]at e
  simp -implicitDefEqProofs (maxSteps:=1000000) (disch:=omega) only[op,ef,cl,sq,reduceIte,j2,j3,j4,j5,j6,j7,j8,j9,y1,S1,h0,h1,h2,h3,h4,aG,aM,aF,aU,kN,e]
  refine af _ _ _ _ _ _ _ _ (Cb c n di a b _ hn hc hb (by omega) (by omega)) ?_
  rintro u H2⟨hu,d2,bm,fo,e2,cR⟩
  cases hu
  simp -implicitDefEqProofs (maxSteps:=1000000) (disch:=omega) only[aa,ah,ai,aj,ak,aq,ar,wA,aP,wS,aO,wM,S2,op,ef,cl,sq,reduceIte,j2,j3,j4,j5,j6,j7,j8,j9,y1,S1,h0,h1,h2,h3,h4,aG,aM,aF,aU,kN]
  refine rest _ _ ⟨?_,?_,?_,?_,?_,?_,?_,?_⟩ ?_ ?_ ⟨d2,bm,fo,?_,ay.trans cR fun _ h=>.inl h⟩
  all_goals simp -implicitDefEqProofs only[op,ef,cl,sq,reduceIte,j2,j3,j4,j5,j6,j7,j8,j9,y1,S1,h0,h1,h2,h3,h4,aG,aM,aF,if_pos hh,fm]
  exact e2
 ·rw[decide_eq_false hh]at e
  simp -implicitDefEqProofs (maxSteps:=1000000) (disch:=omega) only[op,ef,cl,sq,reduceIte,j2,j3,j4,j5,j6,j7,j8,j9,y1,S1,h0,h1,h2,h3,h4,aG,aM,aF,aU,kN,e]
  refine rest _ _ ⟨?_,?_,?_,?_,?_,?_,?_,?_⟩ ?_ ?_ ⟨di,hc,hn,?_,ay⟩
  all_goals simp -implicitDefEqProofs only[op,ef,cl,sq,reduceIte,j2,j3,j4,j5,j6,j7,j8,j9,y1,S1,h0,h1,h2,h3,h4,aG,aM,aF,aU,kN,if_neg hh]
open Go.Sort in
theorem Cj (A:C)(hA:(cr dr.body 1).map (dc · 6)=some A)(c n a b br:Nat)(wb wp:Bool)(d:Array Nat)(pv:Nat)(hi:Hint)(R:ax)(H0 H:ae)(K:Out→ae→Prop)(hp:jz R c n a b br wb wp)(aU:R 11=.int .i64 pv)(kN:R 12=.int .i64 (fm hi))(hd:bV c n H0 (fun x=>x=d) H)(hb:b≤n)(ga:a+12<b)(hs:n<16777216)
  (pi:Array Nat×Bool) (Ck:pi=if (wb&&wp&&hi=.increasing)=true then partialInsertionSort aI d a b else(d,false))
  (fV:∀R' H',pi.2=true→bV c n H0 (fun x=>x=pi.1) H'→K (.ex .ret R') H')
  (dU:∀R' H',pi.2=false→jz R' c n a b br wb wp→R' 11=.int .i64 pv→bV c n H0 (fun x=>x=pi.1) H'→K (.ex .normal R') H'):fQ env A R H K:=by
 simp[dr,cr,dc,sq]at hA
 subst hA
 obtain⟨h0,h1,h2,h3,h4,aG,aM,aF⟩:=hp
 obtain⟨di,hc,hn,rfl,ay⟩:=hd
 have e:((fm hi)==1)=decide (hi=.increasing):=by cases hi<;>decide
 have no:(wb&&wp&&decide (hi=.increasing))=false→∀R',jz R' c n a b br wb wp→R' 11=.int .i64 pv→K (.ex .normal R') H:=fun h R' q q'=>dU R' H (by rw[Ck,h];rfl) q q' ⟨di,hc,hn,by rw[Ck,h];rfl,ay⟩
 cases wb with
 | false =>
  simp -implicitDefEqProofs only[op,ef,cl,sq,reduceIte,j2,j3,j4,j5,j6,j7,j8,j9,y1,S1,h0,h1,h2,h3,h4,aG,aM,aF,aU,kN]
  refine no rfl _ ⟨?_,?_,?_,?_,?_,?_,?_,?_⟩ ?_
  all_goals simp -implicitDefEqProofs only[op,ef,cl,sq,reduceIte,j2,j3,j4,j5,j6,j7,j8,j9,y1,S1,h0,h1,h2,h3,h4,aG,aM,aF,aU]
 | true =>
  cases wp with
  | false =>
   simp -implicitDefEqProofs only[op,ef,cl,sq,reduceIte,j2,j3,j4,j5,j6,j7,j8,j9,y1,S1,h0,h1,h2,h3,h4,aG,aM,aF,aU,kN]
   refine no rfl _ ⟨?_,?_,?_,?_,?_,?_,?_,?_⟩ ?_
   all_goals simp -implicitDefEqProofs only[op,ef,cl,sq,reduceIte,j2,j3,j4,j5,j6,j7,j8,j9,y1,S1,h0,h1,h2,h3,h4,aG,aM,aF,aU]
  | true =>
   by_cases hh:hi=.increasing
   ·rw[decide_eq_true hh]at e
    rw[decide_eq_true hh]at Ck
    simp -implicitDefEqProofs only[op,ef,cl,sq,reduceIte,j2,j3,j4,j5,j6,j7,j8,j9,y1,S1,h0,h1,h2,h3,h4,aG,aM,aF,aU,kN,e]
    refine af _ _ _ _ _ _ _ _ (uW c n di a b _ hn hc hb (by omega) (by omega)) ?_
    rintro u H2⟨hu,d2,bm,fo,e2,cR⟩
    cases hu
    rw[if_pos (show(true&&true&&true)=true from rfl)]at Ck
    rw[←Ck]at e2 ⊢
    cases pC:pi.2 with
    | true =>
     try simp -implicitDefEqProofs only[op,ef,cl,sq,reduceIte,j2,j3,j4,j5,j6,j7,j8,j9,y1,S1]
     exact fV _ _ pC ⟨d2,bm,fo,e2,ay.trans cR fun _ h=>.inl h⟩
    | false =>
     try simp -implicitDefEqProofs only[op,ef,cl,sq,reduceIte,j2,j3,j4,j5,j6,j7,j8,j9,y1,S1]
     refine dU _ _ pC ⟨?_,?_,?_,?_,?_,?_,?_,?_⟩ ?_ ⟨d2,bm,fo,e2,ay.trans cR fun _ h=>.inl h⟩
     all_goals simp -implicitDefEqProofs only[op,ef,cl,sq,reduceIte,j2,j3,j4,j5,j6,j7,j8,j9,y1,S1,h0,h1,h2,h3,h4,aG,aM,aF,aU]
   ·rw[decide_eq_false hh]at e
    simp -implicitDefEqProofs only[op,ef,cl,sq,reduceIte,j2,j3,j4,j5,j6,j7,j8,j9,y1,S1,h0,h1,h2,h3,h4,aG,aM,aF,aU,kN,e]
    refine no (by rw[decide_eq_false hh];rfl) _ ⟨?_,?_,?_,?_,?_,?_,?_,?_⟩ ?_
    all_goals simp -implicitDefEqProofs only[op,ef,cl,sq,reduceIte,j2,j3,j4,j5,j6,j7,j8,j9,y1,S1,h0,h1,h2,h3,h4,aG,aM,aF,aU]
open Go.Sort in
theorem Cl (A:C)(hA:(cr dr.body 1).map (dc · 7)=some A)(c n a b br:Nat)(wb wp:Bool)(d:Array Nat)(pv:Nat)(R:ax)(H0 H:ae)(K:Out→ae→Prop)(hp:jz R c n a b br wb wp)(aU:R 11=.int .i64 pv)(hd:bV c n H0 (fun x=>x=d) H)(hb:b≤n)(ga:a+12<b)(hs:n<16777216)(ki:a≤pv∧pv<b)
  (fV:∀R' H',(a>0&&!aI d[a-1]! d[pv]!)=true→R' 0=.aB c 0 n 1→R' 1=.int .i64 (partitionEqual aI d a b pv).1→R' 2=.int .i64 b→R' 3=.int .i64 br→R' 0=.aB c 0 n 1→R' 8=.bool wb→R' 9=.bool wp→bV c n H0 (fun x=>x=(partitionEqual aI d a b pv).2) H'→K (.ex (.exit 1) R') H')
  (dU:∀R' H',(a>0&&!aI d[a-1]! d[pv]!)=false→jz R' c n a b br wb wp→R' 11=.int .i64 pv→bV c n H0 (fun x=>x=d) H'→K (.ex .normal R') H'):fQ env A R H K:=by
 simp[dr,cr,dc,sq]at hA
 subst hA
 obtain⟨h0,h1,h2,h3,h4,aG,aM,aF⟩:=hp
 obtain⟨di,hd,hn,rfl,ay⟩:=hd
 have lc:=bo hd
 by_cases ha:0<a
 ·simp -implicitDefEqProofs (maxSteps:=1000000) (disch:=omega) only[aa,ah,ai,aj,ak,aq,ar,wA,aP,wS,aO,wM,S2,op,ef,cl,sq,reduceIte,j2,j3,j4,j5,j6,j7,j8,j9,y1,S1,h0,h1,h2,h3,h4,aG,aM,aF,aU,ha,hd,lc]
  refine af _ _ _ _ _ _ _ _ (aX di[a-1]! di[pv]! _) ?_
  rintro u H3⟨hu,dk⟩
  cases hu
  have hx:Ext H H3:=by rw[dk];exact Ext.rfl'
  have hd:=hx.get hd
  have lc:=bo hd
  have ay:=ay.trans (aN (F:=fun _=>False) hx) (fun _ h=>h.elim)
  have ct:aI di[a-1]! di[pv]! = decide (aI di[a-1]! di[pv]! = true):=by simp
  by_cases c1:aI di[a-1]! di[pv]! = true
  ·simp -implicitDefEqProofs (maxSteps:=1000000) (disch:=omega) only[aa,ah,ai,aj,ak,aq,ar,wA,aP,wS,aO,wM,S2,op,ef,cl,sq,reduceIte,j2,j3,j4,j5,j6,j7,j8,j9,y1,S1,h0,h1,h2,h3,h4,aG,aM,aF,aU,ha,hd,lc,c1]
   refine dU _ _ (by rw[ct,bB c1];simp) ⟨?_,?_,?_,?_,?_,?_,?_,?_⟩ ?_ ⟨di,hd,hn,rfl,ay⟩
   all_goals simp -implicitDefEqProofs only[op,ef,cl,sq,reduceIte,j2,j3,j4,j5,j6,j7,j8,j9,y1,S1,h0,h1,h2,h3,h4,aG,aM,aF,aU]
  ·simp -implicitDefEqProofs (maxSteps:=1000000) (disch:=omega) only[aa,ah,ai,aj,ak,aq,ar,wA,aP,wS,aO,wM,S2,op,ef,cl,sq,reduceIte,j2,j3,j4,j5,j6,j7,j8,j9,y1,S1,h0,h1,h2,h3,h4,aG,aM,aF,aU,ha,hd,lc,c1]
   refine af _ _ _ _ _ _ _ _ (Ce c n di a b pv _ hn hd hb (by omega) (by omega) (by omega)) ?_
   rintro u H4⟨hu,d2,bm,fo,e2,cR⟩
   cases hu
   try simp -implicitDefEqProofs only[op,ef,cl,sq,reduceIte,j2,j3,j4,j5,j6,j7,j8,j9,y1,S1]
   refine fV _ _ (by rw[ct,bw c1];simp;exact ha) ?_ ?_ ?_ ?_ ?_ ?_ ?_ ⟨d2,bm,fo,e2,ay.trans cR fun _ h=>.inl h⟩
   all_goals simp -implicitDefEqProofs only[op,ef,cl,sq,reduceIte,j2,j3,j4,j5,j6,j7,j8,j9,y1,S1,h0,h1,h2,h3,h4,aG,aM,aF,aU]
 ·simp -implicitDefEqProofs only[op,ef,cl,sq,reduceIte,j2,j3,j4,j5,j6,j7,j8,j9,y1,S1,h0,h1,h2,h3,h4,aG,aM,aF,aU,ha]
  refine dU _ _ (by rw[decide_eq_false ha];rfl) ⟨?_,?_,?_,?_,?_,?_,?_,?_⟩ ?_ ⟨di,hd,hn,rfl,ay⟩
  all_goals simp -implicitDefEqProofs only[op,ef,cl,sq,reduceIte,j2,j3,j4,j5,j6,j7,j8,j9,y1,S1,h0,h1,h2,h3,h4,aG,aM,aF,aU]
open Go.Sort in
theorem mL {d d1 d2:Array Nat}{a b br dh pv:Nat}{wb wp:Bool}{cp:Nat×Hint}{hi:Hint}{pi:Array Nat×Bool}(aF:¬b-a≤12)(hl:¬br=0)
  (e1:d1=if (!wb)=true then breakPatterns d a b else d) (el:dh=if (!wb)=true then br-1 else br) (ec:cp=choosePivot aI d1 a b) (e2:d2=if cp.2=.decreasing then reverseRange d1 a b else d1)
  (ep:pv=if cp.2=.decreasing then(b-1)-(cp.1-a)else cp.1) (eh:hi=if cp.2=.decreasing then .increasing else cp.2) (E2:pi=if (wb&&wp&&hi=.increasing)=true then partialInsertionSort aI d2 a b else(d2,false)) :
  pdq aI d a b br wb wp=if pi.2=true then pi.1 else if (a>0&&!aI pi.1[a-1]! pi.1[pv]!)=true then(if a<(partitionEqual aI pi.1 a b pv).1∧(partitionEqual aI pi.1 a b pv).1≤b then pdq aI (partitionEqual aI pi.1 a b pv).2 (partitionEqual aI pi.1 a b pv).1 b dh wb wp else(partitionEqual aI pi.1 a b pv).2)
   else(if a≤(partition aI pi.1 a b pv).1∧(partition aI pi.1 a b pv).1<b then if (partition aI pi.1 a b pv).1-a<b-(partition aI pi.1 a b pv).1 then pdq aI (pdq aI (partition aI pi.1 a b pv).2.2 a (partition aI pi.1 a b pv).1 dh true true) ((partition aI pi.1 a b pv).1+1) b dh (decide ((partition aI pi.1 a b pv).1-a≥(b-a)/8)) (partition aI pi.1 a b pv).2.1
    else pdq aI (pdq aI (partition aI pi.1 a b pv).2.2 ((partition aI pi.1 a b pv).1+1) b dh true true) a (partition aI pi.1 a b pv).1 dh (decide (b-(partition aI pi.1 a b pv).1≥(b-a)/8)) (partition aI pi.1 a b pv).2.1 else(partition aI pi.1 a b pv).2.2):=by
 subst E2 eh ep e2 ec el e1
 rw[pdq,if_neg aF,if_neg hl]
 rfl
open Go.Sort in
theorem kO (d:Array Nat){a b pv:Nat}(h1:a≤pv)(h2:pv<b)(hb:b≤d.size):a<(partitionEqual aI d a b pv).1∧(partitionEqual aI d a b pv).1≤b:=by
 have:=partEqLoop_spec (lt:=aI) a b b (a+1) (b-1) (swp d a pv) (by omega) (by omega) (by omega) (by omega) (by rw[swp_size];exact hb) (fun t h h'=>by omega) (fun t h h'=>by omega)
 exact⟨this.1,this.2.1⟩
open Go.Sort in
theorem Cm (A:C)(hA:(cr dr.body 1).map (dc · 0)=some A)(c n a b br:Nat)(wb wp:Bool)(R:ax)(H:ae)(K:Out→ae→Prop)(h0:R 0=.aB c 0 n 1)(h1:R 1=.int .i64 a)(h2:R 2=.int .i64 b)(h3:R 3=.int .i64 br)(h4:R 0=.aB c 0 n 1)(aG:R 8=.bool wb)(aM:R 9=.bool wp)(ga:a≤b)(hb:b<16777216)
  (rest:∀R',jz R' c n a b br wb wp→K (.ex .normal R') H):fQ env A R H K:=by
 simp[dr,cr,dc,sq]at hA
 subst hA
 simp -implicitDefEqProofs (maxSteps:=1000000) (disch:=omega) only[aa,ah,ai,aj,ak,aq,ar,wA,aP,wS,aO,wM,S2,op,ef,cl,sq,reduceIte,j2,j3,j4,j5,j6,j7,j8,j9,y1,S1,h0,h1,h2,h3,h4,aG,aM]
 refine rest _ ⟨?_,?_,?_,?_,?_,?_,?_,?_⟩
 all_goals simp -implicitDefEqProofs only[op,ef,cl,sq,reduceIte,j2,j3,j4,j5,j6,j7,j8,j9,y1,S1,h0,h1,h2,h3,h4,aG,aM]
open Go.Sort in
theorem Cn (A:C)(hA:(cr dr.body 1).map (dc · 1)=some A)(c n a b br:Nat)(wb wp:Bool)(d:Array Nat)(R:ax)(H0 H:ae)(K:Out→ae→Prop)(hp:jz R c n a b br wb wp)(hd:bV c n H0 (fun x=>x=d) H)(hb:b≤n)(ga:a≤b)(hs:n<16777216)
  (fV:∀R' H',b-a≤12→bV c n H0 (fun x=>x=insertionSort aI d a b) H'→K (.ex .ret R') H')
  (dU:∀R',¬b-a≤12→jz R' c n a b br wb wp→K (.ex .normal R') H):fQ env A R H K:=by
 simp[dr,cr,dc,sq]at hA
 subst hA
 obtain⟨h0,h1,h2,h3,h4,aG,aM,aF⟩:=hp
 obtain⟨di,hc,hn,rfl,ay⟩:=hd
 by_cases hle:b-a≤12
 ·simp -implicitDefEqProofs only[op,ef,cl,sq,reduceIte,j2,j3,j4,j5,j6,j7,j8,j9,y1,S1,h0,h1,h2,h3,h4,aG,aM,aF,hle]
  have hi:=wI c di a b H hc (by omega) ga (by omega)
  rw[hn]at hi
  refine af _ _ _ _ _ _ _ _ hi ?_
  rintro u H2⟨hu,bm,cR⟩
  cases hu
  try simp -implicitDefEqProofs only[op,ef,cl,sq,reduceIte,j2,j3,j4,j5,j6,j7,j8,j9,y1,S1]
  exact fV _ _ hle ⟨_,bm,by rw[(insertionSort_holds lO di a b ga (by omega)).1.1];exact hn,rfl,ay.trans cR fun _ h=>.inl h⟩
 ·simp -implicitDefEqProofs only[op,ef,cl,sq,reduceIte,j2,j3,j4,j5,j6,j7,j8,j9,y1,S1,h0,h1,h2,h3,h4,aG,aM,aF,hle]
  refine dU _ hle ⟨?_,?_,?_,?_,?_,?_,?_,?_⟩
  all_goals simp -implicitDefEqProofs only[op,ef,cl,sq,reduceIte,j2,j3,j4,j5,j6,j7,j8,j9,y1,S1,h0,h1,h2,h3,h4,aG,aM,aF]
open Go.Sort in
theorem Co (A:C)(hA:(cr dr.body 1).map (dc · 2)=some A)(c n a b br:Nat)(wb wp:Bool)(d:Array Nat)(R:ax)(H0 H:ae)(K:Out→ae→Prop)(hp:jz R c n a b br wb wp)(hd:bV c n H0 (fun x=>x=d) H)(hb:b≤n)(ga:a+12<b)(hs:n<16777216)
  (fV:∀R' H',br=0→bV c n H0 (fun x=>x=heapSort aI d a b) H'→K (.ex .ret R') H')
  (dU:∀R',¬br=0→jz R' c n a b br wb wp→K (.ex .normal R') H):fQ env A R H K:=by
 simp[dr,cr,dc,sq]at hA
 subst hA
 obtain⟨h0,h1,h2,h3,h4,aG,aM,aF⟩:=hp
 obtain⟨di,hc,hn,rfl,ay⟩:=hd
 by_cases hl:br=0
 ·subst hl
  have e:(((0:Nat):Int)==0)=true:=rfl
  simp -implicitDefEqProofs only[op,ef,cl,sq,reduceIte,j2,j3,j4,j5,j6,j7,j8,j9,y1,S1,h0,h1,h2,h3,h4,aG,aM,aF,e]
  refine af _ _ _ _ _ _ _ _ (uT c n di a b _ hn hc hb (by omega) (by omega)) ?_
  rintro u H2⟨hu,d2,bm,fo,e2,cR⟩
  cases hu
  try simp -implicitDefEqProofs only[op,ef,cl,sq,reduceIte,j2,j3,j4,j5,j6,j7,j8,j9,y1,S1]
  exact fV _ _ rfl ⟨_,bm,fo,e2,ay.trans cR fun _ h=>.inl h⟩
 ·have e:((br:Int)==0)=false:=by simp;omega
  simp -implicitDefEqProofs only[op,ef,cl,sq,reduceIte,j2,j3,j4,j5,j6,j7,j8,j9,y1,S1,h0,h1,h2,h3,h4,aG,aM,aF,e]
  refine dU _ hl ⟨?_,?_,?_,?_,?_,?_,?_,?_⟩
  all_goals simp -implicitDefEqProofs only[op,ef,cl,sq,reduceIte,j2,j3,j4,j5,j6,j7,j8,j9,y1,S1,h0,h1,h2,h3,h4,aG,aM,aF]
open Go.Sort in
theorem Cp (A:C)(hA:(cr dr.body 1).map (dc · 4)=some A)(c n a b br:Nat)(wb wp:Bool)(d:Array Nat)(R:ax)(H0 H:ae)(K:Out→ae→Prop)(hp:jz R c n a b br wb wp)(hd:bV c n H0 (fun x=>x=d) H)(hb:b≤n)(ga:a+12<b)(hs:n<16777216)
  (rest:∀R' H',jz R' c n a b br wb wp→R' 11=.int .i64 (choosePivot aI d a b).1→R' 12=.int .i64 (fm (choosePivot aI d a b).2)→bV c n H0 (fun x=>x=d) H'→K (.ex .normal R') H'):fQ env A R H K:=by
 simp[dr,cr,dc,sq]at hA
 subst hA
 obtain⟨h0,h1,h2,h3,h4,aG,aM,aF⟩:=hp
 obtain⟨di,hc,hn,rfl,ay⟩:=hd
 simp -implicitDefEqProofs only[op,ef,cl,sq,reduceIte,j2,j3,j4,j5,j6,j7,j8,j9,y1,S1,h0,h1,h2,h3,h4,aG,aM,aF]
 refine af _ _ _ _ _ _ _ _ (oL c n di a b _ hn hc hb ga (by omega)) ?_
 rintro u H2⟨hu,hx⟩
 cases hu
 try simp -implicitDefEqProofs only[op,ef,cl,sq,reduceIte,j2,j3,j4,j5,j6,j7,j8,j9,y1,S1]
 refine rest _ _ ⟨?_,?_,?_,?_,?_,?_,?_,?_⟩ ?_ ?_ ⟨di,hx.get hc,hn,rfl,ay.trans (aN (F:=fun _=>False) hx) (fun _ h=>h.elim)⟩
 all_goals simp -implicitDefEqProofs only[op,ef,cl,sq,reduceIte,j2,j3,j4,j5,j6,j7,j8,j9,y1,S1,h0,h1,h2,h3,h4,aG,aM,aF]
open Go.Sort in
theorem Cq (A:C)(hA:(cr dr.body 1).map (B6 · 8)=some A)(c n a b br:Nat)(wb wp:Bool)(d:Array Nat)(pv:Nat)(R:ax)(H0 H:ae)(K:Out→ae→Prop)(hp:jz R c n a b br wb wp)(aU:R 11=.int .i64 pv)(hd:bV c n H0 (fun x=>x=d) H)(hb:b≤n)(ga:a+12<b)(hs:n<16777216)(ki:a≤pv∧pv<b)
  (ih:∀a' b' (d':Array Nat) H',b'-a'<b-a→a'≤b'→b'≤n→d'.size=n→H'[c]?=some (.cells (aK eU d'.toList))→W env (.call 106 [.aB c 0 n 1,.int .i64 a',.int .i64 b',.int .i64 br]) H' (fU c n (pdq aI d' a' b' br true true) H'))
  (rest:∀R' H' a' b' (d':Array Nat) (E3:Bool),a≤a'→a'≤b'→b'≤b→b'-a'<b-a→R' 0=.aB c 0 n 1→R' 1=.int .i64 (a':Nat)→R' 2=.int .i64 (b':Nat)→R' 3=.int .i64 br→R' 0=.aB c 0 n 1→R' 8=.bool E3→R' 9=.bool (partition aI d a b pv).2.1 →
   pdq aI d' a' b' br E3 (partition aI d a b pv).2.1=(if (partition aI d a b pv).1-a<b-(partition aI d a b pv).1 then pdq aI (pdq aI (partition aI d a b pv).2.2 a (partition aI d a b pv).1 br true true) ((partition aI d a b pv).1+1) b br (decide ((partition aI d a b pv).1-a≥(b-a)/8)) (partition aI d a b pv).2.1
    else pdq aI (pdq aI (partition aI d a b pv).2.2 ((partition aI d a b pv).1+1) b br true true) a (partition aI d a b pv).1 br (decide (b-(partition aI d a b pv).1≥(b-a)/8)) (partition aI d a b pv).2.1) →
   bV c n H0 (fun x=>x=d') H'→K (.ex .normal R') H'):fQ env A R H K:=by
 simp[dr,cr,B6,sq]at hA
 subst hA
 obtain⟨h0,h1,h2,h3,h4,aG,aM,aF⟩:=hp
 obtain⟨di,hc,hn,rfl,ay⟩:=hd
 have lG:=partition_holds aI lO di a b pv ki.1 ki.2 (by omega)
 simp -implicitDefEqProofs only[op,ef,cl,sq,reduceIte,j2,j3,j4,j5,j6,j7,j8,j9,y1,S1,h0,h1,h2,h3,h4,aG,aM,aF,aU]
 refine af _ _ _ _ _ _ _ _ (uV c n di a b pv _ hn hc hb (by omega) (by omega) (by omega)) ?_
 rintro u H2⟨hu,d2,bm,fo,e2,cR⟩
 cases hu
 generalize partition aI di a b pv=r at *
 obtain⟨mid,ap,d4⟩:=r
 simp only at lG e2 rest ⊢
 subst e2
 obtain⟨m1,m2,_⟩:=lG
 have fT:=ay.trans cR fun _ h=>.inl h
 by_cases aE:mid-a<b-mid
 ·rw[if_pos aE]at rest
  simp -implicitDefEqProofs (maxSteps:=1000000) (disch:=omega) only[aa,ah,ai,aj,ak,aq,ar,wA,aP,wS,aO,wM,S2,op,ef,cl,sq,reduceIte,j2,j3,j4,j5,j6,j7,j8,j9,y1,S1,NV,h0,h1,h2,h3,h4,aG,aM,aF,aU,aE]
  refine af _ _ _ _ _ _ _ _ (ih a mid d2 _ (by omega) m1 (by omega) fo bm) ?_
  rintro u H3⟨hu,d3,jN,pt,e3,tD⟩
  cases hu
  simp -implicitDefEqProofs (maxSteps:=1000000) (disch:=omega) only[aa,ah,ai,aj,ak,aq,ar,wA,aP,wS,aO,wM,S2,op,ef,cl,sq,reduceIte,j2,j3,j4,j5,j6,j7,j8,j9,y1,S1,h0,h1,h2,h3,h4,aG,aM,aF,aU]
  refine rest _ _ (mid+1) b d3 (decide ((b-a)/8≤mid-a)) (by omega) (by omega) (Nat.le_refl _) (by omega) ?_ ?_ ?_ ?_ ?_ ?_ ?_ (by rw[e3]) ⟨d3,jN,pt,rfl,fT.trans tD fun _ h=>.inl h⟩
  all_goals simp -implicitDefEqProofs only[op,ef,cl,sq,reduceIte,j2,j3,j4,j5,j6,j7,j8,j9,y1,S1,h0,h1,h2,h3,h4,aG,aM,aF]
 ·rw[if_neg aE]at rest
  simp -implicitDefEqProofs (maxSteps:=1000000) (disch:=omega) only[aa,ah,ai,aj,ak,aq,ar,wA,aP,wS,aO,wM,S2,op,ef,cl,sq,reduceIte,j2,j3,j4,j5,j6,j7,j8,j9,y1,S1,NV,h0,h1,h2,h3,h4,aG,aM,aF,aU,aE]
  refine af _ _ _ _ _ _ _ _ (ih (mid+1) b d2 _ (by omega) m2 (by omega) fo bm) ?_
  rintro u H3⟨hu,d3,jN,pt,e3,tD⟩
  cases hu
  simp -implicitDefEqProofs (maxSteps:=1000000) (disch:=omega) only[aa,ah,ai,aj,ak,aq,ar,wA,aP,wS,aO,wM,S2,op,ef,cl,sq,reduceIte,j2,j3,j4,j5,j6,j7,j8,j9,y1,S1,h0,h1,h2,h3,h4,aG,aM,aF,aU]
  refine rest _ _ a mid d3 (decide ((b-a)/8≤b-mid)) (by omega) (by omega) (by omega) (by omega) ?_ ?_ ?_ ?_ ?_ ?_ ?_ (by rw[e3]) ⟨d3,jN,pt,rfl,fT.trans tD fun _ h=>.inl h⟩
  all_goals simp -implicitDefEqProofs only[op,ef,cl,sq,reduceIte,j2,j3,j4,j5,j6,j7,j8,j9,y1,S1,h0,h1,h2,h3,h4,aG,aM,aF]
open Go.Sort in
theorem Cr (c n:Nat)(hs:n<16777216):∀m a b br (d:Array Nat) H,b-a=m→a≤b→b≤n→br<1000→d.size=n→H[c]?=some (.cells (aK eU d.toList)) →
  W env (.call 106 [.aB c 0 n 1,.int .i64 (a:Nat),.int .i64 (b:Nat),.int .i64 (br:Nat)]) H (fU c n (pdq aI d a b br true true) H):=by
 intro m
 induction m using Nat.strongRecOn with
 | _ m ih =>
 intro a b br d H hm ga hb Q1 hn hc
 subst hm
 refine W.cQ rfl rfl rfl ?_
 simp -implicitDefEqProofs only[dr,op,ef,cl,sq,reduceIte,j2,j3,j4,j5,j6,j7,j8,j9,y1,S1]
 refine W.fg (fun (q:Nat×Nat×Nat×Bool×Bool) R H'=>At H' (fun H'=>bV c n H (fun di=>pdq aI di q.1 q.2.1 q.2.2.1 q.2.2.2.1 q.2.2.2.2=pdq aI d a b br true true) H')∧R 0=.aB c 0 n 1∧R 1=.int .i64 q.1∧R 2=.int .i64 q.2.1∧R 3=.int .i64 q.2.2.1∧R 0=.aB c 0 n 1∧R 8=.bool q.2.2.2.1∧R 9=.bool q.2.2.2.2∧a≤q.1∧q.1≤q.2.1∧q.2.1≤b∧q.2.2.1≤br) (fun q=>q.2.1-q.1) (a,b,br,true,true) ⟨.i ⟨d,hc,hn,rfl,bX.refl _ _⟩,rfl,rfl,rfl,rfl,rfl,rfl,rfl,Nat.le_refl _,ga,Nat.le_refl _,Nat.le_refl _⟩ ?_
 rintro⟨a1,b1,l1,wb,wp⟩ R H1 ⟨⟨di,hd,aQ,hP,ay⟩,h0,h1,h2,h3,h4,aG,aM,q1,q2,q3,q4⟩
 simp only at hP h1 h2 h3 aG aM q1 q2 q3 q4 ⊢
 rw[nu,dZ]
 refine Cm _ rfl c n a1 b1 l1 wb wp R H1 _ h0 h1 h2 h3 h4 aG aM q2 (by omega) ?_
 intro R1 p1
 rw[cM,bW,dZ]
 refine Cn _ rfl c n a1 b1 l1 wb wp di R1 H H1 _ p1 ⟨di,hd,aQ,rfl,ay⟩ (by omega) q2 hs ?_ ?_
 ·rintro R' H' hle⟨d',eZ,dW,rfl,nk⟩
  rw[pdq,if_pos hle]at hP
  try simp -implicitDefEqProofs only[op,ef,cl,sq,reduceIte,j2,j3,j4,j5,j6,j7,j8,j9,y1,S1]
  exact⟨rfl,_,eZ,dW,hP,nk⟩
 intro R2 aF p2
 rw[cM,bW,dZ]
 refine Co _ rfl c n a1 b1 l1 wb wp di R2 H H1 _ p2 ⟨di,hd,aQ,rfl,ay⟩ (by omega) (by omega) hs ?_ ?_
 ·rintro R' H' vt⟨d',eZ,dW,rfl,nk⟩
  rw[pdq,if_neg aF,if_pos vt]at hP
  try simp -implicitDefEqProofs only[op,ef,cl,sq,reduceIte,j2,j3,j4,j5,j6,j7,j8,j9,y1,S1]
  exact⟨rfl,_,eZ,dW,hP,nk⟩
 intro R3 vt p3
 rw[cM,bW,dZ]
 refine Ch _ rfl c n a1 b1 l1 wb wp di R3 H H1 _ p3 ⟨di,hd,aQ,rfl,ay⟩ (by omega) (by omega) hs (by omega) ?_
 rintro R4 H4 p4⟨d1,oO,CV,e1,Cd⟩
 obtain⟨dh,el⟩:∃l,l=if (!wb)=true then l1-1 else l1:=⟨_,rfl⟩
 have hJ:dh≤l1:=by rw[el];split<;>omega
 rw[←el]at p4
 rw[cM,bW,dZ]
 refine Cp _ rfl c n a1 b1 dh wb wp d1 R4 H H4 _ p4 ⟨d1,oO,CV,rfl,Cd⟩ (by omega) (by omega) hs ?_
 rintro R5 H5 p5 aU kN⟨E4,MW,E1,JN,Q2⟩
 subst JN
 have MX:=choosePivot_holds aI E4 a1 b1 (by omega)
 obtain⟨cp,ec⟩:∃x,x=choosePivot aI E4 a1 b1:=⟨_,rfl⟩
 rw[←ec]at aU kN MX
 rw[cM,bW,dZ]
 refine Ci _ rfl c n a1 b1 dh wb wp E4 cp.1 cp.2 R5 H H5 _ p5 aU kN ⟨E4,MW,E1,rfl,Q2⟩ (by omega) (by omega) hs MX ?_
 rintro R6 H6 p6 aU kN⟨d2,Q3,Q4,e2,Q5⟩
 obtain⟨pv,ep⟩:∃x,x=if cp.2=.decreasing then(b1-1)-(cp.1-a1)else cp.1:=⟨_,rfl⟩
 obtain⟨hi,eh⟩:∃x,x=if cp.2=.decreasing then Hint.increasing else cp.2:=⟨_,rfl⟩
 rw[←ep]at aU
 rw[←eh]at kN
 have ki:a1≤pv∧pv<b1:=by rw[ep];split<;>omega
 rw[cM,bW,dZ]
 obtain⟨pi,E2⟩:∃x,x=if (wb&&wp&&hi=.increasing)=true then partialInsertionSort aI d2 a1 b1 else(d2,false):=⟨_,rfl⟩
 rw[mL aF vt e1 el ec e2 ep eh E2]at hP
 refine Cj _ rfl c n a1 b1 dh wb wp d2 pv hi R6 H H6 _ p6 aU kN ⟨d2,Q3,Q4,rfl,Q5⟩ (by omega) (by omega) hs pi E2 ?_ ?_
 ·rintro R' H' Q6⟨d',eZ,dW,rfl,nk⟩
  rw[if_pos Q6]at hP
  try simp -implicitDefEqProofs only[op,ef,cl,sq,reduceIte,j2,j3,j4,j5,j6,j7,j8,j9,y1,S1]
  exact⟨rfl,_,eZ,dW,hP,nk⟩
 rintro R7 H7 Q7 p7 aU⟨d3,Q8,Q9,e3,Ra⟩
 rw[if_neg (by rw[Q7];simp),←e3]at hP
 rw[cM,bW,dZ]
 refine Cl _ rfl c n a1 b1 dh wb wp d3 pv R7 H H7 _ p7 aU ⟨d3,Q8,Q9,rfl,Ra⟩ (by omega) (by omega) hs ki ?_ ?_
 ·rintro R' H' fy g0 g1 g2 g3 g4 C6 IK⟨d',eZ,dW,e',nk⟩
  have hr:=kO d3 ki.1 ki.2 (by omega)
  rw[if_pos fy,if_pos hr,←e']at hP
  try simp -implicitDefEqProofs only[op,ef,cl,sq,reduceIte,j2,j3,j4,j5,j6,j7,j8,j9,y1,S1]
  exact⟨((partitionEqual aI d3 a1 b1 pv).1,b1,dh,wb,wp),by simp only;omega,.i ⟨_,eZ,dW,hP,nk⟩,g0,g1,g2,g3,g4,C6,IK,by simp only;omega,by simp only;omega,by simp only;omega,by simp only;omega⟩
 rintro R8 H8 fy p8 aU⟨E5,J7,Rb,Rc,Re⟩
 subst Rc
 have hr:=partition_holds aI lO E5 a1 b1 pv ki.1 ki.2 (by omega)
 rw[if_neg (by rw[fy];simp),if_pos ⟨hr.1,hr.2.1⟩]at hP
 rw[cM,bW]
 refine Cq _ rfl c n a1 b1 dh wb wp E5 pv R8 H H8 _ p8 aU ⟨E5,J7,Rb,rfl,Re⟩ (by omega) (by omega) hs ki (fun a' b' d' H' aE MY eR dW mc=>ih _ (by omega) a' b' dh d' H' rfl MY eR (by omega) dW mc) ?_
 rintro R' H' a' b' d' E3 MY IL eR aE g0 g1 g2 g3 g4 C6 IK e'⟨UY,eZ,dW,rfl,nk⟩
 try simp -implicitDefEqProofs only[op,ef,cl,sq,reduceIte,j2,j3,j4,j5,j6,j7,j8,j9,y1,S1]
 exact⟨(a',b',dh,E3,(partition aI E5 a1 b1 pv).2.1),by simp only;omega,.i ⟨_,eZ,dW,by simp only;rw[e'];exact hP,nk⟩,g0,g1,g2,g3,g4,C6,IK,by simp only;omega,IL,by simp only;omega,by simp only;omega⟩
open Go.Sort in
theorem wJ (c:Nat)(d:Array Nat)(H:ae)(hc:H[c]?=some (.cells (aK eU d.toList)))(hs:d.size<16777216) :
  W env (.call 56 [.aB c 0 d.size 1]) H (fU c d.size (sort aI d) H):=by
 refine W.cQ rfl rfl rfl ?_
 have w1:IntKind.u64.wrap (d.size:Int)=(d.size:Int):=mY (by omega)
 simp -implicitDefEqProofs only[IB,op,ef,cl,sq,reduceIte,j2,j3,j4,j5,j6,j7,j8,j9,y1,S1,w1]
 refine af _ _ _ _ _ _ _ _ (B4 d.size hs _) ?_
 rintro u H1⟨hu,rfl⟩
 cases hu
 have hb:=ny (n:=d.size) (k:=24) hs
 try simp -implicitDefEqProofs only[op,ef,cl,sq,reduceIte,j2,j3,j4,j5,j6,j7,j8,j9,y1,S1]
 refine af _ _ _ _ _ _ _ _ (Cr c d.size hs _ 0 d.size (bitsLen d.size) d _ rfl (Nat.zero_le _) (Nat.le_refl _) (by omega) rfl hc) ?_
 rintro u H2⟨hu,h2⟩
 cases hu
 try simp -implicitDefEqProofs only[op,ef,cl,sq,reduceIte,j2,j3,j4,j5,j6,j7,j8,j9,y1,S1]
 exact⟨rfl,h2⟩
end Go.Proofs.YtmgldhlcapjdkaaGreat.St.Un
end

section
namespace Go.Proofs.YtmgldhlcapjdkaaGreat.St
open Go.Rmp Go.Proofs.YtmgldhlcapjdkaaGreat.Ir
set_option maxRecDepth 10000
theorem IM:B9 16777215:=fun c l H hc hl=>by
 have gR:l.toArray.toList=l:=List.toList_toArray
 have h:=Un.wJ c l.toArray H (by rw[gR];exact hc) (by simp;omega)
 have aQ:l.toArray.size=l.length:=by simp
 rw[aQ]at h
 refine W.use h fun o H' ⟨hu,d,hd,_,e,hf⟩=>?_
 subst e
 obtain⟨⟨hs,_,hp⟩,Ca⟩:=Go.Sort.sort_sorts Un.aI Un.lO l.toArray
 obtain⟨h1,h2⟩:=II hs hp Ca
 exact⟨hu,_,hd,by rw[gR]at h1;exact h1,MO (fun _ _=>rfl) h2,hf⟩
end Go.Proofs.YtmgldhlcapjdkaaGreat.St
end

section
namespace Go.Proofs.YtmgldhlcapjdkaaGreat.St
open Go.Rmp Go.Proofs.YtmgldhlcapjdkaaGreat.Ir
set_option maxRecDepth 10000
theorem rq {α:Type}{enc:α→List T}{n n0:Nat}{H:ae}{t:T}{l:List α}(h:uO enc n n0 H t l):FB t=t:=by
 rcases h with⟨_,rfl⟩|⟨c,rfl,_⟩<;>rfl
end Go.Proofs.YtmgldhlcapjdkaaGreat.St
end

section
namespace Go.Proofs.YtmgldhlcapjdkaaGreat.St
open Go.Rmp Go.Proofs.YtmgldhlcapjdkaaGreat.Ir
set_option maxRecDepth 10000
def wK (h:Int)(c:UInt8):Int:=IntKind.u64.wrap (IntKind.u64.wrap ((BitVec.ofInt IntKind.u64.bits h ^^^ BitVec.ofInt IntKind.u64.bits (IntKind.u64.wrap c.toNat)).toNat:Nat)*1099511628211)
def lQ (h:Int)(l:List UInt8):Int:=l.foldl wK h
def jA (s:ByteArray):Int:=lQ 14695981039346656037 s.data.toList
theorem u64_in (x:Int):0≤IntKind.u64.wrap x∧IntKind.u64.wrap x<18446744073709551616:=by
 unfold IntKind.wrap
 simp -implicitDefEqProofs only[IntKind.signed,IntKind.bits]
 simp
 omega
theorem oP (h:Int)(l:List UInt8)(c:UInt8):lQ h (l++[c])=wK (lQ h l) c:=by simp[lQ]
theorem tF (s:ByteArray):0≤jA s∧jA s<18446744073709551616:=by
 unfold jA lQ
 generalize s.data.toList=l
 have key:∀(l:List UInt8) (h:Int),0≤h∧h<18446744073709551616→0≤l.foldl wK h∧l.foldl wK h<18446744073709551616:=by
  intro l
  induction l with
  | nil=>exact fun h hh=>hh
  | cons c l ih=>exact fun h _=>ih _ (u64_in _)
 exact key l _ (by decide)
theorem GN {s:ByteArray}{i:Nat}{c:UInt8}(h:s.data[i]?=some c):s.data.toList.take (i+1)=s.data.toList.take i++[c]:=by
 rw[List.take_add_one,Array.getElem?_toList,h];rfl
theorem E6 (h:Int)(s:ByteArray)(H:ae)(hs:s.size<9223372036854775807):W env (.call 154 [.int .u64 h,.str s]) H (rN (.int .u64 (lQ h s.data.toList)) H):=by
 refine W.cQ rfl rfl rfl ?_
 simp -implicitDefEqProofs only[BC,op,ef,cl,sq,reduceIte,j2,j3,j4,j5,j6,j7,j8,j9,y1,S1]
 refine W.fg (fun (i:Nat) R H'=>H'=H∧R 0=.int .u64 (lQ h (s.data.toList.take i))∧R 1=.str s∧(R 7=.int .i64 s.size)∧R 8=.int .i64 i∧i≤s.size) (fun i=>s.size-i) 0 ⟨rfl,rfl,rfl,by first|rfl|trivial,rfl,Nat.zero_le _⟩ ?_
 rintro i R _⟨rfl,h0,h1,h7,h8,hi⟩
 by_cases aE:i<s.size
 ·obtain⟨c,hc⟩:∃c,s.data[i]?=some c:=⟨s.data[i],Array.getElem?_eq_getElem aE⟩
  have ws:=aJ (show i<9223372036854775807 by omega)
  simp -implicitDefEqProofs only[op,ef,cl,sq,reduceIte,j2,j3,j4,j5,j6,j7,j8,j9,y1,S1,h0,h1,h7,h8,aE,aa,hc,ws]
  refine⟨i+1,by omega,?_,rfl,by omega⟩
  rw[GN hc,oP];rfl
 ·have e:s.data.toList.take i=s.data.toList:=List.take_of_length_le (by simp;exact Nat.le_of_not_lt aE)
  simp -implicitDefEqProofs only[op,ef,cl,sq,reduceIte,j2,j3,j4,j5,j6,j7,j8,j9,y1,S1,h0,h1,h7,h8,aE,e]
theorem E7 (h:Int)(s:ByteArray)(H:ae)(hs:s.size<9223372036854775807):W env (.call 156 [.int .u64 h,.str s]) H (rN (.int .u64 (lQ h s.data.toList)) H):=by
 refine W.cQ rfl rfl rfl ?_
 simp -implicitDefEqProofs only[BE,op,ef,cl,sq,reduceIte,j2,j3,j4,j5,j6,j7,j8,j9,y1,S1]
 refine W.fg (fun (i:Nat) R H'=>H'=H∧R 0=.int .u64 (lQ h (s.data.toList.take i))∧R 1=.str s∧(True)∧R 5=.int .i64 i∧i≤s.size) (fun i=>s.size-i) 0 ⟨rfl,rfl,rfl,by first|rfl|trivial,rfl,Nat.zero_le _⟩ ?_
 rintro i R _⟨rfl,h0,h1,h7,h8,hi⟩
 by_cases aE:i<s.size
 ·obtain⟨c,hc⟩:∃c,s.data[i]?=some c:=⟨s.data[i],Array.getElem?_eq_getElem aE⟩
  have ws:=aJ (show i<9223372036854775807 by omega)
  simp -implicitDefEqProofs only[op,ef,cl,sq,reduceIte,j2,j3,j4,j5,j6,j7,j8,j9,y1,S1,h0,h1,h7,h8,aE,aa,hc,ws]
  refine⟨i+1,by omega,?_,rfl,by omega⟩
  rw[GN hc,oP];rfl
 ·have e:s.data.toList.take i=s.data.toList:=List.take_of_length_le (by simp;exact Nat.le_of_not_lt aE)
  simp -implicitDefEqProofs only[op,ef,cl,sq,reduceIte,j2,j3,j4,j5,j6,j7,j8,j9,y1,S1,h0,h1,h7,h8,aE,e]
theorem Cs (H:ae):W env (.call 155 []) H (rN (.int .u64 14695981039346656037) H):=by
 refine W.cQ rfl rfl rfl ?_
 simp -implicitDefEqProofs only[BD,op,ef,cl,sq,reduceIte,j2,j3,j4,j5,j6,j7,j8,j9,y1,S1]
theorem E8 (s:ByteArray)(H:ae)(hs:s.size<9223372036854775807):W env (.call 112 [.str s]) H (rN (.int .u64 (jA s)) H):=by
 refine W.cQ rfl rfl rfl ?_
 simp -implicitDefEqProofs only[Bq,op,ef,cl,sq,reduceIte,j2,j3,j4,j5,j6,j7,j8,j9,y1,S1]
 refine af _ _ _ _ _ _ _ _ (Cs _) ?_
 rintro u H1⟨hu,rfl⟩
 cases hu
 simp -implicitDefEqProofs only[op,ef,cl,sq,reduceIte,j2,j3,j4,j5,j6,j7,j8,j9,y1,S1]
 refine af _ _ _ _ _ _ _ _ (E6 _ s _ hs) ?_
 rintro u H1⟨hu,rfl⟩
 cases hu
 simp -implicitDefEqProofs only[op,ef,cl,sq,reduceIte,j2,j3,j4,j5,j6,j7,j8,j9,y1,S1,jA]
theorem E9 (s:ByteArray)(H:ae)(hs:s.size<9223372036854775807):W env (.call 113 [.str s]) H (rN (.int .u64 (jA s)) H):=by
 refine W.cQ rfl rfl rfl ?_
 simp -implicitDefEqProofs only[Br,op,ef,cl,sq,reduceIte,j2,j3,j4,j5,j6,j7,j8,j9,y1,S1]
 refine af _ _ _ _ _ _ _ _ (E7 _ s _ hs) ?_
 rintro u H1⟨hu,rfl⟩
 cases hu
 simp -implicitDefEqProofs only[op,ef,cl,sq,reduceIte,j2,j3,j4,j5,j6,j7,j8,j9,y1,S1,jA]
def eB (n:Nat):List T:=[.int .u8 n]
def eO (b:Bool):List T:=[.bool b]
theorem uX (x:Nat):(eB x).length=1:=rfl
theorem IP (x:Bool):(eO x).length=1:=rfl
theorem Fa {xs:List Nat}{i x:Nat}(hx:xs[i]?=some x):jT 1 (i*1) (some (.cells (aK eB xs)))=some [.int .u8 x]:=cD uX hx 0 1 (by decide)
theorem Fb {xs:List Nat}{i x:Nat}(hx:xs[i]?=some x)(H:ae)(b y:Nat):ou H b [.int .u8 y] (i*1) (some (.cells (aK eB xs)))=some (H.set b (.cells (aK eB (xs.set i y)))):=fx (y:=y) uX hx H b [.int .u8 y] 0 (by simp) rfl
theorem Fc {xs:List Bool}{i:Nat}{x:Bool}(hx:xs[i]?=some x):jT 1 (i*1) (some (.cells (aK eO xs)))=some [.bool x]:=cD IP hx 0 1 (by decide)
theorem tG {i n c:Nat}(h:i<n):eW 1 i (.aB c 0 n 1)=some (.ptr c (i*1)):=by rw[fh];simp[h]
theorem NW (n m:Nat):(n:Int).fdiv (2^m)=((n/2^m:Nat):Int):=by
 rw[Int.fdiv_eq_ediv_of_nonneg _ (Int.le_of_lt (Int.pow_pos (by decide)))]
 simp
theorem GO (w a b:Nat)(ha:a<2^w)(hb:b<2^w):(BitVec.ofInt w (a:Int) &&& BitVec.ofInt w (b:Int)).toNat=a &&& b:=by
 rw[BitVec.toNat_and,BitVec.ofInt_natCast,BitVec.ofInt_natCast,BitVec.toNat_ofNat,BitVec.toNat_ofNat,Nat.mod_eq_of_lt ha,Nat.mod_eq_of_lt hb]
theorem MZ (w a b:Nat)(ha:a<2^w)(hb:b<2^w):(BitVec.ofInt w (a:Int) ||| BitVec.ofInt w (b:Int)).toNat=a ||| b:=by
 rw[BitVec.toNat_or,BitVec.ofInt_natCast,BitVec.ofInt_natCast,BitVec.toNat_ofNat,BitVec.toNat_ofNat,Nat.mod_eq_of_lt ha,Nat.mod_eq_of_lt hb]
theorem Ct (n:Nat):IntKind.u8.wrap (n:Int)=((n%256:Nat):Int):=by
 unfold IntKind.wrap
 simp -implicitDefEqProofs only[IntKind.signed,IntKind.bits]
 simp
def hN (t:ByteArray):Nat:=(jA t).toNat
theorem Cu (t:ByteArray):jA t=(hN t:Int):=(Int.toNat_of_nonneg (tF t).1).symm
theorem Cv (t:ByteArray):hN t<18446744073709551616:=by have:=(tF t).2;have:=Cu t;omega
def eQ (t:ByteArray)(i:Nat):Nat:=hN t/4294967296+i*(hN t%4294967296)
def GP (t:ByteArray)(b i:Nat):Nat:=eQ t i%b
def du (t:ByteArray)(b h:Nat):List Nat:=(List.range h).map (GP t b)
theorem wL {t:ByteArray}{b h p:Nat}(hb:1≤b)(hp:p∈du t b h):p<b:=by
 obtain⟨i,_,rfl⟩:=List.mem_map.1 hp
 exact Nat.mod_lt _ hb
theorem lR (t:ByteArray)(b h:Nat):(du t b h).length=h:=by simp[du]
theorem qp (t:ByteArray)(b i:Nat):du t b (i+1)=du t b i++[GP t b i]:=by simp[du,List.range_succ]
theorem Cw (t:ByteArray):(jA t).fdiv (2^(min (32:Int).toNat IntKind.u64.bits))=((hN t/4294967296:Nat):Int):=by
 rw[Cu];exact NW _ 32
theorem Cx (t:ByteArray):IntKind.u64.wrap ((BitVec.ofInt IntKind.u64.bits (jA t) &&& BitVec.ofInt IntKind.u64.bits 4294967295).toNat:Nat)=((hN t%4294967296:Nat):Int):=by
 have h:=Cv t
 have e:=GO 64 (hN t) 4294967295 h (by decide)
 have e2:hN t &&& 4294967295=hN t%4294967296:=Nat.and_two_pow_sub_one_eq_mod (hN t) 32
 rw[e2]at e
 rw[Cu]
 have e3:(BitVec.ofInt IntKind.u64.bits (hN t:Int) &&& BitVec.ofInt IntKind.u64.bits 4294967295).toNat=hN t%4294967296:=e
 rw[e3,eE (by omega)]
theorem tH (t:ByteArray){i:Nat}(hi:i≤16):eQ t i<73014444032:=by
 have h:=Cv t
 unfold eQ
 have h2:i*(hN t%4294967296)≤16*4294967295:=Nat.mul_le_mul hi (by omega)
 omega
theorem wO (t:ByteArray){i b:Nat}(hi:i≤16)(h1:1≤b)(h2:b≤65536):IntKind.i64.wrap ((eQ t i:Int).tmod (IntKind.u64.wrap (b:Int)))=(GP t b i:Int):=by
 rw[eE (n:=(b:Int)) (by omega)]
 have e:(eQ t i:Int).tmod (b:Int)=(GP t b i:Int):=(Int.ofNat_tmod _ _).symm
 have:=Nat.mod_lt (eQ t i) h1
 have e3:GP t b i=eQ t i%b:=rfl
 rw[e,wrap64 (by omega)]
def lS (b h:Int):Bool:=decide (1≤b)&&decide (b≤65536)&&decide (1≤h)&&decide (h≤16)
theorem uY {b h:Int}(k:lS b h=true):∃m n:Nat,b=m∧h=n∧1≤m∧m≤65536∧1≤n∧n≤16:=by
 simp[lS]at k
 exact⟨b.toNat,h.toNat,by omega,by omega,by omega,by omega,by omega,by omega⟩
theorem M0 (b h:Int)(H:ae):W env (.call 96 [.agg [.int .i64 b,.int .i64 h]]) H (fun o H'=>o=.val (.bool (lS b h))∧Ext H H'):=by
 refine W.cQ rfl rfl rfl ?_
 unfold lS
 by_cases h1:(1:Int)≤b
 rotate_left
 ·simp -implicitDefEqProofs only[xL,op,ef,cl,sq,reduceIte,j2,j3,j4,j5,j6,j7,j8,j9,y1,S1,S2,h1,Bool.false_and]
  exact Ext.rfl'.app _
 by_cases h2:b≤65536
 rotate_left
 ·simp -implicitDefEqProofs only[xL,op,ef,cl,sq,reduceIte,j2,j3,j4,j5,j6,j7,j8,j9,y1,S1,S2,h1,h2,Bool.false_and]
  exact Ext.rfl'.app _
 by_cases h3:(1:Int)≤h
 ·simp -implicitDefEqProofs only[xL,op,ef,cl,sq,reduceIte,j2,j3,j4,j5,j6,j7,j8,j9,y1,S1,S2,h1,h2,h3]
  exact Ext.rfl'.app _
 ·simp -implicitDefEqProofs only[xL,op,ef,cl,sq,reduceIte,j2,j3,j4,j5,j6,j7,j8,j9,y1,S1,S2,h1,h2,h3,Bool.false_and]
  exact Ext.rfl'.app _
theorem Cy (b h:Int)(H:ae):W env (.call 100 [.int .i64 b,.int .i64 h]) H (rN (.bool (lS b h)) H):=by
 refine W.cQ rfl rfl rfl ?_
 unfold lS
 by_cases h1:(1:Int)≤b
 rotate_left
 ·simp -implicitDefEqProofs only[qk,op,ef,cl,sq,reduceIte,j2,j3,j4,j5,j6,j7,j8,j9,y1,S1,h1,Bool.false_and]
 by_cases h2:b≤65536
 rotate_left
 ·simp -implicitDefEqProofs only[qk,op,ef,cl,sq,reduceIte,j2,j3,j4,j5,j6,j7,j8,j9,y1,S1,h1,h2,Bool.false_and]
 by_cases h3:(1:Int)≤h
 ·simp -implicitDefEqProofs only[qk,op,ef,cl,sq,reduceIte,j2,j3,j4,j5,j6,j7,j8,j9,y1,S1,h1,h2,h3]
 ·simp -implicitDefEqProofs only[qk,op,ef,cl,sq,reduceIte,j2,j3,j4,j5,j6,j7,j8,j9,y1,S1,h1,h2,h3,Bool.false_and]
theorem Cz {b:Nat}(h:b<1099511627776):IntKind.i64.wrap ((IntKind.i64.wrap ((b:Int)+7)).tdiv 8)=(((b+7)/8:Nat):Int):=by
 rw[wrap64 (n:=(b:Int)+7) (by omega)]
 have e:((b:Int)+7).tdiv 8=(((b+7)/8:Nat):Int):=by
  rw[Int.tdiv_eq_ediv_of_nonneg (by omega)];omega
 rw[e,wrap64 (by omega)]
theorem IQ (b:Nat)(h:Int)(hb:b<1099511627776)(H:ae):W env (.call 97 [.agg [.int .i64 b,.int .i64 h]]) H (fun o H'=>o=.val (.int .i64 ((b+7)/8:Nat))∧Ext H H'):=by
 refine W.cQ rfl rfl rfl ?_
 have e:=Cz hb
 simp -implicitDefEqProofs only[IE,op,ef,cl,sq,reduceIte,j2,j3,j4,j5,j6,j7,j8,j9,y1,S1,S2,e]
 exact Ext.rfl'.app _
theorem CA (t:ByteArray)(b h:Nat)(b1:1≤b)(b2:b≤65536)(h2:h≤16)(H:ae)(ht:t.size<9223372036854775807):W env (.call 99 [.agg [.int .i64 b,.int .i64 h],.str t]) H (fun o H'=>Ext H H'∧∃k,o=.val (.sl k ((du t b h).map eI))):=by
 refine W.cQ rfl rfl rfl ?_
 obtain⟨H1,lT⟩:∃H1,H1=H++[B.cells [T.int .i64 (b:Int),T.int .i64 (h:Int)]]:=⟨_,rfl⟩
 have cX:Ext H H1:=⟨_,lT⟩
 have c1:H1[H.length]?=some (.cells [T.int .i64 (b:Int),T.int .i64 (h:Int)]):=by rw[lT];exact bT rfl
 simp -implicitDefEqProofs only[IG,op,ef,cl,sq,reduceIte,j2,j3,j4,j5,j6,j7,j8,j9,y1,S1]
 rw[←lT]
 refine af _ _ _ _ _ _ _ _ (E8 t _ ht) ?_
 rintro u H1⟨hu,rfl⟩
 cases hu
 have hi:=Cw t
 have lo:=Cx t
 simp -implicitDefEqProofs only[op,ef,cl,sq,reduceIte,j2,j3,j4,j5,j6,j7,j8,j9,y1,S1,c1,hi,lo]
 refine W.ea [(2,_),(7,_),(16,_)] (fun (i:Nat) R H'=>At H' (fun H'=>∃k,R 8=.sl k ((du t b i).map eI)∧Ext H1 H'∧rO H1.length H' k)∧R 6=.int .u64 (eQ t i:Nat)∧R 17=.int .i64 i∧i≤h) (fun i=>h-i) 0 ⟨.i ⟨.nil,rfl,Ext.rfl',jL _ _⟩,by show T.int .u64 _=_;simp[eQ],rfl,Nat.zero_le _⟩ ?_
 rintro i R H2⟨⟨k,g8,bZ,wP⟩,g6,Ss,hle⟩
 have c2:=bZ.get c1
 by_cases aE:i<h
 rotate_left
 ·have l4:i=h:=by omega
  subst l4
  simp -implicitDefEqProofs only[aA,aw,op,ef,cl,sq,reduceIte,j2,j3,j4,j5,j6,j7,j8,j9,y1,S1,g8,Ss,aE]
  exact⟨cX.trans bZ,k,rfl⟩
 have ws:=aJ (show i<9223372036854775807 by omega)
 have pv:=wO t (i:=i) (by omega) b1 b2
 have nz:¬IntKind.u64.wrap (b:Int)=0:=by rw[eE (by omega)];omega
 have pl:=tH t (i:=i+1) (by omega)
 have e2:eQ t (i+1)=eQ t i+hN t%4294967296:=by unfold eQ;rw[Nat.add_mul];omega
 have UZ:IntKind.u64.wrap ((eQ t i:Int)+((hN t%4294967296:Nat):Int))=((eQ t (i+1):Nat):Int):=by
  rw[eE (by omega),e2];simp
 have cj:=all_map (enc:=eI) (n:=1) (fun _=>rfl) (du t b i)
 obtain⟨k',H3,ha,uZ,po⟩:=oE (bytes:=8) ((du t b i).map eI) [[T.int .i64 (GP t b i:Nat)]] wP bZ.len (by simp) (fS (by rw[List.length_map,lR];simp -implicitDefEqProofs only[List.length_cons,List.length_nil];omega))
 have c3:=po.cells wP c2 (by simp)
 simp -implicitDefEqProofs only[op,ef,cl,sq,reduceIte,j2,j3,j4,j5,j6,j7,j8,j9,y1,S1]at ha
 simp -implicitDefEqProofs only[aA,aw,op,ef,cl,sq,reduceIte,j2,j3,j4,j5,j6,j7,j8,j9,y1,S1,g8,Ss,g6,aE,c2,c3,nz,pv,cj,ha,ws,UZ]
 refine⟨i+1,by omega,.i ⟨k',?_,po.ext H1 (Nat.le_refl _) bZ,uZ⟩,rfl,rfl,aE⟩
 rw[qp,List.map_append];rfl
theorem CB (t:ByteArray){i b:Nat}(hi:i≤16)(h1:1≤b)(h2:b≤65536):IntKind.i64.wrap ((IntKind.u64.wrap (((hN t/4294967296:Nat):Int)+IntKind.u64.wrap ((i:Int)*((hN t%4294967296:Nat):Int)))).tmod (IntKind.u64.wrap (b:Int)))=(GP t b i:Int):=by
 have h:=Cv t
 have h3:i*(hN t%4294967296)≤16*4294967295:=Nat.mul_le_mul hi (by omega)
 have e1:(i:Int)*((hN t%4294967296:Nat):Int)=((i*(hN t%4294967296):Nat):Int):=(Int.natCast_mul _ _).symm
 rw[e1,eE (n:=((i*(hN t%4294967296):Nat):Int)) (by omega)]
 have e2:((hN t/4294967296:Nat):Int)+((i*(hN t%4294967296):Nat):Int)=((eQ t i:Nat):Int):=by unfold eQ;omega
 have pl:=tH t (i:=i) hi
 rw[e2,eE (n:=((eQ t i:Nat):Int)) (by omega),wO t hi h1 h2]
theorem xN (t:ByteArray)(b h:Nat)(b1:1≤b)(b2:b≤65536)(h1:1≤h)(h2:h≤16)(H:ae)(ht:t.size<9223372036854775807):W env (.call 102 [.str t,.int .i64 b,.int .i64 h]) H (fun o H'=>Ext H H'∧∃k,o=.val (.bC [.sl k ((du t b h).map eI),.int .i64 0])):=by
 have l9:lS b h=true:=by simp[lS];omega
 refine W.cQ rfl rfl rfl ?_
 simp -implicitDefEqProofs only[Bm,op,ef,cl,sq,reduceIte,j2,j3,j4,j5,j6,j7,j8,j9,y1,S1]
 refine af _ _ _ _ _ _ _ _ (Cy b h _) ?_
 rintro u H1⟨hu,rfl⟩
 cases hu
 simp -implicitDefEqProofs only[op,ef,cl,sq,reduceIte,j2,j3,j4,j5,j6,j7,j8,j9,y1,S1,l9]
 refine af _ _ _ _ _ _ _ _ (E9 t _ ht) ?_
 rintro u H1⟨hu,rfl⟩
 cases hu
 have hi:=Cw t
 have lo:=Cx t
 have wh:IntKind.u64.wrap (h:Int)=(h:Int):=eE (by omega)
 simp -implicitDefEqProofs only[op,ef,cl,sq,reduceIte,j2,j3,j4,j5,j6,j7,j8,j9,y1,S1]
 refine W.ea [(1,_),(2,_),(8,_)] (fun (i:Nat) R H'=>At H' (fun H'=>∃k,R 9=.sl k ((du t b i).map eI)∧Ext H1 H'∧rO H1.length H' k)∧R 10=.int .u64 i∧i≤h) (fun i=>h-i) 0 ⟨.i ⟨.nil,rfl,Ext.rfl',jL _ _⟩,rfl,Nat.zero_le _⟩ ?_
 rintro i R H2⟨⟨k,g9,bZ,wP⟩,C6,hle⟩
 by_cases aE:i<h
 rotate_left
 ·have l4:i=h:=by omega
  subst l4
  simp -implicitDefEqProofs only[aA,aw,op,ef,cl,sq,reduceIte,j2,j3,j4,j5,j6,j7,j8,j9,y1,S1,g9,C6,wh,aE]
  exact⟨bZ,k,rfl⟩
 have ws:IntKind.u64.wrap ((i:Int)+1)=((i+1:Nat):Int):=by rw[eE (by omega)];simp
 have pv:=CB t (i:=i) (by omega) b1 b2
 have nz:¬IntKind.u64.wrap (b:Int)=0:=by rw[eE (by omega)];omega
 have cj:=all_map (enc:=eI) (n:=1) (fun _=>rfl) (du t b i)
 obtain⟨k',H3,ha,uZ,po⟩:=oE (bytes:=8) ((du t b i).map eI) [[T.int .i64 (GP t b i:Nat)]] wP bZ.len (by simp) (fS (by rw[List.length_map,lR];simp -implicitDefEqProofs only[List.length_cons,List.length_nil];omega))
 simp -implicitDefEqProofs only[op,ef,cl,sq,reduceIte,j2,j3,j4,j5,j6,j7,j8,j9,y1,S1]at ha
 simp -implicitDefEqProofs only[aA,aw,op,ef,cl,sq,reduceIte,j2,j3,j4,j5,j6,j7,j8,j9,y1,S1,g9,C6,wh,aE,nz,hi,lo,pv,cj,ha,ws]
 refine⟨i+1,by omega,.i ⟨k',?_,po.ext H1 (Nat.le_refl _) bZ,uZ⟩,rfl,aE⟩
 rw[qp,List.map_append];rfl
def kj (S:Nat→Bool)(j:Nat):Nat:=gY (fun i=>S (8*j+i)) 8
def fW (S:Nat→Bool)(b:Nat):List Nat:=(List.range ((b+7)/8)).map (kj S)
def u0 (S:Nat→Bool)(b:Nat):List Bool:=(List.range b).map S
def CC (S:Nat→Bool)(p:Nat):Nat→Bool:=fun q=>S q||decide (q=p)
theorem tI (S:Nat→Bool)(j:Nat):kj S j<256:=tq _ 8
theorem oQ (S:Nat→Bool)(b:Nat):(fW S b).length=(b+7)/8:=by simp[fW]
theorem lU (S:Nat→Bool)(b:Nat):(u0 S b).length=b:=by simp[u0]
theorem wQ (S:Nat→Bool){b j:Nat}(h:j<(b+7)/8):(fW S b)[j]?=some (kj S j):=by simp[fW,h]
theorem IS (S:Nat→Bool){b j:Nat}(h:j<b):(u0 S b)[j]?=some (S j):=by simp[u0,h]
theorem xO (b:Nat):fW (fun _=>false) b=List.replicate ((b+7)/8) 0:=by
 refine List.ext_getElem (by simp[fW]) fun i h1 h2=>?_
 simp[fW,kj,gY]
theorem CD (b:Nat):u0 (fun _=>false) b=List.replicate b false:=by
 refine List.ext_getElem (by simp[u0]) fun i h1 h2=>?_
 simp[u0]
theorem CE (S:Nat→Bool)(p b:Nat):(fW S b).set (p/8) (kj S (p/8) ||| 2^(p%8))=fW (CC S p) b:=by
 refine List.ext_getElem (by simp[fW]) fun i h1 h2=>?_
 rw[List.getElem_set]
 simp -implicitDefEqProofs only[fW,List.getElem_map,List.getElem_range]
 split
 ·rename_i e;subst e
  unfold kj
  rw[Bi (Nat.mod_lt _ (by decide))]
  refine qj fun j hj=>?_
  simp -implicitDefEqProofs only[CC]
  congr 1
  simp -implicitDefEqProofs only[decide_eq_decide];omega
 ·rename_i e
  refine qj fun j hj=>?_
  have:¬8*i+j=p:=by omega
  simp -implicitDefEqProofs only[CC,this,decide_false,Bool.or_false]
theorem or_val {x p:Nat}(hx:x<256):IntKind.u8.wrap ((BitVec.ofInt IntKind.u8.bits (x:Int) ||| BitVec.ofInt IntKind.u8.bits (IntKind.u8.wrap (1*2^(min ((p:Int).tmod 8).toNat IntKind.u8.bits)))).toNat:Nat)=((x ||| 2^(p%8):Nat):Int):=by
 have e1:((p:Int).tmod 8).toNat=p%8:=by
  rw[show((p:Int).tmod 8)=((p%8:Nat):Int) from(Int.ofNat_tmod p 8).symm];exact Int.toNat_natCast _
 have hm:p%8<8:=Nat.mod_lt _ (by decide)
 have e2:min (p%8) IntKind.u8.bits=p%8:=Nat.min_eq_left (Nat.le_of_lt hm)
 have hp:2^(p%8)<256:=Nat.pow_lt_pow_right (by decide) hm
 have e3:(1*2^(p%8):Int)=((2^(p%8):Nat):Int):=by rw[Int.one_mul];simp
 rw[e1,e2,e3,qn hp]
 have e4:=MZ 8 x (2^(p%8)) hx hp
 have e5:(BitVec.ofInt IntKind.u8.bits (x:Int) ||| BitVec.ofInt IntKind.u8.bits ((2^(p%8):Nat):Int)).toNat=x ||| 2^(p%8):=e4
 rw[e5,qn (Nat.or_lt_two_pow (n:=8) hx hp)]
theorem Fe {x p:Nat}(hx:x<256):(IntKind.u8.wrap ((BitVec.ofInt IntKind.u8.bits ((x:Int).fdiv (2^(min ((p:Int).tmod 8).toNat IntKind.u8.bits))) &&& BitVec.ofInt IntKind.u8.bits 1).toNat:Nat))=(if x.testBit (p%8)then 1 else 0:Int):=by
 have e1:((p:Int).tmod 8).toNat=p%8:=by
  rw[show((p:Int).tmod 8)=((p%8:Nat):Int) from(Int.ofNat_tmod p 8).symm];exact Int.toNat_natCast _
 have hm:p%8<8:=Nat.mod_lt _ (by decide)
 have e2:min (p%8) IntKind.u8.bits=p%8:=Nat.min_eq_left (Nat.le_of_lt hm)
 rw[e1,e2,NW]
 have hd:x/2^(p%8)<2^8:=Nat.lt_of_le_of_lt (Nat.div_le_self _ _) hx
 have e4:=GO 8 (x/2^(p%8)) 1 hd (by decide)
 have e5:(BitVec.ofInt IntKind.u8.bits ((x/2^(p%8):Nat):Int) &&& BitVec.ofInt IntKind.u8.bits 1).toNat=x/2^(p%8) &&& 1:=e4
 have e6:x/2^(p%8) &&& 1=x/2^(p%8)%2:=Nat.and_one_is_mod _
 rw[e5,e6]
 have e7:x.testBit (p%8)=decide (x/2^(p%8)%2=1):=Nat.testBit_eq_decide_div_mod_eq
 rw[qn (by omega),e7]
 by_cases h:x/2^(p%8)%2=1
 ·simp[h]
 ·have:x/2^(p%8)%2=0:=by omega
  simp[this]
theorem xP (S:Nat→Bool)(p:Nat):(kj S (p/8)).testBit (p%8)=S p:=by
 have hm:p%8<8:=Nat.mod_lt _ (by decide)
 have e:8*(p/8)+p%8=p:=Nat.div_add_mod p 8
 rw[kj,ew,e]
 simp[hm]
theorem M3 (p:Nat):¬((p:Int).tmod 8<0):=by
 rw[show((p:Int).tmod 8)=((p%8:Nat):Int) from(Int.ofNat_tmod p 8).symm];omega
theorem M4 {p:Nat}(h:p<1099511627776):IntKind.i64.wrap ((p:Int).tdiv 8)=((p/8:Nat):Int):=by
 have e:(p:Int).tdiv 8=((p/8:Nat):Int):=(Int.ofNat_tdiv p 8).symm
 rw[e,wrap64 (by omega)]
structure RF (H:ae)(bf w b h:Nat)(S:Nat→Bool):Prop where
 hb:H[bf]?=some (.cells [.int .i64 b,.int .i64 h,.aB w 0 b 1])
 hw:H[w]?=some (.cells (aK eO (u0 S b)))
theorem RF.ext {H H':ae}{bf w b h:Nat}{S:Nat→Bool}(k:RF H bf w b h S)(hx:Ext H H'):RF H' bf w b h S:=⟨hx.get k.hb,hx.get k.hw⟩
theorem IT (b h:Int)(H:ae):W env (.call 49 [.int .i64 b,.int .i64 h]) H (fun o H'=>Ext H H'∧((lS b h=false∧o=.val (.bC [.bI,.int .i64 1])∧H'=H)∨(lS b h=true∧∃bf w,o=.val (.bC [.ptr bf 0,.int .i64 0])∧H.length≤bf∧H.length≤w∧w≠bf∧∀m n:Nat,b=m→h=n→RF H' bf w m n fun _=>false))):=by
 refine W.cQ rfl rfl rfl ?_
 simp -implicitDefEqProofs only[Iy,op,ef,cl,sq,reduceIte,j2,j3,j4,j5,j6,j7,j8,j9,y1,S1]
 refine af _ _ _ _ _ _ _ _ (Cy b h _) ?_
 rintro u H2⟨hu,rfl⟩
 cases hu
 cases hs:lS b h
 ·simp -implicitDefEqProofs only[op,ef,cl,sq,reduceIte,j2,j3,j4,j5,j6,j7,j8,j9,y1,S1]
  exact⟨Ext.rfl',.inl trivial⟩
 obtain⟨m,n,rfl,rfl,m1,m2,n1,n2⟩:=uY hs
 have q1:m*1≤281474976710656:=by omega
 have q2:m≤9223372036854775807:=by omega
 simp -implicitDefEqProofs only[op,ef,cl,sq,reduceIte,j2,j3,j4,j5,j6,j7,j8,j9,y1,S1,S2,S3,aa,q1,q2,Nat.le_refl]
 refine⟨(Ext.rfl'.app _).app _,.inr ⟨_,_,rfl,by omega,Nat.le_refl _,by omega,fun m' n' em en=>?_⟩⟩
 have em:m=m':=by omega
 have en:n=n':=by omega
 subst em;subst en
 refine⟨?_,?_⟩
 ·rw[bT (by simp)]
 ·rw[gW (by simp),bT rfl,CD]
  congr 2
  exact wj (enc:=eO) _ false
end Go.Proofs.YtmgldhlcapjdkaaGreat.St
end
