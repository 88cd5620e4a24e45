/- Part of a proof of a law of this seat: the machine of plain values, its simulation, and the contracts of the functions that the law reaches. Conditions: none beyond the given row. -/
import Derived.Test.YtdcpehdijdllpaaGreatM3
open Int renaming reduceLT → j4, reduceLE → j5, reduceBEq → j6, reduceBNe → j7, reduceEq → j8
open Nat renaming reduceAdd → j9, reduceLeDiff → y1, reduceLT → y2, reduceEqDiff → y3
set_option linter.unusedSimpArgs false
set_option linter.unusedVariables false
set_option linter.unnecessarySimpa false
set_option maxHeartbeats 4000000
section
namespace Go.Proofs.YtdcpehdijdllpaaGreat.St
open Go.Rmp Go.Proofs.YtdcpehdijdllpaaGreat.Ir
set_option maxRecDepth 10000
set_option maxHeartbeats 8000000
section
variable {c n i j:Nat} {d:Array ByteArray}
theorem aG (h:i<n):dw 1 i (.ax c 0 n 1)=some (.ptr c (i*1)):=by rw[fL];simp[h]
theorem oq {l:List ByteArray}:(aE eS l).length=l.length*1:=by rw[da (n:=1) (fun _=>rfl)]
theorem aH (h:i<d.size):(i*1+1≤(aE eS d.toList).length)=True:=by rw[oq];simp;omega
theorem aI (h:i<d.size):List.take 1 (List.drop (i*1) (aE eS d.toList))=[.str d[i]!]:=by
 have:=zk h
 rw[nf,if_pos (by rw[oq];simp;omega)]at this
 exact Option.some.inj this
theorem aJ {x:ByteArray}(h:i<d.size):(i*1+1≤(aE eS (d.toList.set j x)).length)=True:=by rw[oq];simp;omega
theorem aK (h:i<d.size)(h':j<d.size):(List.take (i*1) (aE eS d.toList)++[.str d[j]!])++List.drop (i*1+1) (aE eS d.toList)=aE eS (d.toList.set i d[j]!):=by
 have:=(rK (Hx:=[.cells []]) (c:=0) d h h').1
 rw[iq,if_pos (by rw[oq];simp;omega)]at this
 simpa using this
theorem aM (h:i<d.size)(h':j<d.size):(List.take (j*1) (aE eS (d.toList.set i d[j]!))++[.str d[i]!])++List.drop (j*1+1) (aE eS (d.toList.set i d[j]!))=aE eS (Go.Sort.swp d i j).toList:=by
 have:=(rK (Hx:=[.cells []]) (c:=0) d h h').2 [.cells []]
 rw[iq,if_pos (by rw[oq];simp;omega)]at this
 simpa using this
end
open Go.Sort in
def iv (c n:Nat)(H:af)(P:Array ByteArray→Prop)(H':af):Prop:=∃d:Array ByteArray,H'[c]?=some (.cells (aE eS d.toList))∧d.size=n∧P d∧bm (fun x=>x=c) H H'
open Go.Sort in
theorem iv.swp {c n:Nat}{H H1:af}{P:Array ByteArray→Prop}{y x:B}{d':Array ByteArray}(hd:H1[c]?=some y)(hs:d'.size=n)(hP:P d')(hf:bm (fun x=>x=c) H H1):iv c n H P ((H1.set c x).set c (.cells (aE eS d'.toList))) :=
 ⟨d',bX (by rw[List.length_set];exact aY hd),hs,hP,(hf.set (.inl rfl) _).set (.inl rfl) _⟩
open Go.Sort in
def rL (c n:Nat)(d':Array ByteArray)(H:af):Out→af→Prop:=fun o H'=>o=.val (.bJ [])∧iv c n H (fun x=>x=d') H'
open Go.Sort in
theorem Ui (c n:Nat)(d:Array ByteArray)(a b:Nat)(H:af)(hn:d.size=n)(hc:H[c]?=some (.cells (aE eS d.toList)))(hb:b≤n)(gy:a<b)(hs:n<4611686018427387903) :
  W env (.call 146 [.ax c 0 n 1,.int .i64 a,.int .i64 b]) H (rL c n (reverseRange d a b) H):=by
 refine W.bU rfl rfl rfl ?_
 simp -implicitDefEqProofs (maxSteps:=1000000) (disch:=omega) only[FX,op,ef,cl,sq,reduceIte,j4,j5,j6,j7,j8,j9,y1,y2,y3,S1,a6]
 refine W.cH (fun (i:Nat) R H'=>At H' (fun H'=>∃j,R 7=.int .i64 (j:Nat)∧i+j=a+b-1∧a≤i∧iv c n H (fun di=>reverseLoop i j di=reverseRange d a b) H')∧R 0=.ax c 0 n 1∧R 6=.int .i64 i) (fun i=>a+b-i) a ⟨.i ⟨b-1,rfl,by omega,Nat.le_refl _,d,hc,hn,rfl,bm.refl _ _⟩,rfl,rfl⟩ ?_
 rintro i R H1⟨⟨j,h9,rC,Gw,di,hd,a9,za,au⟩,h0,h8⟩
 have lc:=aY hd
 by_cases aw:i<j
 ·simp -implicitDefEqProofs (maxSteps:=1000000) (disch:=omega) only[aa,aG,aH,aI,aJ,aK,aM,wA,a7,wS,a6,wM,S2,op,ef,cl,sq,reduceIte,j4,j5,j6,j7,j8,j9,y1,y2,y3,S1,h0,h8,h9,aw,hd,lc]
  exact⟨i+1,by omega,.i ⟨j-1,rfl,by omega,by omega,.swp hd (by rw[swp_size];exact a9) (by rw[←za];conv=>{ rhs;rw[reverseLoop,if_pos aw] }) au⟩,rfl⟩
 ·simp -implicitDefEqProofs only[op,ef,cl,sq,reduceIte,j4,j5,j6,j7,j8,j9,y1,y2,y3,S1,h0,h8,h9,aw]
  rw[reverseLoop,if_neg aw]at za
  exact⟨rfl,di,hd,a9,za,au⟩
open Go.Sort in
theorem AO (c n:Nat)(d:Array ByteArray)(lo hi first:Nat)(H:af)(hn:d.size=n)(hc:H[c]?=some (.cells (aE eS d.toList)))(hb:first+hi≤n)(kx:lo≤n)(hs:n<2305843009213693951) :
  W env (.call 158 [.ax c 0 n 1,.int .i64 lo,.int .i64 hi,.int .i64 first]) H (rL c n (siftDown strLt hi first lo d) H):=by
 refine W.bU rfl rfl rfl ?_
 simp -implicitDefEqProofs only[Ge,op,ef,cl,sq,reduceIte,j4,j5,j6,j7,j8,j9,y1,y2,y3,S1]
 refine W.cH (fun (r:Nat) R H'=>At H' (fun H'=>iv c n H (fun di=>siftDown strLt hi first r di=siftDown strLt hi first lo d) H')∧R 0=.ax c 0 n 1∧R 2=.int .i64 hi∧R 3=.int .i64 first∧R 0=.ax c 0 n 1∧R 8=.int .i64 r∧r≤n) (fun r=>hi-r) lo ⟨.i ⟨d,hc,hn,rfl,bm.refl _ _⟩,rfl,rfl,rfl,rfl,rfl,kx⟩ ?_
 rintro r R H1⟨⟨di,hd,a9,hP,au⟩,h0,h2,h3,h4,aF,hr⟩
 have lc:=aY hd
 by_cases eu:2*r+1≥hi
 ·simp -implicitDefEqProofs (maxSteps:=1000000) (disch:=omega) only[aa,aG,aH,aI,aJ,aK,aM,wA,a7,wS,a6,wM,S2,op,ef,cl,sq,reduceIte,j4,j5,j6,j7,j8,j9,y1,y2,y3,S1,h0,h2,h3,h4,aF,eu]
  rw[siftDown,dif_pos eu]at hP
  exact⟨rfl,di,hd,a9,hP,au⟩
 by_cases du:2*r+1+1<hi
 ·simp -implicitDefEqProofs (maxSteps:=1000000) (disch:=omega) only[aa,aG,aH,aI,aJ,aK,aM,wA,a7,wS,a6,wM,S2,op,ef,cl,sq,reduceIte,j4,j5,j6,j7,j8,j9,y1,y2,y3,S1,h0,h2,h3,h4,aF,eu,du,hd,lc]
  refine ae _ _ _ _ _ _ _ _ (dS di[first+(2*r+1)]! di[first+(2*r+1)+1]! _) ?_
  rintro u H2⟨hu,jM⟩
  cases hu
  have hx:Ext H1 H2:=by rw[jM];exact Ext.rfl'
  have hd:=hx.get hd
  have lc:=aY hd
  have au:=au.trans (aB (F:=fun _=>False) hx) (fun _ h=>h.elim)
  have dc:strLt di[first+(2*r+1)]! di[first+(2*r+1)+1]! = decide (strLt di[first+(2*r+1)]! di[first+(2*r+1)+1]! = true):=by simp
  by_cases c1:strLt di[first+(2*r+1)]! di[first+(2*r+1)+1]! = true
  ·simp -implicitDefEqProofs (maxSteps:=1000000) (disch:=omega) only[aa,aG,aH,aI,aJ,aK,aM,wA,a7,wS,a6,wM,S2,op,ef,cl,sq,reduceIte,j4,j5,j6,j7,j8,j9,y1,y2,y3,S1,h0,h2,h3,h4,aF,eu,du,hd,lc,c1]
   refine ae _ _ _ _ _ _ _ _ (dS di[first+r]! di[first+(2*r+1+1)]! _) ?_
   rintro u H3⟨hu,jM⟩
   cases hu
   have hx:Ext H2 H3:=by rw[jM];exact Ext.rfl'
   have hd:=hx.get hd
   have lc:=aY hd
   have au:=au.trans (aB (F:=fun _=>False) hx) (fun _ h=>h.elim)
   have xK:strLt di[first+r]! di[first+(2*r+1+1)]! = decide (strLt di[first+r]! di[first+(2*r+1+1)]! = true):=by simp
   by_cases c2:strLt di[first+r]! di[first+(2*r+1+1)]! = true
   ·simp -implicitDefEqProofs (maxSteps:=1000000) (disch:=omega) only[aa,aG,aH,aI,aJ,aK,aM,wA,a7,wS,a6,wM,S2,op,ef,cl,sq,reduceIte,j4,j5,j6,j7,j8,j9,y1,y2,y3,S1,h0,h2,h3,h4,aF,eu,du,hd,lc,c2]
    refine⟨2*r+1+1,by omega,.i (.swp hd (by rw[swp_size];exact a9) ?_ au),rfl,by omega⟩
    rw[←hP]
    conv=>{ rhs;rw[siftDown,dif_neg eu,if_pos (fN (cn du) (dc.trans (cn c1))),if_neg (kC (xK.trans (cn c2))),dif_pos du] }
   ·simp -implicitDefEqProofs (maxSteps:=1000000) (disch:=omega) only[aa,aG,aH,aI,aJ,aK,aM,wA,a7,wS,a6,wM,S2,op,ef,cl,sq,reduceIte,j4,j5,j6,j7,j8,j9,y1,y2,y3,S1,h0,h2,h3,h4,aF,eu,du,hd,lc,c2]
    rw[siftDown,dif_neg eu,if_pos (fN (cn du) (dc.trans (cn c1))),if_pos (fp (xK.trans (cj c2)))]at hP
    exact⟨rfl,di,hd,a9,hP,au⟩
  ·simp -implicitDefEqProofs (maxSteps:=1000000) (disch:=omega) only[aa,aG,aH,aI,aJ,aK,aM,wA,a7,wS,a6,wM,S2,op,ef,cl,sq,reduceIte,j4,j5,j6,j7,j8,j9,y1,y2,y3,S1,h0,h2,h3,h4,aF,eu,du,hd,lc,c1]
   refine ae _ _ _ _ _ _ _ _ (dS di[first+r]! di[first+(2*r+1)]! _) ?_
   rintro u H3⟨hu,jM⟩
   cases hu
   have hx:Ext H2 H3:=by rw[jM];exact Ext.rfl'
   have hd:=hx.get hd
   have lc:=aY hd
   have au:=au.trans (aB (F:=fun _=>False) hx) (fun _ h=>h.elim)
   have xK:strLt di[first+r]! di[first+(2*r+1)]! = decide (strLt di[first+r]! di[first+(2*r+1)]! = true):=by simp
   by_cases c2:strLt di[first+r]! di[first+(2*r+1)]! = true
   ·simp -implicitDefEqProofs (maxSteps:=1000000) (disch:=omega) only[aa,aG,aH,aI,aJ,aK,aM,wA,a7,wS,a6,wM,S2,op,ef,cl,sq,reduceIte,j4,j5,j6,j7,j8,j9,y1,y2,y3,S1,h0,h2,h3,h4,aF,eu,du,hd,lc,c2]
    refine⟨2*r+1,by omega,.i (.swp hd (by rw[swp_size];exact a9) ?_ au),rfl,by omega⟩
    rw[←hP]
    conv=>{ rhs;rw[siftDown,dif_neg eu,if_neg (dU (dc.trans (cj c1))),if_neg (kC (xK.trans (cn c2)))] }
   ·simp -implicitDefEqProofs (maxSteps:=1000000) (disch:=omega) only[aa,aG,aH,aI,aJ,aK,aM,wA,a7,wS,a6,wM,S2,op,ef,cl,sq,reduceIte,j4,j5,j6,j7,j8,j9,y1,y2,y3,S1,h0,h2,h3,h4,aF,eu,du,hd,lc,c2]
    rw[siftDown,dif_neg eu,if_neg (dU (dc.trans (cj c1))),if_pos (fp (xK.trans (cj c2)))]at hP
    exact⟨rfl,di,hd,a9,hP,au⟩
 ·simp -implicitDefEqProofs (maxSteps:=1000000) (disch:=omega) only[aa,aG,aH,aI,aJ,aK,aM,wA,a7,wS,a6,wM,S2,op,ef,cl,sq,reduceIte,j4,j5,j6,j7,j8,j9,y1,y2,y3,S1,h0,h2,h3,h4,aF,eu,du,hd,lc]
  try simp -implicitDefEqProofs only[op,ef,cl,sq,reduceIte,j4,j5,j6,j7,j8,j9,y1,y2,y3,S1]
  try simp -implicitDefEqProofs (maxSteps:=1000000) (disch:=omega) only[aa,aG,aH,aI,aJ,aK,aM,wA,a7,wS,a6,wM,S2,op,ef,cl,sq,reduceIte,j4,j5,j6,j7,j8,j9,y1,y2,y3,S1,h0,h2,h3,h4,aF,eu,du,hd,lc]
  refine ae _ _ _ _ _ _ _ _ (dS di[first+r]! di[first+(2*r+1)]! _) ?_
  rintro u H3⟨hu,jM⟩
  cases hu
  have hx:Ext H1 H3:=by rw[jM];exact Ext.rfl'
  have hd:=hx.get hd
  have lc:=aY hd
  have au:=au.trans (aB (F:=fun _=>False) hx) (fun _ h=>h.elim)
  have xK:strLt di[first+r]! di[first+(2*r+1)]! = decide (strLt di[first+r]! di[first+(2*r+1)]! = true):=by simp
  by_cases c2:strLt di[first+r]! di[first+(2*r+1)]! = true
  ·simp -implicitDefEqProofs (maxSteps:=1000000) (disch:=omega) only[aa,aG,aH,aI,aJ,aK,aM,wA,a7,wS,a6,wM,S2,op,ef,cl,sq,reduceIte,j4,j5,j6,j7,j8,j9,y1,y2,y3,S1,h0,h2,h3,h4,aF,eu,du,hd,lc,c2]
   refine⟨2*r+1,by omega,.i (.swp hd (by rw[swp_size];exact a9) ?_ au),rfl,by omega⟩
   rw[←hP]
   conv=>{ rhs;rw[siftDown,dif_neg eu,if_neg (dt (cj du)),if_neg (kC (xK.trans (cn c2)))] }
  ·simp -implicitDefEqProofs (maxSteps:=1000000) (disch:=omega) only[aa,aG,aH,aI,aJ,aK,aM,wA,a7,wS,a6,wM,S2,op,ef,cl,sq,reduceIte,j4,j5,j6,j7,j8,j9,y1,y2,y3,S1,h0,h2,h3,h4,aF,eu,du,hd,lc,c2]
   rw[siftDown,dif_neg eu,if_neg (dt (cj du)),if_pos (fp (xK.trans (cj c2)))]at hP
   exact⟨rfl,di,hd,a9,hP,au⟩
open Go.Sort in
theorem Pj (c n:Nat)(d:Array ByteArray)(a b:Nat)(H:af)(hn:d.size=n)(hc:H[c]?=some (.cells (aE eS d.toList)))(hb:b≤n)(gy:a<b)(hs:n<2305843009213693951) :
  W env (.call 143 [.ax c 0 n 1,.int .i64 a,.int .i64 b]) H (rL c n (heapSort strLt d a b) H):=by
 refine W.bU rfl rfl rfl ?_
 simp -implicitDefEqProofs (maxSteps:=1000000) (disch:=omega) only[FV,aa,aG,aH,aI,aJ,aK,aM,wA,a7,wS,a6,wM,S2,op,ef,cl,sq,reduceIte,j4,j5,j6,j7,j8,j9,y1,y2,y3,S1,wQ2]
 refine W.cP 0 (fun (k:Nat) R H'=>At H' (fun H'=>iv c n H (fun di=>heapBuild strLt (b-a) a k di=heapBuild strLt (b-a) a ((b-a-1)/2+1) d) H')∧R 0=.ax c 0 n 1∧R 0=.ax c 0 n 1∧R 6=.int .i64 a∧R 7=.int .i64 0∧R 8=.int .i64 (b-a:Nat)∧R 9=.int .i64 ((k:Int)-1)∧k≤b-a) (fun k=>k) ((b-a-1)/2+1)
  (fun R H'=>At H' (fun H'=>iv c n H (fun di=>di=heapBuild strLt (b-a) a ((b-a-1)/2+1) d) H')∧R 0=.ax c 0 n 1∧R 0=.ax c 0 n 1∧R 6=.int .i64 a∧R 7=.int .i64 0∧R 8=.int .i64 (b-a:Nat))
  ⟨.i ⟨d,hc,hn,rfl,bm.refl _ _⟩,rfl,rfl,rfl,rfl,rfl,by simp[oH],by omega⟩ ?_ ?_
 ·rintro k R H1⟨⟨di,hd,a9,hP,au⟩,h0,h3,h8,h9,aF,ba,hk⟩
  cases k with
  | zero =>
   rw[show(((0:Nat):Int)-1)=-1 from rfl]at ba
   simp -implicitDefEqProofs (maxSteps:=1000000) (disch:=omega) only[aa,aG,aH,aI,aJ,aK,aM,wA,a7,wS,a6,wM,S2,op,ef,cl,sq,reduceIte,j4,j5,j6,j7,j8,j9,y1,y2,y3,S1,h0,h3,h8,h9,aF,ba]
   exact .i ⟨di,hd,a9,hP,au⟩
  | succ k =>
   rw[show(((k+1:Nat):Int)-1)=(k:Int) by omega]at ba
   simp -implicitDefEqProofs (maxSteps:=1000000) (disch:=omega) only[aa,aG,aH,aI,aJ,aK,aM,wA,a7,wS,a6,wM,S2,op,ef,cl,sq,reduceIte,j4,j5,j6,j7,j8,j9,y1,y2,y3,S1,h0,h3,h8,h9,aF,ba,Kh]
   refine ae _ _ _ _ _ _ _ _ (AO c n di k (b-a) a _ a9 hd (by omega) (by omega) hs) ?_
   rintro u H2⟨hu,d2,cr,ir,rfl,ea⟩
   cases hu
   simp -implicitDefEqProofs (maxSteps:=1000000) (disch:=omega) only[Wt,op,ef,cl,sq,reduceIte,j4,j5,j6,j7,j8,j9,y1,y2,y3,S1,h0,h3,h8,h9,aF,ba]
   exact⟨k,by omega,.i ⟨_,cr,ir,hP,au.trans ea fun _ h=>.inl h⟩,rfl,by omega⟩
 ·rintro R H1⟨⟨di,hd,a9,hP,au⟩,h0,h3,h8,h9,aF⟩
  simp -implicitDefEqProofs (maxSteps:=1000000) (disch:=omega) only[aa,aG,aH,aI,aJ,aK,aM,wA,a7,wS,a6,wM,S2,op,ef,cl,sq,reduceIte,j4,j5,j6,j7,j8,j9,y1,y2,y3,S1,h0,h3,h8,h9,aF]
  refine W.cH (fun (k:Nat) R H'=>At H' (fun H'=>iv c n H (fun di=>heapPop strLt a k di=heapSort strLt d a b) H')∧R 0=.ax c 0 n 1∧R 0=.ax c 0 n 1∧R 6=.int .i64 a∧R 7=.int .i64 0∧R 8=.int .i64 (b-a:Nat)∧R 10=.int .i64 ((k:Int)-1)∧k≤b-a) (fun k=>k) (b-a) ⟨.i ⟨di,hd,a9,by rw[hP];rfl,au⟩,?_,?_,?_,?_,?_,?_,Nat.le_refl _⟩ ?_
  ·simp -implicitDefEqProofs only[op,ef,cl,sq,reduceIte,j4,j5,j6,j7,j8,j9,y1,y2,y3,S1,h0]
  ·simp -implicitDefEqProofs only[op,ef,cl,sq,reduceIte,j4,j5,j6,j7,j8,j9,y1,y2,y3,S1,h3]
  ·simp -implicitDefEqProofs only[op,ef,cl,sq,reduceIte,j4,j5,j6,j7,j8,j9,y1,y2,y3,S1,h8]
  ·simp -implicitDefEqProofs only[op,ef,cl,sq,reduceIte,j4,j5,j6,j7,j8,j9,y1,y2,y3,S1,h9]
  ·simp -implicitDefEqProofs only[op,ef,cl,sq,reduceIte,j4,j5,j6,j7,j8,j9,y1,y2,y3,S1,aF]
  ·simp -implicitDefEqProofs only[op,ef,cl,sq,reduceIte,j4,j5,j6,j7,j8,j9,y1,y2,y3,S1];omega
  rintro k R H1⟨⟨di,hd,a9,hP,au⟩,h0,h3,h8,h9,aF,aD,hk⟩
  have lc:=aY hd
  cases k with
  | zero =>
   rw[show(((0:Nat):Int)-1)=-1 from rfl]at aD
   simp -implicitDefEqProofs (maxSteps:=1000000) (disch:=omega) only[aa,aG,aH,aI,aJ,aK,aM,wA,a7,wS,a6,wM,S2,op,ef,cl,sq,reduceIte,j4,j5,j6,j7,j8,j9,y1,y2,y3,S1,h0,h3,h8,h9,aF,aD]
   exact⟨rfl,di,hd,a9,hP,au⟩
  | succ k =>
   rw[show(((k+1:Nat):Int)-1)=(k:Int) by omega]at aD
   simp -implicitDefEqProofs (maxSteps:=1000000) (disch:=omega) only[aa,aG,aH,aI,aJ,aK,aM,wA,a7,wS,a6,wM,S2,op,ef,cl,sq,reduceIte,j4,j5,j6,j7,j8,j9,y1,y2,y3,S1,h0,h3,h8,h9,aF,aD,Kh,hd,lc]
   obtain⟨d1,pO,zb,rfl,pw⟩:=iv.swp (n:=n) (P:=fun x=>x=swp di a (a+k)) (x:=.cells (aE eS (di.toList.set a di[a+k]!))) hd (by rw[Go.Sort.swp_size];exact a9) rfl au
   refine ae _ _ _ _ _ _ _ _ (AO c n _ 0 k a _ zb pO (by omega) (by omega) hs) ?_
   rintro u H2⟨hu,d2,cr,ir,rfl,ea⟩
   cases hu
   simp -implicitDefEqProofs (maxSteps:=1000000) (disch:=omega) only[Wt,op,ef,cl,sq,reduceIte,j4,j5,j6,j7,j8,j9,y1,y2,y3,S1,h0,h3,h8,h9,aF,aD]
   exact⟨k,by omega,.i ⟨_,cr,ir,hP,pw.trans ea fun _ h=>.inl h⟩,rfl,by omega⟩
open Go.Sort in
theorem zl (c n p sw:Nat)(d:Array ByteArray)(a b:Nat)(H:af)(hn:d.size=n)(hc:H[c]?=some (.cells (aE eS d.toList)))(hp:H[p]?=some (.cells [.int .i64 sw]))(ha:a<n)(hb:b<n)(hs:n<2305843009213693951)(O1:sw<1000) :
  W env (.call 163 [.ax c 0 n 1,.int .i64 a,.int .i64 b,.ptr p 0]) H (TZ p (order2 strLt d a b sw) H):=by
 refine W.bU rfl rfl rfl ?_
 have hd:=hc
 have au:=bm.refl (fun x=>x=p) H
 simp -implicitDefEqProofs (maxSteps:=1000000) (disch:=omega) only[Gi,aa,aG,aH,aI,aJ,aK,aM,wA,a7,wS,a6,wM,S2,op,ef,cl,sq,reduceIte,j4,j5,j6,j7,j8,j9,y1,y2,y3,S1,hd]
 refine ae _ _ _ _ _ _ _ _ (dS d[b]! d[a]! _) ?_
 rintro u H1⟨hu,jM⟩
 cases hu
 have hx:Ext H H1:=by rw[jM];exact Ext.rfl'
 have hd:=hx.get hd
 have lc:=aY hd
 have au:=au.trans (aB (F:=fun _=>False) hx) (fun _ h=>h.elim)
 have lT:=hx.get hp
 have lp:=aY lT
 have dc:strLt d[b]! d[a]! = decide (strLt d[b]! d[a]! = true):=by simp
 by_cases c1:strLt d[b]! d[a]! = true
 ·simp -implicitDefEqProofs (maxSteps:=1000000) (disch:=omega) only[aa,aG,aH,aI,aJ,aK,aM,wA,a7,wS,a6,wM,S2,op,ef,cl,sq,reduceIte,j4,j5,j6,j7,j8,j9,y1,y2,y3,S1,hd,c1,lT,lp]
  refine⟨?_,?_,?_⟩
  ·rw[order2,if_pos (dc.trans (cn c1))]
  ·rw[order2,if_pos (dc.trans (cn c1))];exact bX lp
  ·exact au.set (.inl rfl) _
 ·simp -implicitDefEqProofs (maxSteps:=1000000) (disch:=omega) only[aa,aG,aH,aI,aJ,aK,aM,wA,a7,wS,a6,wM,S2,op,ef,cl,sq,reduceIte,j4,j5,j6,j7,j8,j9,y1,y2,y3,S1,hd,c1,lT,lp]
  refine⟨?_,?_,?_⟩
  ·rw[order2,if_neg (by rw[dc,cj c1];simp)]
  ·rw[order2,if_neg (by rw[dc,cj c1];simp)];exact lT
  ·exact au
open Go.Sort in
theorem vC (d:Array ByteArray){n a b sw:Nat}(ha:a<n)(hb:b<n):(Go.Sort.order2 strLt d a b sw).1<n∧(Go.Sort.order2 strLt d a b sw).2.1<n∧(Go.Sort.order2 strLt d a b sw).2.2≤sw+1:=by
 unfold Go.Sort.order2
 split
 ·exact⟨hb,ha,Nat.le_refl _⟩
 ·exact⟨ha,hb,Nat.le_succ _⟩
open Go.Sort in
theorem zm (c n p sw:Nat)(d:Array ByteArray)(a b e:Nat)(H:af)(hn:d.size=n)(hc:H[c]?=some (.cells (aE eS d.toList)))(hp:H[p]?=some (.cells [.int .i64 sw]))(px:¬c=p)(ha:a<n)(hb:b<n)(he:e<n)(hs:n<2305843009213693951)(O1:sw<900) :
  W env (.call 160 [.ax c 0 n 1,.int .i64 a,.int .i64 b,.int .i64 e,.ptr p 0]) H (fun o H'=>Ki p (median strLt d a b e sw) H o H'∧(median strLt d a b e sw).1<n∧(median strLt d a b e sw).2≤sw+3):=by
 refine W.bU rfl rfl rfl ?_
 simp -implicitDefEqProofs only[Gg,op,ef,cl,sq,reduceIte,j4,j5,j6,j7,j8,j9,y1,y2,y3,S1]
 refine ae _ _ _ _ _ _ _ _ (zl c n p sw d a b _ hn hc hp ha hb hs (by omega)) ?_
 rintro u H1⟨hu,lT,pw⟩
 cases hu
 have jl:=pw.get hc px
 obtain⟨r1,CX⟩:∃r,r=order2 strLt d a b sw:=⟨_,rfl⟩
 obtain⟨q1,q2,q3⟩:=vC d (sw:=sw) ha hb
 rw[←CX]at q1 q2 q3 lT ⊢
 try simp -implicitDefEqProofs only[op,ef,cl,sq,reduceIte,j4,j5,j6,j7,j8,j9,y1,y2,y3,S1]
 refine ae _ _ _ _ _ _ _ _ (zl c n p r1.2.2 d r1.2.1 e _ hn jl lT q2 he hs (by omega)) ?_
 rintro u H2⟨hu,nA,ea⟩
 cases hu
 have oK:=ea.get jl px
 obtain⟨r2,uY⟩:∃r,r=order2 strLt d r1.2.1 e r1.2.2:=⟨_,rfl⟩
 obtain⟨q4,q5,q6⟩:=vC d (sw:=r1.2.2) q2 he
 rw[←uY]at q4 q5 q6 nA ⊢
 try simp -implicitDefEqProofs only[op,ef,cl,sq,reduceIte,j4,j5,j6,j7,j8,j9,y1,y2,y3,S1]
 refine ae _ _ _ _ _ _ _ _ (zl c n p r2.2.2 d r1.1 r2.1 _ hn oK nA q1 q4 hs (by omega)) ?_
 rintro u H3⟨hu,Kj,py⟩
 cases hu
 obtain⟨q7,q8,q9⟩:=vC d (sw:=r2.2.2) q1 q4
 have e:median strLt d a b e sw=((order2 strLt d r1.1 r2.1 r2.2.2).2.1,(order2 strLt d r1.1 r2.1 r2.2.2).2.2):=by rw[median,←CX,←uY]
 rw[e]
 try simp -implicitDefEqProofs only[op,ef,cl,sq,reduceIte,j4,j5,j6,j7,j8,j9,y1,y2,y3,S1]
 exact⟨⟨rfl,Kj,(pw.trans ea fun _ h=>.inl h).trans py fun _ h=>.inl h⟩,q8,by omega⟩
open Go.Sort in
theorem vD (c n p sw:Nat)(d:Array ByteArray)(a:Nat)(H:af)(hn:d.size=n)(hc:H[c]?=some (.cells (aE eS d.toList)))(hp:H[p]?=some (.cells [.int .i64 sw]))(px:¬c=p)(ha:1≤a)(BA:a+1<n)(hs:n<2305843009213693951)(O1:sw<900) :
  W env (.call 159 [.ax c 0 n 1,.int .i64 a,.ptr p 0]) H (fun o H'=>Ki p (medianAdjacent strLt d a sw) H o H'∧(medianAdjacent strLt d a sw).1<n∧(medianAdjacent strLt d a sw).2≤sw+3):=by
 refine W.bU rfl rfl rfl ?_
 simp -implicitDefEqProofs (maxSteps:=1000000) (disch:=omega) only[Gf,aa,aG,aH,aI,aJ,aK,aM,wA,a7,wS,a6,wM,S2,op,ef,cl,sq,reduceIte,j4,j5,j6,j7,j8,j9,y1,y2,y3,S1]
 refine ae _ _ _ _ _ _ _ _ (zm c n p sw d (a-1) a (a+1) _ hn hc hp px (by omega) (by omega) BA hs O1) ?_
 rintro u H1⟨⟨hu,lT,pw⟩,q1,q2⟩
 cases hu
 try simp -implicitDefEqProofs only[op,ef,cl,sq,reduceIte,j4,j5,j6,j7,j8,j9,y1,y2,y3,S1]
 exact⟨⟨rfl,lT,pw⟩,q1,q2⟩
open Go.Sort in
theorem GJ (c n:Nat)(d:Array ByteArray)(a b:Nat)(H:af)(hn:d.size=n)(hc:H[c]?=some (.cells (aE eS d.toList)))(hb:b≤n)(gy:a+12<b)(hs:n<1305843009213693951) :
  W env (.call 145 [.ax c 0 n 1,.int .i64 a,.int .i64 b]) H (fun o H'=>o=.val (.bJ [.int .i64 (choosePivot strLt d a b).1,.int .i64 (gK (choosePivot strLt d a b).2)])∧Ext H H'):=by
 refine W.bU rfl rfl rfl ?_
 have h8:8≤b-a:=by omega
 have lc:=aY hc
 have px:¬c=H.length:=by omega
 have mV:(H++[B.cells [T.int IntKind.i64 0]])[c]?=some (.cells (aE eS d.toList)):=by rw[aQ lc];exact hc
 have T0:(H++[B.cells [T.int IntKind.i64 0]])[H.length]?=some (.cells [.int .i64 ((0:Nat):Int)]):=aO rfl
 have fin:∀H2:af,bm (fun x=>x=H.length) (H++[B.cells [T.int IntKind.i64 0]]) H2→Ext H H2:=fun H2 hf=>nj fun x y hx=>hf.get (by rw[aQ (aY hx)];exact hx) (by have:=aY hx;omega)
 by_cases vA:50≤b-a
 ·simp -implicitDefEqProofs (maxSteps:=1000000) (disch:=omega) only[AE,aa,aG,aH,aI,aJ,aK,aM,wA,a7,wS,a6,wM,S2,op,ef,cl,sq,reduceIte,j4,j5,j6,j7,j8,j9,y1,y2,y3,S1,C5,Wu,C6,Wv,h8,vA]
  refine ae _ _ _ _ _ _ _ _ (vD c n H.length 0 d _ _ hn mV T0 px (by omega) (by omega) (by omega) (by omega)) ?_
  rintro u H1⟨⟨hu,lT,pw⟩,q1,q2⟩
  cases hu
  obtain⟨ri,mc⟩:∃r,r=medianAdjacent strLt d (a+(b-a)/4*1) 0:=⟨_,rfl⟩
  rw[←mc]at q1 q2 lT ⊢
  have jl:=pw.get mV px
  try simp -implicitDefEqProofs only[op,ef,cl,sq,reduceIte,j4,j5,j6,j7,j8,j9,y1,y2,y3,S1]
  refine ae _ _ _ _ _ _ _ _ (vD c n H.length ri.2 d _ _ hn jl lT px (by omega) (by omega) (by omega) (by omega)) ?_
  rintro u H2⟨⟨hu,nA,ea⟩,q3,q4⟩
  cases hu
  obtain⟨rj,T1⟩:∃r,r=medianAdjacent strLt d (a+(b-a)/4*2) ri.2:=⟨_,rfl⟩
  rw[←T1]at q3 q4 nA ⊢
  have oK:=ea.get jl px
  try simp -implicitDefEqProofs only[op,ef,cl,sq,reduceIte,j4,j5,j6,j7,j8,j9,y1,y2,y3,S1]
  refine ae _ _ _ _ _ _ _ _ (vD c n H.length rj.2 d _ _ hn oK nA px (by omega) (by omega) (by omega) (by omega)) ?_
  rintro u H3⟨⟨hu,Kj,py⟩,q5,q6⟩
  cases hu
  obtain⟨rk,T2⟩:∃r,r=medianAdjacent strLt d (a+(b-a)/4*3) rj.2:=⟨_,rfl⟩
  rw[←T2]at q5 q6 Kj ⊢
  have QM:=py.get oK px
  try simp -implicitDefEqProofs only[op,ef,cl,sq,reduceIte,j4,j5,j6,j7,j8,j9,y1,y2,y3,S1]
  refine ae _ _ _ _ _ _ _ _ (zm c n H.length rk.2 d ri.1 rj.1 rk.1 _ hn QM Kj px q1 q3 q5 (by omega) (by omega)) ?_
  rintro u H4⟨⟨hu,pz,yg⟩,q7,q8⟩
  cases hu
  have e:choosePivot strLt d a b=((median strLt d ri.1 rj.1 rk.1 rk.2).1,if (median strLt d ri.1 rj.1 rk.1 rk.2).2=0 then .increasing else if (median strLt d ri.1 rj.1 rk.1 rk.2).2=12 then .decreasing else .unknown):=by
   simp -implicitDefEqProofs only[choosePivot,ge_iff_le,if_pos h8,if_pos vA,←mc,←T1,←T2]
  rw[e]
  have hx:=fin _ (((pw.trans ea fun _ h=>.inl h).trans py fun _ h=>.inl h).trans yg fun _ h=>.inl h)
  generalize median strLt d ri.1 rj.1 rk.1 rk.2=r at *
  obtain⟨m,sw⟩:=r
  simp only at pz ⊢
  by_cases s0:sw=0
  ·subst s0
   have e0:(((0:Nat):Int)==0)=true:=rfl
   simp -implicitDefEqProofs only[op,ef,cl,sq,reduceIte,j4,j5,j6,j7,j8,j9,y1,y2,y3,S1,pz,e0]
   exact⟨rfl,hx⟩
  have e0:(((sw:Nat):Int)==0)=false:=by simp;omega
  by_cases s1:sw=12
  ·subst s1
   have e1:(((12:Nat):Int)==12)=true:=rfl
   simp -implicitDefEqProofs only[op,ef,cl,sq,reduceIte,j4,j5,j6,j7,j8,j9,y1,y2,y3,S1,pz,e0,e1]
   exact⟨rfl,hx⟩
  have e1:(((sw:Nat):Int)==12)=false:=by simp;omega
  simp -implicitDefEqProofs only[op,ef,cl,sq,reduceIte,j4,j5,j6,j7,j8,j9,y1,y2,y3,S1,pz,e0,e1,s0,s1]
  exact⟨rfl,hx⟩
 ·simp -implicitDefEqProofs (maxSteps:=1000000) (disch:=omega) only[AE,aa,aG,aH,aI,aJ,aK,aM,wA,a7,wS,a6,wM,S2,op,ef,cl,sq,reduceIte,j4,j5,j6,j7,j8,j9,y1,y2,y3,S1,C5,Wu,C6,Wv,h8,vA]
  refine ae _ _ _ _ _ _ _ _ (zm c n H.length 0 d _ _ _ _ hn mV T0 px (by omega) (by omega) (by omega) (by omega) (by omega)) ?_
  rintro u H4⟨⟨hu,pz,yg⟩,q7,q8⟩
  cases hu
  have e:choosePivot strLt d a b=((median strLt d (a+(b-a)/4*1) (a+(b-a)/4*2) (a+(b-a)/4*3) 0).1,if (median strLt d (a+(b-a)/4*1) (a+(b-a)/4*2) (a+(b-a)/4*3) 0).2=0 then .increasing else if (median strLt d (a+(b-a)/4*1) (a+(b-a)/4*2) (a+(b-a)/4*3) 0).2=12 then .decreasing else .unknown):=by
   simp -implicitDefEqProofs only[choosePivot,ge_iff_le,if_pos h8,if_neg vA]
  rw[e]
  have hx:=fin _ yg
  generalize median strLt d (a+(b-a)/4*1) (a+(b-a)/4*2) (a+(b-a)/4*3) 0=r at *
  obtain⟨m,sw⟩:=r
  simp only at pz ⊢
  by_cases s0:sw=0
  ·subst s0
   have e0:(((0:Nat):Int)==0)=true:=rfl
   simp -implicitDefEqProofs only[op,ef,cl,sq,reduceIte,j4,j5,j6,j7,j8,j9,y1,y2,y3,S1,pz,e0]
   exact⟨rfl,hx⟩
  have e0:(((sw:Nat):Int)==0)=false:=by simp;omega
  by_cases s1:sw=12
  ·subst s1
   have e1:(((12:Nat):Int)==12)=true:=rfl
   simp -implicitDefEqProofs only[op,ef,cl,sq,reduceIte,j4,j5,j6,j7,j8,j9,y1,y2,y3,S1,pz,e0,e1]
   exact⟨rfl,hx⟩
  have e1:(((sw:Nat):Int)==12)=false:=by simp;omega
  simp -implicitDefEqProofs only[op,ef,cl,sq,reduceIte,j4,j5,j6,j7,j8,j9,y1,y2,y3,S1,pz,e0,e1,s0,s1]
  exact⟨rfl,hx⟩
def xO (a len md:Nat)(d:Array ByteArray):Nat→UInt64×Array ByteArray
 | 0=>(UInt64.ofNat len,d)
 | j+1=>Go.Sort.breakStep a len md (xO a len md d j) (a+len/4*2-1+j)
open Go.Sort in
theorem KA (c n:Nat)(d:Array ByteArray)(a b:Nat)(H:af)(hn:d.size=n)(hc:H[c]?=some (.cells (aE eS d.toList)))(hb:b≤n)(gy:a+12<b)(hs:n<16777216) :
  W env (.call 144 [.ax c 0 n 1,.int .i64 a,.int .i64 b]) H (rL c n (breakPatterns d a b) H):=by
 refine W.bU rfl rfl rfl ?_
 have h8:8≤b-a:=by omega
 have lc:=aY hc
 obtain⟨len,hlen⟩:∃len,len=b-a:=⟨_,rfl⟩
 have wl:IntKind.u64.wrap ((len:Nat):Int)=(len:Int):=pU (by omega)
 rw[←hlen]at h8
 simp -implicitDefEqProofs (maxSteps:=1000000) (disch:=omega) only[FW,aa,aG,aH,aI,aJ,aK,aM,wA,a7,wS,a6,wM,S2,op,ef,cl,sq,reduceIte,j4,j5,j6,j7,j8,j9,y1,y2,y3,S1,C5,C6,←hlen,wl,h8]
 refine ae _ _ _ _ _ _ _ _ (GB len (by omega) _) ?_
 rintro u H1⟨hu,rfl⟩
 cases hu
 obtain⟨md,T6⟩:∃md,md=1 <<< bitsLen len:=⟨_,rfl⟩
 have Nv:=xM (n:=len) (by omega)
 have Ke:1≤1 <<< bitsLen len:=by rw[Nat.one_shiftLeft];exact Nat.one_le_two_pow
 rw[←T6]at Ke Nv ⊢
 have hq:len/4*2≤len:=by omega
 obtain⟨ix,wG⟩:∃ix,ix=a+len/4*2-1:=⟨_,rfl⟩
 have uZ:breakPatterns d a b=(xO a len md d 3).2:=by
  simp -implicitDefEqProofs only[breakPatterns,←hlen,ge_iff_le,if_pos h8,xO,←T6,Nat.add_zero]
 simp -implicitDefEqProofs (maxSteps:=1000000) (disch:=omega) only[aa,aG,aH,aI,aJ,aK,aM,wA,a7,wS,a6,wM,S2,op,ef,cl,sq,reduceIte,j4,j5,j6,j7,j8,j9,y1,y2,y3,S1,C5,C6,←wG]
 have jl:(H++[B.cells [T.int IntKind.u64 len]])[c]?=some (.cells (aE eS d.toList)):=by rw[aQ lc];exact hc
 have lT:(H++[B.cells [T.int IntKind.u64 len]])[H.length]?=some (.cells [.int .u64 (UInt64.ofNat len).toNat]):=by
  rw[aO rfl,UInt64.toNat_ofNat_of_lt' (by show len<18446744073709551616;omega)]
 refine W.cH (fun (j:Nat) R H'=>At H' (fun H'=>∃d':Array ByteArray,H'[c]?=some (.cells (aE eS d'.toList))∧d'.size=n∧d'=(xO a len md d j).2∧H'[H.length]?=some (.cells [.int .u64 (xO a len md d j).1.toNat])∧bm (fun x=>x=c∨x=H.length) (H++[B.cells [T.int IntKind.u64 len]]) H')∧R 0=.ax c 0 n 1∧R 1=.int .i64 a∧R 6=.int .i64 len∧R 7=.ptr H.length 0∧R 8=.int .u64 md∧R 9=.int .i64 (ix+j:Nat)∧j≤3) (fun j=>3-j) 0 ⟨.i ⟨d,jl,hn,rfl,lT,bm.refl _ _⟩,rfl,rfl,rfl,rfl,rfl,rfl,by omega⟩ ?_
 rintro j R H1⟨⟨di,hd,a9,T7,hp,au⟩,h0,h1,Kq,h9,aF,ba,hj⟩
 by_cases hj3:j<3
 ·have hle:ix+j≤a+len/4*2+1:=by omega
  simp -implicitDefEqProofs (maxSteps:=1000000) (disch:=omega) only[aa,aG,aH,aI,aJ,aK,aM,wA,a7,wS,a6,wM,S2,op,ef,cl,sq,reduceIte,j4,j5,j6,j7,j8,j9,y1,y2,y3,S1,C5,C6,h0,h1,Kq,h9,aF,ba,hle]
  refine ae _ _ _ _ _ _ _ _ (Mj H.length _ _ hp) ?_
  rintro u H2⟨hu,nA,ea⟩
  cases hu
  have hd:=ea.get hd (by omega)
  have yh:=aY hd
  obtain⟨r,hr⟩:∃r,r=xorNext (xO a len md d j).1:=⟨_,rfl⟩
  rw[←hr]at nA ⊢
  obtain⟨ot,Kr⟩:∃ot,ot=r.toNat &&& (md-1):=⟨_,rfl⟩
  have hol:ot≤md-1:=by rw[Kr];exact Nat.and_le_right
  have bV:xO a len md d (j+1)=(r,swp di (ix+j) (a+if ot≥len then ot-len else ot)):=by
   simp -implicitDefEqProofs only[xO,breakStep,←hr,←T7,←Kr,←wG]
  have bK:¬(c=H.length):=by omega
  by_cases eu:len≤ot
  ·rw[if_pos eu]at bV
   simp -implicitDefEqProofs (maxSteps:=1000000) (disch:=omega) only[aa,aG,aH,aI,aJ,aK,aM,wA,a7,wS,a6,wM,S2,op,ef,cl,sq,reduceIte,j4,j5,j6,j7,j8,j9,y1,y2,y3,S1,Ww,AK,wN,←Kr,h0,h1,Kq,h9,aF,ba,eu,hd,yh]
   refine⟨j+1,by omega,.i ⟨swp di (ix+j) (a+(ot-len)),bX (by rw[List.length_set];exact yh),by rw[swp_size];exact a9,by rw[bV],?_,((au.trans ea fun x h=>.inl (.inr h)).set (.inl (.inl rfl)) _).set (.inl (.inl rfl)) _⟩,rfl,by omega⟩
   rw[bj bK,bj bK,nA,bV]
  ·rw[if_neg eu]at bV
   simp -implicitDefEqProofs (maxSteps:=1000000) (disch:=omega) only[aa,aG,aH,aI,aJ,aK,aM,wA,a7,wS,a6,wM,S2,op,ef,cl,sq,reduceIte,j4,j5,j6,j7,j8,j9,y1,y2,y3,S1,Ww,AK,wN,←Kr,h0,h1,Kq,h9,aF,ba,eu,hd,yh]
   refine⟨j+1,by omega,.i ⟨swp di (ix+j) (a+ot),bX (by rw[List.length_set];exact yh),by rw[swp_size];exact a9,by rw[bV],?_,((au.trans ea fun x h=>.inl (.inr h)).set (.inl (.inl rfl)) _).set (.inl (.inl rfl)) _⟩,rfl,by omega⟩
   rw[bj bK,bj bK,nA,bV]
 ·have y6:j=3:=by omega
  subst y6
  have hle:¬(ix+3≤a+len/4*2+1):=by omega
  simp -implicitDefEqProofs (maxSteps:=1000000) (disch:=omega) only[aa,aG,aH,aI,aJ,aK,aM,wA,a7,wS,a6,wM,S2,op,ef,cl,sq,reduceIte,j4,j5,j6,j7,j8,j9,y1,y2,y3,S1,C5,C6,h0,h1,Kq,h9,aF,ba,hle]
  exact⟨rfl,di,hd,a9,by rw[uZ,T7],(aB (F:=fun x=>x=c) (H:=H) (H':=H++[B.cells [T.int IntKind.u64 len]]) ⟨_,rfl⟩).trans au fun x h=>h.elim .inl fun e=>.inr (by omega)⟩
open Go.Sort in
theorem kg {p:ByteArray→Bool}{d:Array ByteArray}{i k:Nat}(h:1≤i):scanDown p d i k=if (decide (i≤k)&&p d[k]!)=true then scanDown p d i (k-1)else k:=by
 cases k with
 | zero=>rw[scanDown,if_neg (dt (cj (by omega)))]
 | succ k=>rw[scanDown];rfl
open Go.Sort in
theorem KB {a i j si sj:Nat}{d:Array ByteArray}(hi:si=scanUp (fun x=>!strLt d[a]! x) d j i)(hj:sj=scanDown (fun x=>strLt d[a]! x) d si j):partEqLoop strLt a i j d=if si>sj then(si,d)else if (sj-1)+1-(si+1)<j+1-i then partEqLoop strLt a (si+1) (sj-1) (swp d si sj)else(si,d):=by
 subst hi;subst hj
 rw[partEqLoop]
 rfl
open Go.Sort in
theorem Uj (c n:Nat)(d:Array ByteArray)(a b pv:Nat)(H:af)(hn:d.size=n)(hc:H[c]?=some (.cells (aE eS d.toList)))(hb:b≤n)(gy:a<b)(mD:pv<n)(hs:n<2305843009213693951) :
  W env (.call 149 [.ax c 0 n 1,.int .i64 a,.int .i64 b,.int .i64 pv]) H (fun o H'=>o=.val (.int .i64 (partitionEqual strLt d a b pv).1)∧iv c n H (fun x=>x=(partitionEqual strLt d a b pv).2) H'):=by
 refine W.bU rfl rfl rfl ?_
 have hd:=hc
 have lc:=aY hd
 simp -implicitDefEqProofs (maxSteps:=1000000) (disch:=omega) only[F4,aa,aG,aH,aI,aJ,aK,aM,wA,a7,wS,a6,wM,S2,op,ef,cl,sq,reduceIte,j4,j5,j6,j7,j8,j9,y1,y2,y3,S1,hd,lc]
 obtain⟨d1,pO,zb,e1,pw⟩:=iv.swp (n:=n) (P:=fun x=>x=swp d a pv) (x:=.cells (aE eS (d.toList.set a d[pv]!))) hd (by rw[Go.Sort.swp_size];exact hn) rfl (bm.refl (fun x=>x=c) H)
 subst e1
 generalize ((H.set c (.cells (aE eS (d.toList.set a d[pv]!)))).set c (.cells (aE eS (swp d a pv).toList)))=H1 at *
 refine W.cP 0 (fun (q:Nat×Nat) R H'=>At H' (fun H'=>iv c n H (fun di=>partEqLoop strLt a q.1 q.2 di=partitionEqual strLt d a b pv) H')∧R 0=.ax c 0 n 1∧R 1=.int .i64 a∧R 0=.ax c 0 n 1∧R 9=.int .i64 q.1∧R 10=.int .i64 q.2∧a<q.1∧q.2<n∧q.1≤n) (fun q=>q.2+1-q.1) (a+1,b-1)
  (fun R H'=>At H' (fun H'=>iv c n H (fun di=>di=(partitionEqual strLt d a b pv).2) H')∧R 9=.int .i64 (partitionEqual strLt d a b pv).1) ⟨.i ⟨_,pO,zb,rfl,pw⟩,rfl,rfl,rfl,rfl,rfl,by omega,by simp only;omega,by simp only;omega⟩ ?_ ?_
 ·rintro⟨i,j⟩ R H1 ⟨⟨di,hd,a9,hP,au⟩,h0,h1,h4,ba,aD,Gw,yF,iW⟩
  simp only at hP ba aD Gw yF iW ⊢
  simp -implicitDefEqProofs only[op,ef,cl,sq,reduceIte,j4,j5,j6,j7,j8,j9,y1,y2,y3,S1,h0,h1,h4,ba,aD]
  obtain⟨si,pA⟩:∃si,si=scanUp (fun x=>!strLt di[a]! x) di j i:=⟨_,rfl⟩
  refine W.cP 2 (fun (k:Nat) R H'=>At H' (fun H'=>H'[c]?=some (.cells (aE eS di.toList))∧bm (fun x=>x=c) H H')∧R 0=.ax c 0 n 1∧R 1=.int .i64 a∧R 0=.ax c 0 n 1∧R 9=.int .i64 k∧R 10=.int .i64 j∧i≤k∧k≤n∧scanUp (fun x=>!strLt di[a]! x) di j k=si) (fun k=>j+1-k) i
   (fun R H'=>At H' (fun H'=>H'[c]?=some (.cells (aE eS di.toList))∧bm (fun x=>x=c) H H')∧R 0=.ax c 0 n 1∧R 1=.int .i64 a∧R 0=.ax c 0 n 1∧R 9=.int .i64 si∧R 10=.int .i64 j∧i≤si∧si≤n) ⟨.i ⟨hd,au⟩,h0,h1,h4,ba,aD,Nat.le_refl _,iW,pA.symm⟩ ?_ ?_
  ·rintro k R H2⟨⟨hd,au⟩,h0,h1,h4,ba,aD,rI,mQ,hk⟩
   have lc:=aY hd
   by_cases eM:k≤j
   ·simp -implicitDefEqProofs (maxSteps:=1000000) (disch:=omega) only[aa,aG,aH,aI,aJ,aK,aM,wA,a7,wS,a6,wM,S2,op,ef,cl,sq,reduceIte,j4,j5,j6,j7,j8,j9,y1,y2,y3,S1,h0,h1,h4,ba,aD,eM,hd,lc]
    refine ae _ _ _ _ _ _ _ _ (dS di[a]! di[k]! _) ?_
    rintro u H3⟨hu,jM⟩
    cases hu
    have hx:Ext H2 H3:=by rw[jM];exact Ext.rfl'
    have hd:=hx.get hd
    have lc:=aY hd
    have au:=au.trans (aB (F:=fun _=>False) hx) (fun _ h=>h.elim)
    have dc:strLt di[a]! di[k]! = decide (strLt di[a]! di[k]! = true):=by simp
    by_cases c1:strLt di[a]! di[k]! = true
    ·simp -implicitDefEqProofs (maxSteps:=1000000) (disch:=omega) only[aa,aG,aH,aI,aJ,aK,aM,wA,a7,wS,a6,wM,S2,op,ef,cl,sq,reduceIte,j4,j5,j6,j7,j8,j9,y1,y2,y3,S1,h0,h1,h4,ba,aD,eM,c1]
     rw[scanUp,if_neg (dU (by rw[dc,cn c1];rfl))]at hk
     subst hk
     exact⟨.i ⟨hd,au⟩,rfl,rI,mQ⟩
    ·simp -implicitDefEqProofs (maxSteps:=1000000) (disch:=omega) only[aa,aG,aH,aI,aJ,aK,aM,wA,a7,wS,a6,wM,S2,op,ef,cl,sq,reduceIte,j4,j5,j6,j7,j8,j9,y1,y2,y3,S1,h0,h1,h4,ba,aD,eM,c1]
     rw[scanUp,if_pos (fN (cn eM) (fp (dc.trans (cj c1))))]at hk
     exact⟨k+1,by omega,.i ⟨hd,au⟩,rfl,by omega,by omega,hk⟩
   ·simp -implicitDefEqProofs (maxSteps:=1000000) (disch:=omega) only[op,ef,cl,sq,reduceIte,j4,j5,j6,j7,j8,j9,y1,y2,y3,S1,h0,h1,h4,ba,aD,eM]
    try simp -implicitDefEqProofs only[op,ef,cl,sq,reduceIte,j4,j5,j6,j7,j8,j9,y1,y2,y3,S1,h0,h1,h4,ba,aD,eM]
    rw[scanUp,if_neg (dt (cj eM))]at hk
    subst hk
    exact⟨.i ⟨hd,au⟩,rfl,rI,mQ⟩
  ·rintro R H2⟨⟨hd,au⟩,h0,h1,h4,ba,aD,zi,GC⟩
   simp -implicitDefEqProofs only[op,ef,cl,sq,reduceIte,j4,j5,j6,j7,j8,j9,y1,y2,y3,S1,h0,h1,h4,ba,aD]
   obtain⟨sj,sV⟩:∃sj,sj=scanDown (fun x=>strLt di[a]! x) di si j:=⟨_,rfl⟩
   refine W.cP 4 (fun (k:Nat) R H'=>At H' (fun H'=>H'[c]?=some (.cells (aE eS di.toList))∧bm (fun x=>x=c) H H')∧R 0=.ax c 0 n 1∧R 1=.int .i64 a∧R 0=.ax c 0 n 1∧R 9=.int .i64 si∧R 10=.int .i64 k∧k≤j∧scanDown (fun x=>strLt di[a]! x) di si k=sj) (fun k=>k) j
    (fun R H'=>At H' (fun H'=>H'[c]?=some (.cells (aE eS di.toList))∧bm (fun x=>x=c) H H')∧R 0=.ax c 0 n 1∧R 1=.int .i64 a∧R 0=.ax c 0 n 1∧R 9=.int .i64 si∧R 10=.int .i64 sj∧sj≤j) ⟨.i ⟨hd,au⟩,h0,h1,h4,ba,aD,Nat.le_refl _,sV.symm⟩ ?_ ?_
   ·rintro k R H3⟨⟨hd,au⟩,h0,h1,h4,ba,aD,eM,hk⟩
    have lc:=aY hd
    rw[kg (by omega)]at hk
    by_cases bL:si≤k
    ·simp -implicitDefEqProofs (maxSteps:=1000000) (disch:=omega) only[aa,aG,aH,aI,aJ,aK,aM,wA,a7,wS,a6,wM,S2,op,ef,cl,sq,reduceIte,j4,j5,j6,j7,j8,j9,y1,y2,y3,S1,h0,h1,h4,ba,aD,bL,hd,lc]
     refine ae _ _ _ _ _ _ _ _ (dS di[a]! di[k]! _) ?_
     rintro u H4⟨hu,jM⟩
     cases hu
     have hx:Ext H3 H4:=by rw[jM];exact Ext.rfl'
     have hd:=hx.get hd
     have lc:=aY hd
     have au:=au.trans (aB (F:=fun _=>False) hx) (fun _ h=>h.elim)
     have dc:strLt di[a]! di[k]! = decide (strLt di[a]! di[k]! = true):=by simp
     by_cases c1:strLt di[a]! di[k]! = true
     ·simp -implicitDefEqProofs (maxSteps:=1000000) (disch:=omega) only[aa,aG,aH,aI,aJ,aK,aM,wA,a7,wS,a6,wM,S2,op,ef,cl,sq,reduceIte,j4,j5,j6,j7,j8,j9,y1,y2,y3,S1,h0,h1,h4,ba,aD,bL,c1]
      rw[if_pos (fN (cn bL) (dc.trans (cn c1)))]at hk
      exact⟨k-1,by omega,.i ⟨hd,au⟩,rfl,by omega,hk⟩
     ·simp -implicitDefEqProofs (maxSteps:=1000000) (disch:=omega) only[aa,aG,aH,aI,aJ,aK,aM,wA,a7,wS,a6,wM,S2,op,ef,cl,sq,reduceIte,j4,j5,j6,j7,j8,j9,y1,y2,y3,S1,h0,h1,h4,ba,aD,bL,c1]
      rw[if_neg (dU (dc.trans (cj c1)))]at hk
      subst hk
      exact⟨.i ⟨hd,au⟩,rfl,eM⟩
    ·simp -implicitDefEqProofs only[op,ef,cl,sq,reduceIte,j4,j5,j6,j7,j8,j9,y1,y2,y3,S1,h0,h1,h4,ba,aD,bL]
     rw[if_neg (dt (cj bL))]at hk
     subst hk
     exact⟨.i ⟨hd,au⟩,rfl,eM⟩
   ·rintro R H3⟨⟨hd,au⟩,h0,h1,h4,ba,aD,GD⟩
    have lc:=aY hd
    rw[KB pA sV]at hP
    by_cases kJ:sj<si
    ·rw[if_pos kJ]at hP
     simp -implicitDefEqProofs only[op,ef,cl,sq,reduceIte,j4,j5,j6,j7,j8,j9,y1,y2,y3,S1,h0,h1,h4,ba,aD,kJ]
     exact⟨.i ⟨di,hd,a9,by rw[←hP],au⟩,by rw[←hP]⟩
    ·rw[if_neg kJ,if_pos (by omega)]at hP
     simp -implicitDefEqProofs (maxSteps:=1000000) (disch:=omega) only[aa,aG,aH,aI,aJ,aK,aM,wA,a7,wS,a6,wM,S2,op,ef,cl,sq,reduceIte,j4,j5,j6,j7,j8,j9,y1,y2,y3,S1,h0,h1,h4,ba,aD,kJ,hd,lc]
     exact⟨(si+1,sj-1),by simp only;omega,.i (.swp hd (by rw[swp_size];exact a9) hP au),rfl,rfl,by simp only;omega,by simp only;omega,by simp only;omega⟩
 ·rintro R H1⟨⟨di,hd,a9,hP,au⟩,ba⟩
  simp -implicitDefEqProofs only[op,ef,cl,sq,reduceIte,j4,j5,j6,j7,j8,j9,y1,y2,y3,S1,ba]
  exact⟨di,hd,a9,hP,au⟩
open Go.Sort in
theorem GK {a i j si sj:Nat}{d:Array ByteArray}(hi:si=scanUp (fun x=>strLt x d[a]!) d j i)(hj:sj=scanDown (fun x=>!strLt x d[a]!) d si j):partLoop strLt a i j d=if si>sj then(sj,d)else if (sj-1)+1-(si+1)<j+1-i then partLoop strLt a (si+1) (sj-1) (swp d si sj)else(sj,d):=by
 subst hi;subst hj
 rw[partLoop]
 rfl
open Go.Sort in
theorem Pk (c n:Nat)(d:Array ByteArray)(a b pv:Nat)(H:af)(hn:d.size=n)(hc:H[c]?=some (.cells (aE eS d.toList)))(hb:b≤n)(gy:a<b)(mD:pv<n)(hs:n<2305843009213693951) :
  W env (.call 150 [.ax c 0 n 1,.int .i64 a,.int .i64 b,.int .i64 pv]) H (fun o H'=>o=.val (.bJ [.int .i64 (partition strLt d a b pv).1,.bool (partition strLt d a b pv).2.1])∧iv c n H (fun x=>x=(partition strLt d a b pv).2.2) H'):=by
 refine W.bU rfl rfl rfl ?_
 have hd:=hc
 have lc:=aY hd
 simp -implicitDefEqProofs (maxSteps:=1000000) (disch:=omega) only[F5,aa,aG,aH,aI,aJ,aK,aM,wA,a7,wS,a6,wM,S2,op,ef,cl,sq,reduceIte,j4,j5,j6,j7,j8,j9,y1,y2,y3,S1,hd,lc]
 obtain⟨d1,pO,zb,e1,pw⟩:=iv.swp (n:=n) (P:=fun x=>x=swp d a pv) (x:=.cells (aE eS (d.toList.set a d[pv]!))) hd (by rw[Go.Sort.swp_size];exact hn) rfl (bm.refl (fun x=>x=c) H)
 subst e1
 generalize ((H.set c (.cells (aE eS (d.toList.set a d[pv]!)))).set c (.cells (aE eS (swp d a pv).toList)))=H1 at *
 have hd:=pO
 have au:=pw
 obtain⟨si,pA⟩:∃si,si=scanUp (fun x=>strLt x (swp d a pv)[a]!) (swp d a pv) (b-1) (a+1):=⟨_,rfl⟩
 refine W.cP 0 (fun (k:Nat) R H'=>At H' (fun H'=>H'[c]?=some (.cells (aE eS (swp d a pv).toList))∧bm (fun x=>x=c) H H')∧R 0=.ax c 0 n 1∧R 1=.int .i64 a∧R 0=.ax c 0 n 1∧R 10=.int .i64 k∧R 11=.int .i64 ((b-1):Nat)∧(a+1)≤k∧k≤n∧scanUp (fun x=>strLt x (swp d a pv)[a]!) (swp d a pv) ((b-1)) k=si) (fun k=>(b-1)+1-k) ((a+1))
  (fun R H'=>At H' (fun H'=>H'[c]?=some (.cells (aE eS (swp d a pv).toList))∧bm (fun x=>x=c) H H')∧R 0=.ax c 0 n 1∧R 1=.int .i64 a∧R 0=.ax c 0 n 1∧R 10=.int .i64 si∧R 11=.int .i64 ((b-1):Nat)∧(a+1)≤si∧si≤n) ⟨.i ⟨hd,au⟩,rfl,rfl,rfl,rfl,rfl,Nat.le_refl _,by omega,pA.symm⟩ ?_ ?_
 ·rintro k R H2⟨⟨hd,au⟩,h0,h1,h4,aD,bn,rI,mQ,hk⟩
  have lc:=aY hd
  by_cases eM:k≤(b-1)
  ·simp -implicitDefEqProofs (maxSteps:=1000000) (disch:=omega) only[aa,aG,aH,aI,aJ,aK,aM,wA,a7,wS,a6,wM,S2,op,ef,cl,sq,reduceIte,j4,j5,j6,j7,j8,j9,y1,y2,y3,S1,h0,h1,h4,aD,bn,eM,hd,lc]
   refine ae _ _ _ _ _ _ _ _ (dS (swp d a pv)[k]! (swp d a pv)[a]! _) ?_
   rintro u H3⟨hu,jM⟩
   cases hu
   have hx:Ext H2 H3:=by rw[jM];exact Ext.rfl'
   have hd:=hx.get hd
   have lc:=aY hd
   have au:=au.trans (aB (F:=fun _=>False) hx) (fun _ h=>h.elim)
   have dc:strLt (swp d a pv)[k]! (swp d a pv)[a]! = decide (strLt (swp d a pv)[k]! (swp d a pv)[a]! = true):=by simp
   by_cases c1:strLt (swp d a pv)[k]! (swp d a pv)[a]! = true
   ·simp -implicitDefEqProofs (maxSteps:=1000000) (disch:=omega) only[aa,aG,aH,aI,aJ,aK,aM,wA,a7,wS,a6,wM,S2,op,ef,cl,sq,reduceIte,j4,j5,j6,j7,j8,j9,y1,y2,y3,S1,h0,h1,h4,aD,bn,eM,c1]
    rw[scanUp,if_pos (fN (cn eM) (dc.trans (cn c1)))]at hk
    exact⟨k+1,by omega,.i ⟨hd,au⟩,rfl,by omega,by omega,hk⟩
   ·simp -implicitDefEqProofs (maxSteps:=1000000) (disch:=omega) only[aa,aG,aH,aI,aJ,aK,aM,wA,a7,wS,a6,wM,S2,op,ef,cl,sq,reduceIte,j4,j5,j6,j7,j8,j9,y1,y2,y3,S1,h0,h1,h4,aD,bn,eM,c1]
    rw[scanUp,if_neg (dU (dc.trans (cj c1)))]at hk
    subst hk
    exact⟨.i ⟨hd,au⟩,rfl,rI,mQ⟩
  ·simp -implicitDefEqProofs only[op,ef,cl,sq,reduceIte,j4,j5,j6,j7,j8,j9,y1,y2,y3,S1,h0,h1,h4,aD,bn,eM]
   rw[scanUp,if_neg (dt (cj eM))]at hk
   subst hk
   exact⟨.i ⟨hd,au⟩,rfl,rI,mQ⟩
 ·rintro R H2⟨⟨hd,au⟩,h0,h1,h4,aD,bn,zi,GC⟩
  simp -implicitDefEqProofs only[op,ef,cl,sq,reduceIte,j4,j5,j6,j7,j8,j9,y1,y2,y3,S1,h0,h1,h4,aD,bn]
  obtain⟨sj,sV⟩:∃sj,sj=scanDown (fun x=>!strLt x (swp d a pv)[a]!) (swp d a pv) si (b-1):=⟨_,rfl⟩
  refine W.cP 2 (fun (k:Nat) R H'=>At H' (fun H'=>H'[c]?=some (.cells (aE eS (swp d a pv).toList))∧bm (fun x=>x=c) H H')∧R 0=.ax c 0 n 1∧R 1=.int .i64 a∧R 0=.ax c 0 n 1∧R 10=.int .i64 si∧R 11=.int .i64 k∧k≤(b-1)∧scanDown (fun x=>!strLt x (swp d a pv)[a]!) (swp d a pv) si k=sj) (fun k=>k) ((b-1))
   (fun R H'=>At H' (fun H'=>H'[c]?=some (.cells (aE eS (swp d a pv).toList))∧bm (fun x=>x=c) H H')∧R 0=.ax c 0 n 1∧R 1=.int .i64 a∧R 0=.ax c 0 n 1∧R 10=.int .i64 si∧R 11=.int .i64 sj∧sj≤(b-1)) ⟨.i ⟨hd,au⟩,h0,h1,h4,aD,bn,Nat.le_refl _,sV.symm⟩ ?_ ?_
  ·rintro k R H3⟨⟨hd,au⟩,h0,h1,h4,aD,bn,eM,hk⟩
   have lc:=aY hd
   rw[kg (by omega)]at hk
   by_cases bL:si≤k
   ·simp -implicitDefEqProofs (maxSteps:=1000000) (disch:=omega) only[aa,aG,aH,aI,aJ,aK,aM,wA,a7,wS,a6,wM,S2,op,ef,cl,sq,reduceIte,j4,j5,j6,j7,j8,j9,y1,y2,y3,S1,h0,h1,h4,aD,bn,bL,hd,lc]
    refine ae _ _ _ _ _ _ _ _ (dS (swp d a pv)[k]! (swp d a pv)[a]! _) ?_
    rintro u H4⟨hu,jM⟩
    cases hu
    have hx:Ext H3 H4:=by rw[jM];exact Ext.rfl'
    have hd:=hx.get hd
    have lc:=aY hd
    have au:=au.trans (aB (F:=fun _=>False) hx) (fun _ h=>h.elim)
    have dc:strLt (swp d a pv)[k]! (swp d a pv)[a]! = decide (strLt (swp d a pv)[k]! (swp d a pv)[a]! = true):=by simp
    by_cases c1:strLt (swp d a pv)[k]! (swp d a pv)[a]! = true
    ·simp -implicitDefEqProofs (maxSteps:=1000000) (disch:=omega) only[aa,aG,aH,aI,aJ,aK,aM,wA,a7,wS,a6,wM,S2,op,ef,cl,sq,reduceIte,j4,j5,j6,j7,j8,j9,y1,y2,y3,S1,h0,h1,h4,aD,bn,bL,c1]
     rw[if_neg (dU (by rw[dc,cn c1];rfl))]at hk
     subst hk
     exact⟨.i ⟨hd,au⟩,rfl,eM⟩
    ·simp -implicitDefEqProofs (maxSteps:=1000000) (disch:=omega) only[aa,aG,aH,aI,aJ,aK,aM,wA,a7,wS,a6,wM,S2,op,ef,cl,sq,reduceIte,j4,j5,j6,j7,j8,j9,y1,y2,y3,S1,h0,h1,h4,aD,bn,bL,c1]
     rw[if_pos (fN (cn bL) (fp (dc.trans (cj c1))))]at hk
     exact⟨k-1,by omega,.i ⟨hd,au⟩,rfl,by omega,hk⟩
   ·simp -implicitDefEqProofs only[op,ef,cl,sq,reduceIte,j4,j5,j6,j7,j8,j9,y1,y2,y3,S1,h0,h1,h4,aD,bn,bL]
    rw[if_neg (dt (cj bL))]at hk
    subst hk
    exact⟨.i ⟨hd,au⟩,rfl,eM⟩
  ·rintro R H3⟨⟨hd,au⟩,h0,h1,h4,aD,bn,GD⟩
   have lc:=aY hd
   by_cases kJ:sj<si
   ·have e:partition strLt d a b pv=(sj,true,swp (swp d a pv) sj a):=by
     simp -implicitDefEqProofs only[partition,←pA,←sV,gt_iff_lt,if_pos kJ]
    rw[e]
    simp -implicitDefEqProofs (maxSteps:=1000000) (disch:=omega) only[aa,aG,aH,aI,aJ,aK,aM,wA,a7,wS,a6,wM,S2,op,ef,cl,sq,reduceIte,j4,j5,j6,j7,j8,j9,y1,y2,y3,S1,h0,h1,h4,aD,bn,kJ,hd,lc]
    exact .swp hd (by rw[swp_size];exact zb) rfl au
   ·obtain⟨r,hr⟩:∃r,r=partLoop strLt a (si+1) (sj-1) (swp (swp d a pv) si sj):=⟨_,rfl⟩
    have e:partition strLt d a b pv=(r.1,false,swp r.2 r.1 a):=by
     simp -implicitDefEqProofs only[partition,←pA,←sV,gt_iff_lt,if_neg kJ,←hr]
    rw[e]
    simp -implicitDefEqProofs (maxSteps:=1000000) (disch:=omega) only[aa,aG,aH,aI,aJ,aK,aM,wA,a7,wS,a6,wM,S2,op,ef,cl,sq,reduceIte,j4,j5,j6,j7,j8,j9,y1,y2,y3,S1,h0,h1,h4,aD,bn,kJ,hd,lc]
    obtain⟨d2,cr,ir,e2,ea⟩:=iv.swp (n:=n) (P:=fun x=>x=swp (swp d a pv) si sj) (x:=.cells (aE eS ((swp d a pv).toList.set si (swp d a pv)[sj]!))) hd (by rw[swp_size];exact zb) rfl au
    subst e2
    generalize ((H3.set c (.cells (aE eS ((swp d a pv).toList.set si (swp d a pv)[sj]!)))).set c (.cells (aE eS (swp (swp d a pv) si sj).toList)))=H5 at *
    refine W.cP 4 (fun (q:Nat×Nat) R H'=>At H' (fun H'=>iv c n H (fun di=>partLoop strLt a q.1 q.2 di=r) H')∧R 0=.ax c 0 n 1∧R 1=.int .i64 a∧R 0=.ax c 0 n 1∧R 10=.int .i64 q.1∧R 11=.int .i64 q.2∧a<q.1∧q.2<n∧q.1≤n) (fun q=>q.2+1-q.1) (si+1,sj-1)
     (fun R H'=>At H' (fun H'=>iv c n H (fun di=>di=r.2) H')∧R 0=.ax c 0 n 1∧R 1=.int .i64 a∧R 0=.ax c 0 n 1∧R 11=.int .i64 r.1∧r.1<n) ⟨.i ⟨_,cr,ir,hr.symm,ea⟩,?_,?_,?_,?_,?_,by simp only;omega,by simp only;omega,by simp only;omega⟩ ?_ ?_
    ·simp -implicitDefEqProofs only[op,ef,cl,sq,reduceIte,j4,j5,j6,j7,j8,j9,y1,y2,y3,S1,h0]
    ·simp -implicitDefEqProofs only[op,ef,cl,sq,reduceIte,j4,j5,j6,j7,j8,j9,y1,y2,y3,S1,h1]
    ·simp -implicitDefEqProofs only[op,ef,cl,sq,reduceIte,j4,j5,j6,j7,j8,j9,y1,y2,y3,S1,h4]
    ·simp -implicitDefEqProofs only[op,ef,cl,sq,reduceIte,j4,j5,j6,j7,j8,j9,y1,y2,y3,S1,aD]
    ·simp -implicitDefEqProofs only[op,ef,cl,sq,reduceIte,j4,j5,j6,j7,j8,j9,y1,y2,y3,S1,bn]
    ·rintro⟨i,j⟩ R H1 ⟨⟨di,hd,a9,hP,au⟩,h0,h1,h4,aD,bn,Gw,yF,iW⟩
     simp only at hP aD bn Gw yF iW ⊢
     simp -implicitDefEqProofs only[op,ef,cl,sq,reduceIte,j4,j5,j6,j7,j8,j9,y1,y2,y3,S1,h0,h1,h4,aD,bn]
     clear pA sV
     obtain⟨si,pA⟩:∃si,si=scanUp (fun x=>strLt x di[a]!) di j i:=⟨_,rfl⟩
     refine W.cP 6 (fun (k:Nat) R H'=>At H' (fun H'=>H'[c]?=some (.cells (aE eS di.toList))∧bm (fun x=>x=c) H H')∧R 0=.ax c 0 n 1∧R 1=.int .i64 a∧R 0=.ax c 0 n 1∧R 10=.int .i64 k∧R 11=.int .i64 (j:Nat)∧i≤k∧k≤n∧scanUp (fun x=>strLt x di[a]!) di (j) k=si) (fun k=>j+1-k) (i)
      (fun R H'=>At H' (fun H'=>H'[c]?=some (.cells (aE eS di.toList))∧bm (fun x=>x=c) H H')∧R 0=.ax c 0 n 1∧R 1=.int .i64 a∧R 0=.ax c 0 n 1∧R 10=.int .i64 si∧R 11=.int .i64 (j:Nat)∧i≤si∧si≤n) ⟨.i ⟨hd,au⟩,h0,h1,h4,aD,bn,Nat.le_refl _,by omega,pA.symm⟩ ?_ ?_
     ·rintro k R H2⟨⟨hd,au⟩,h0,h1,h4,aD,bn,rI,mQ,hk⟩
      have lc:=aY hd
      by_cases eM:k≤j
      ·simp -implicitDefEqProofs (maxSteps:=1000000) (disch:=omega) only[aa,aG,aH,aI,aJ,aK,aM,wA,a7,wS,a6,wM,S2,op,ef,cl,sq,reduceIte,j4,j5,j6,j7,j8,j9,y1,y2,y3,S1,h0,h1,h4,aD,bn,eM,hd,lc]
       refine ae _ _ _ _ _ _ _ _ (dS di[k]! di[a]! _) ?_
       rintro u H3⟨hu,jM⟩
       cases hu
       have hx:Ext H2 H3:=by rw[jM];exact Ext.rfl'
       have hd:=hx.get hd
       have lc:=aY hd
       have au:=au.trans (aB (F:=fun _=>False) hx) (fun _ h=>h.elim)
       have dc:strLt di[k]! di[a]! = decide (strLt di[k]! di[a]! = true):=by simp
       by_cases c1:strLt di[k]! di[a]! = true
       ·simp -implicitDefEqProofs (maxSteps:=1000000) (disch:=omega) only[aa,aG,aH,aI,aJ,aK,aM,wA,a7,wS,a6,wM,S2,op,ef,cl,sq,reduceIte,j4,j5,j6,j7,j8,j9,y1,y2,y3,S1,h0,h1,h4,aD,bn,eM,c1]
        rw[scanUp,if_pos (fN (cn eM) (dc.trans (cn c1)))]at hk
        exact⟨k+1,by omega,.i ⟨hd,au⟩,rfl,by omega,by omega,hk⟩
       ·simp -implicitDefEqProofs (maxSteps:=1000000) (disch:=omega) only[aa,aG,aH,aI,aJ,aK,aM,wA,a7,wS,a6,wM,S2,op,ef,cl,sq,reduceIte,j4,j5,j6,j7,j8,j9,y1,y2,y3,S1,h0,h1,h4,aD,bn,eM,c1]
        rw[scanUp,if_neg (dU (dc.trans (cj c1)))]at hk
        subst hk
        exact⟨.i ⟨hd,au⟩,rfl,rI,mQ⟩
      ·simp -implicitDefEqProofs only[op,ef,cl,sq,reduceIte,j4,j5,j6,j7,j8,j9,y1,y2,y3,S1,h0,h1,h4,aD,bn,eM]
       rw[scanUp,if_neg (dt (cj eM))]at hk
       subst hk
       exact⟨.i ⟨hd,au⟩,rfl,rI,mQ⟩
     ·rintro R H2⟨⟨hd,au⟩,h0,h1,h4,aD,bn,zi,GC⟩
      simp -implicitDefEqProofs only[op,ef,cl,sq,reduceIte,j4,j5,j6,j7,j8,j9,y1,y2,y3,S1,h0,h1,h4,aD,bn]
      obtain⟨sj,sV⟩:∃sj,sj=scanDown (fun x=>!strLt x di[a]!) di si j:=⟨_,rfl⟩
      refine W.cP 8 (fun (k:Nat) R H'=>At H' (fun H'=>H'[c]?=some (.cells (aE eS di.toList))∧bm (fun x=>x=c) H H')∧R 0=.ax c 0 n 1∧R 1=.int .i64 a∧R 0=.ax c 0 n 1∧R 10=.int .i64 si∧R 11=.int .i64 k∧k≤j∧scanDown (fun x=>!strLt x di[a]!) di si k=sj) (fun k=>k) (j)
       (fun R H'=>At H' (fun H'=>H'[c]?=some (.cells (aE eS di.toList))∧bm (fun x=>x=c) H H')∧R 0=.ax c 0 n 1∧R 1=.int .i64 a∧R 0=.ax c 0 n 1∧R 10=.int .i64 si∧R 11=.int .i64 sj∧sj≤j) ⟨.i ⟨hd,au⟩,h0,h1,h4,aD,bn,Nat.le_refl _,sV.symm⟩ ?_ ?_
      ·rintro k R H3⟨⟨hd,au⟩,h0,h1,h4,aD,bn,eM,hk⟩
       have lc:=aY hd
       rw[kg (by omega)]at hk
       by_cases bL:si≤k
       ·simp -implicitDefEqProofs (maxSteps:=1000000) (disch:=omega) only[aa,aG,aH,aI,aJ,aK,aM,wA,a7,wS,a6,wM,S2,op,ef,cl,sq,reduceIte,j4,j5,j6,j7,j8,j9,y1,y2,y3,S1,h0,h1,h4,aD,bn,bL,hd,lc]
        refine ae _ _ _ _ _ _ _ _ (dS di[k]! di[a]! _) ?_
        rintro u H4⟨hu,jM⟩
        cases hu
        have hx:Ext H3 H4:=by rw[jM];exact Ext.rfl'
        have hd:=hx.get hd
        have lc:=aY hd
        have au:=au.trans (aB (F:=fun _=>False) hx) (fun _ h=>h.elim)
        have dc:strLt di[k]! di[a]! = decide (strLt di[k]! di[a]! = true):=by simp
        by_cases c1:strLt di[k]! di[a]! = true
        ·simp -implicitDefEqProofs (maxSteps:=1000000) (disch:=omega) only[aa,aG,aH,aI,aJ,aK,aM,wA,a7,wS,a6,wM,S2,op,ef,cl,sq,reduceIte,j4,j5,j6,j7,j8,j9,y1,y2,y3,S1,h0,h1,h4,aD,bn,bL,c1]
         rw[if_neg (dU (by rw[dc,cn c1];rfl))]at hk
         subst hk
         exact⟨.i ⟨hd,au⟩,rfl,eM⟩
        ·simp -implicitDefEqProofs (maxSteps:=1000000) (disch:=omega) only[aa,aG,aH,aI,aJ,aK,aM,wA,a7,wS,a6,wM,S2,op,ef,cl,sq,reduceIte,j4,j5,j6,j7,j8,j9,y1,y2,y3,S1,h0,h1,h4,aD,bn,bL,c1]
         rw[if_pos (fN (cn bL) (fp (dc.trans (cj c1))))]at hk
         exact⟨k-1,by omega,.i ⟨hd,au⟩,rfl,by omega,hk⟩
       ·simp -implicitDefEqProofs only[op,ef,cl,sq,reduceIte,j4,j5,j6,j7,j8,j9,y1,y2,y3,S1,h0,h1,h4,aD,bn,bL]
        rw[if_neg (dt (cj bL))]at hk
        subst hk
        exact⟨.i ⟨hd,au⟩,rfl,eM⟩
      ·rintro R H3⟨⟨hd,au⟩,h0,h1,h4,aD,bn,GD⟩
       have lc:=aY hd
       rw[GK pA sV]at hP
       by_cases kJ:sj<si
       ·rw[if_pos kJ]at hP
        simp -implicitDefEqProofs only[op,ef,cl,sq,reduceIte,j4,j5,j6,j7,j8,j9,y1,y2,y3,S1,h0,h1,h4,aD,bn,kJ]
        exact⟨.i ⟨di,hd,a9,by rw[←hP],au⟩,by rw[←hP],by rw[←hP];simp only;omega⟩
       ·rw[if_neg kJ,if_pos (by omega)]at hP
        simp -implicitDefEqProofs (maxSteps:=1000000) (disch:=omega) only[aa,aG,aH,aI,aJ,aK,aM,wA,a7,wS,a6,wM,S2,op,ef,cl,sq,reduceIte,j4,j5,j6,j7,j8,j9,y1,y2,y3,S1,h0,h1,h4,aD,bn,kJ,hd,lc]
        exact⟨(si+1,sj-1),by simp only;omega,.i (.swp hd (by rw[swp_size];exact a9) hP au),rfl,rfl,by simp only;omega,by simp only;omega,by simp only;omega⟩
    ·rintro R H1⟨⟨di,hd,a9,rfl,au⟩,h0,h1,h4,bn,CX⟩
     have lc:=aY hd
     simp -implicitDefEqProofs (maxSteps:=1000000) (disch:=omega) only[aa,aG,aH,aI,aJ,aK,aM,wA,a7,wS,a6,wM,S2,op,ef,cl,sq,reduceIte,j4,j5,j6,j7,j8,j9,y1,y2,y3,S1,h0,h1,h4,bn,hd,lc]
     exact .swp hd (by rw[swp_size];exact a9) rfl au
open Go.Sort in
theorem sW {d:Array ByteArray}{k:Nat}(h:1≤k):shiftDown strLt k d=if (!strLt d[k]! d[k-1]!)=true then d else shiftDown strLt (k-1) (swp d k (k-1)):=by
 cases k with
 | zero=>omega
 | succ k=>rw[shiftDown];rfl
open Go.Sort in
theorem Pl (c n:Nat)(d:Array ByteArray)(a b:Nat)(H:af)(hn:d.size=n)(hc:H[c]?=some (.cells (aE eS d.toList)))(hb:b≤n)(gy:a<b)(hs:n<2305843009213693951) :
  W env (.call 147 [.ax c 0 n 1,.int .i64 a,.int .i64 b]) H (fun o H'=>o=.val (.bool (partialInsertionSort strLt d a b).2)∧iv c n H (fun x=>x=(partialInsertionSort strLt d a b).1) H'):=by
 refine W.bU rfl rfl rfl ?_
 obtain⟨r,hr⟩:∃r,r=partialInsertionSort strLt d a b:=⟨_,rfl⟩
 rw[←hr]
 simp -implicitDefEqProofs (maxSteps:=1000000) (disch:=omega) only[FY,aa,aG,aH,aI,aJ,aK,aM,wA,a7,wS,a6,wM,S2,op,ef,cl,sq,reduceIte,j4,j5,j6,j7,j8,j9,y1,y2,y3,S1]
 refine W.cP 0 (fun (j:Nat) R H'=>At H' (fun H'=>∃i,R 7=.int .i64 (i:Nat)∧a<i∧i≤b∧iv c n H (fun di=>partialIns strLt a b (5-j) i di=r) H')∧R 0=.ax c 0 n 1∧R 1=.int .i64 a∧R 2=.int .i64 b∧R 0=.ax c 0 n 1∧R 8=.int .i64 j∧j≤5) (fun j=>5-j) 0
  (fun R H'=>At H' (fun H'=>iv c n H (fun di=>(di,false)=r) H')) ⟨.i ⟨a+1,rfl,by omega,by omega,d,hc,hn,hr.symm,bm.refl _ _⟩,rfl,rfl,rfl,rfl,rfl,by omega⟩ ?_ ?_
 ·rintro j R H1⟨⟨i,h9,Gw,hib,di,hd,a9,hP,au⟩,h0,h1,h2,h3,aF,hj⟩
  by_cases hj5:j<5
  rotate_left
  ·have:j=5:=by omega
   subst this
   simp -implicitDefEqProofs only[op,ef,cl,sq,reduceIte,j4,j5,j6,j7,j8,j9,y1,y2,y3,S1,h0,h1,h2,h3,aF]
   exact .i ⟨di,hd,a9,hP,au⟩
  obtain⟨s,O6⟩:∃s,5-j=s+1:=⟨4-j,by omega⟩
  have vB:5-(j+1)=s:=by omega
  rw[O6,partialIns]at hP
  simp -implicitDefEqProofs only[op,ef,cl,sq,reduceIte,j4,j5,j6,j7,j8,j9,y1,y2,y3,S1,h0,h1,h2,h3,aF,hj5]
  obtain⟨si,pA⟩:∃si,si=scanSorted strLt di b i:=⟨_,rfl⟩
  rw[←pA]at hP
  refine W.cP 2 (fun (k:Nat) R H'=>At H' (fun H'=>H'[c]?=some (.cells (aE eS di.toList))∧bm (fun x=>x=c) H H')∧R 0=.ax c 0 n 1∧R 1=.int .i64 a∧R 2=.int .i64 b∧R 0=.ax c 0 n 1∧R 7=.int .i64 k∧R 8=.int .i64 j∧i≤k∧k≤b∧scanSorted strLt di b k=si) (fun k=>b-k) i
   (fun R H'=>At H' (fun H'=>H'[c]?=some (.cells (aE eS di.toList))∧bm (fun x=>x=c) H H')∧R 0=.ax c 0 n 1∧R 1=.int .i64 a∧R 2=.int .i64 b∧R 0=.ax c 0 n 1∧R 7=.int .i64 si∧R 8=.int .i64 j∧i≤si∧si≤b) ⟨.i ⟨hd,au⟩,?_,?_,?_,?_,?_,?_,Nat.le_refl _,hib,pA.symm⟩ ?_ ?_
  ·simp -implicitDefEqProofs only[op,ef,cl,sq,reduceIte,j4,j5,j6,j7,j8,j9,y1,y2,y3,S1,h0]
  ·simp -implicitDefEqProofs only[op,ef,cl,sq,reduceIte,j4,j5,j6,j7,j8,j9,y1,y2,y3,S1,h1]
  ·simp -implicitDefEqProofs only[op,ef,cl,sq,reduceIte,j4,j5,j6,j7,j8,j9,y1,y2,y3,S1,h2]
  ·simp -implicitDefEqProofs only[op,ef,cl,sq,reduceIte,j4,j5,j6,j7,j8,j9,y1,y2,y3,S1,h3]
  ·simp -implicitDefEqProofs only[op,ef,cl,sq,reduceIte,j4,j5,j6,j7,j8,j9,y1,y2,y3,S1,h9]
  ·simp -implicitDefEqProofs only[op,ef,cl,sq,reduceIte,j4,j5,j6,j7,j8,j9,y1,y2,y3,S1,aF]
  ·rintro k R H2⟨⟨hd,au⟩,h0,h1,h2,h3,h9,aF,rI,BK,hk⟩
   have lc:=aY hd
   by_cases bL:k<b
   ·simp -implicitDefEqProofs (maxSteps:=1000000) (disch:=omega) only[aa,aG,aH,aI,aJ,aK,aM,wA,a7,wS,a6,wM,S2,op,ef,cl,sq,reduceIte,j4,j5,j6,j7,j8,j9,y1,y2,y3,S1,h0,h1,h2,h3,h9,aF,bL,hd,lc]
    refine ae _ _ _ _ _ _ _ _ (dS di[k]! di[k-1]! _) ?_
    rintro u H3⟨hu,jM⟩
    cases hu
    have hx:Ext H2 H3:=by rw[jM];exact Ext.rfl'
    have hd:=hx.get hd
    have lc:=aY hd
    have au:=au.trans (aB (F:=fun _=>False) hx) (fun _ h=>h.elim)
    have dc:strLt di[k]! di[k-1]! = decide (strLt di[k]! di[k-1]! = true):=by simp
    by_cases c1:strLt di[k]! di[k-1]! = true
    ·simp -implicitDefEqProofs (maxSteps:=1000000) (disch:=omega) only[aa,aG,aH,aI,aJ,aK,aM,wA,a7,wS,a6,wM,S2,op,ef,cl,sq,reduceIte,j4,j5,j6,j7,j8,j9,y1,y2,y3,S1,h0,h1,h2,h3,h9,aF,bL,c1]
     rw[scanSorted,if_neg (dU (by rw[dc,cn c1];rfl))]at hk
     subst hk
     exact⟨.i ⟨hd,au⟩,rfl,rI,BK⟩
    ·simp -implicitDefEqProofs (maxSteps:=1000000) (disch:=omega) only[aa,aG,aH,aI,aJ,aK,aM,wA,a7,wS,a6,wM,S2,op,ef,cl,sq,reduceIte,j4,j5,j6,j7,j8,j9,y1,y2,y3,S1,h0,h1,h2,h3,h9,aF,bL,c1]
     rw[scanSorted,if_pos (fN (cn bL) (fp (dc.trans (cj c1))))]at hk
     exact⟨k+1,by omega,.i ⟨hd,au⟩,rfl,by omega,by omega,hk⟩
   ·simp -implicitDefEqProofs only[op,ef,cl,sq,reduceIte,j4,j5,j6,j7,j8,j9,y1,y2,y3,S1,h0,h1,h2,h3,h9,aF,bL]
    rw[scanSorted,if_neg (dt (cj bL))]at hk
    subst hk
    exact⟨.i ⟨hd,au⟩,rfl,rI,BK⟩
  ·rintro R H2⟨⟨hd,au⟩,h0,h1,h2,h3,h9,aF,zi,aam⟩
   have lc:=aY hd
   by_cases kO:si=b
   ·rw[if_pos kO]at hP
    have e1:((si:Int)==(b:Int))=true:=by rw[kO];simp
    simp -implicitDefEqProofs (maxSteps:=1000000) (disch:=omega) only[aa,aG,aH,aI,aJ,aK,aM,wA,a7,wS,a6,wM,S2,op,ef,cl,sq,reduceIte,j4,j5,j6,j7,j8,j9,y1,y2,y3,S1,h0,h1,h2,h3,h9,aF,e1]
    rw[←hP]
    exact⟨rfl,di,hd,a9,rfl,au⟩
   rw[if_neg kO]at hP
   have e1:((si:Int)==(b:Int))=false:=by simp;omega
   by_cases vA:b-a<50
   ·rw[if_pos vA]at hP
    simp -implicitDefEqProofs (maxSteps:=1000000) (disch:=omega) only[aa,aG,aH,aI,aJ,aK,aM,wA,a7,wS,a6,wM,S2,op,ef,cl,sq,reduceIte,j4,j5,j6,j7,j8,j9,y1,y2,y3,S1,h0,h1,h2,h3,h9,aF,e1,vA]
    rw[←hP]
    exact⟨rfl,di,hd,a9,rfl,au⟩
   rw[if_neg vA]at hP
   simp -implicitDefEqProofs (maxSteps:=1000000) (disch:=omega) only[aa,aG,aH,aI,aJ,aK,aM,wA,a7,wS,a6,wM,S2,op,ef,cl,sq,reduceIte,j4,j5,j6,j7,j8,j9,y1,y2,y3,S1,h0,h1,h2,h3,h9,aF,e1,vA,hd,lc]
   obtain⟨d3,oh⟩:∃d3,d3=if si-a≥2 then shiftDown strLt (si-1) (swp di si (si-1))else swp di si (si-1):=⟨_,rfl⟩
   obtain⟨d4,rJ⟩:∃d4,d4=if b-si≥2 then shiftUp strLt b (si+1) d3 else d3:=⟨_,rfl⟩
   have hP:partialIns strLt a b s si d4=r:=by rw[rJ,oh];exact hP
   obtain⟨d2,cr,ir,e2,ea⟩:=iv.swp (n:=n) (P:=fun x=>x=swp di si (si-1)) (x:=.cells (aE eS (di.toList.set si di[si-1]!))) hd (by rw[swp_size];exact a9) rfl au
   subst e2
   generalize ((H2.set c (.cells (aE eS (di.toList.set si di[si-1]!)))).set c (.cells (aE eS (swp di si (si-1)).toList)))=H5 at *
   by_cases hA:2≤si-a
   ·rw[if_pos hA]at oh
    simp -implicitDefEqProofs (maxSteps:=1000000) (disch:=omega) only[aa,aG,aH,aI,aJ,aK,aM,wA,a7,wS,a6,wM,S2,op,ef,cl,sq,reduceIte,j4,j5,j6,j7,j8,j9,y1,y2,y3,S1,h0,h1,h2,h3,h9,aF,hA]
    refine W.cP 4 (fun (k:Nat) R H'=>At H' (fun H'=>iv c n H (fun dx=>shiftDown strLt k dx=d3) H')∧R 0=.ax c 0 n 1∧R 1=.int .i64 a∧R 2=.int .i64 b∧R 0=.ax c 0 n 1∧R 7=.int .i64 si∧R 8=.int .i64 j∧R 9=.int .i64 k∧k<b) (fun k=>k) (si-1)
     (fun R H'=>At H' (fun H'=>iv c n H (fun dx=>dx=d3) H')∧R 0=.ax c 0 n 1∧R 1=.int .i64 a∧R 2=.int .i64 b∧R 0=.ax c 0 n 1∧R 7=.int .i64 si∧R 8=.int .i64 j) ⟨.i ⟨_,cr,ir,oh.symm,ea⟩,?_,?_,?_,?_,?_,?_,?_,by omega⟩ ?_ ?_
    ·simp -implicitDefEqProofs only[op,ef,cl,sq,reduceIte,j4,j5,j6,j7,j8,j9,y1,y2,y3,S1,h0]
    ·simp -implicitDefEqProofs only[op,ef,cl,sq,reduceIte,j4,j5,j6,j7,j8,j9,y1,y2,y3,S1,h1]
    ·simp -implicitDefEqProofs only[op,ef,cl,sq,reduceIte,j4,j5,j6,j7,j8,j9,y1,y2,y3,S1,h2]
    ·simp -implicitDefEqProofs only[op,ef,cl,sq,reduceIte,j4,j5,j6,j7,j8,j9,y1,y2,y3,S1,h3]
    ·simp -implicitDefEqProofs only[op,ef,cl,sq,reduceIte,j4,j5,j6,j7,j8,j9,y1,y2,y3,S1,h9]
    ·simp -implicitDefEqProofs only[op,ef,cl,sq,reduceIte,j4,j5,j6,j7,j8,j9,y1,y2,y3,S1,aF]
    ·simp -implicitDefEqProofs only[op,ef,cl,sq,reduceIte,j4,j5,j6,j7,j8,j9,y1,y2,y3,S1]
    ·rintro k R H2⟨⟨dx,hd,a9,hk,au⟩,h0,h1,h2,h3,h9,aF,ba,BK⟩
     have lc:=aY hd
     by_cases oW:1≤k
     ·simp -implicitDefEqProofs (maxSteps:=1000000) (disch:=omega) only[aa,aG,aH,aI,aJ,aK,aM,wA,a7,wS,a6,wM,S2,op,ef,cl,sq,reduceIte,j4,j5,j6,j7,j8,j9,y1,y2,y3,S1,h0,h1,h2,h3,h9,aF,ba,oW,hd,lc]
      refine ae _ _ _ _ _ _ _ _ (dS dx[k]! dx[k-1]! _) ?_
      rintro u H3⟨hu,jM⟩
      cases hu
      have hx:Ext H2 H3:=by rw[jM];exact Ext.rfl'
      have hd:=hx.get hd
      have lc:=aY hd
      have au:=au.trans (aB (F:=fun _=>False) hx) (fun _ h=>h.elim)
      have dc:strLt dx[k]! dx[k-1]! = decide (strLt dx[k]! dx[k-1]! = true):=by simp
      rw[sW oW]at hk
      by_cases c1:strLt dx[k]! dx[k-1]! = true
      ·simp -implicitDefEqProofs (maxSteps:=1000000) (disch:=omega) only[aa,aG,aH,aI,aJ,aK,aM,wA,a7,wS,a6,wM,S2,op,ef,cl,sq,reduceIte,j4,j5,j6,j7,j8,j9,y1,y2,y3,S1,h0,h1,h2,h3,h9,aF,ba,oW,hd,lc,c1]
       rw[if_neg (kC (dc.trans (cn c1)))]at hk
       exact⟨k-1,by omega,.i (.swp hd (by rw[swp_size];exact a9) hk au),rfl,by omega⟩
      ·simp -implicitDefEqProofs (maxSteps:=1000000) (disch:=omega) only[aa,aG,aH,aI,aJ,aK,aM,wA,a7,wS,a6,wM,S2,op,ef,cl,sq,reduceIte,j4,j5,j6,j7,j8,j9,y1,y2,y3,S1,h0,h1,h2,h3,h9,aF,ba,oW,hd,lc,c1]
       rw[if_pos (fp (dc.trans (cj c1)))]at hk
       exact .i ⟨dx,hd,a9,hk,au⟩
     ·have Rn:k=0:=by omega
      subst Rn
      simp -implicitDefEqProofs only[op,ef,cl,sq,reduceIte,j4,j5,j6,j7,j8,j9,y1,y2,y3,S1,h0,h1,h2,h3,h9,aF,ba,oW]
      rw[shiftDown]at hk
      exact .i ⟨dx,hd,a9,hk,au⟩
    ·rintro R H2⟨⟨dx,hd,pB,rfl,au⟩,h0,h1,h2,h3,h9,aF⟩
     have lc:=aY hd
     by_cases hB:2≤b-si
     ·simp -implicitDefEqProofs (maxSteps:=1000000) (disch:=omega) only[aa,aG,aH,aI,aJ,aK,aM,wA,a7,wS,a6,wM,S2,op,ef,cl,sq,reduceIte,j4,j5,j6,j7,j8,j9,y1,y2,y3,S1,h0,h1,h2,h3,h9,aF,hB]
      rw[if_pos hB]at rJ
      refine W.cP 6 (fun (k:Nat) R H'=>At H' (fun H'=>iv c n H (fun dx=>shiftUp strLt b k dx=d4) H')∧R 0=.ax c 0 n 1∧R 1=.int .i64 a∧R 2=.int .i64 b∧R 0=.ax c 0 n 1∧R 7=.int .i64 si∧R 8=.int .i64 j∧R 10=.int .i64 k∧1≤k∧k≤b) (fun k=>b-k) (si+1)
       (fun R H'=>At H' (fun H'=>iv c n H (fun dx=>dx=d4) H')∧R 0=.ax c 0 n 1∧R 1=.int .i64 a∧R 2=.int .i64 b∧R 0=.ax c 0 n 1∧R 7=.int .i64 si∧R 8=.int .i64 j) ⟨.i ⟨dx,hd,pB,rJ.symm,au⟩,?_,?_,?_,?_,?_,?_,?_,by omega,by omega⟩ ?_ ?_
      ·simp -implicitDefEqProofs only[op,ef,cl,sq,reduceIte,j4,j5,j6,j7,j8,j9,y1,y2,y3,S1,h0]
      ·simp -implicitDefEqProofs only[op,ef,cl,sq,reduceIte,j4,j5,j6,j7,j8,j9,y1,y2,y3,S1,h1]
      ·simp -implicitDefEqProofs only[op,ef,cl,sq,reduceIte,j4,j5,j6,j7,j8,j9,y1,y2,y3,S1,h2]
      ·simp -implicitDefEqProofs only[op,ef,cl,sq,reduceIte,j4,j5,j6,j7,j8,j9,y1,y2,y3,S1,h3]
      ·simp -implicitDefEqProofs only[op,ef,cl,sq,reduceIte,j4,j5,j6,j7,j8,j9,y1,y2,y3,S1,h9]
      ·simp -implicitDefEqProofs only[op,ef,cl,sq,reduceIte,j4,j5,j6,j7,j8,j9,y1,y2,y3,S1,aF]
      ·simp -implicitDefEqProofs only[op,ef,cl,sq,reduceIte,j4,j5,j6,j7,j8,j9,y1,y2,y3,S1]
      ·rintro k R H2⟨⟨dx,hd,a9,hk,au⟩,h0,h1,h2,h3,h9,aF,aD,oW,BK⟩
       have lc:=aY hd
       by_cases bL:k<b
       ·simp -implicitDefEqProofs (maxSteps:=1000000) (disch:=omega) only[aa,aG,aH,aI,aJ,aK,aM,wA,a7,wS,a6,wM,S2,op,ef,cl,sq,reduceIte,j4,j5,j6,j7,j8,j9,y1,y2,y3,S1,h0,h1,h2,h3,h9,aF,aD,bL,hd,lc]
        refine ae _ _ _ _ _ _ _ _ (dS dx[k]! dx[k-1]! _) ?_
        rintro u H3⟨hu,jM⟩
        cases hu
        have hx:Ext H2 H3:=by rw[jM];exact Ext.rfl'
        have hd:=hx.get hd
        have lc:=aY hd
        have au:=au.trans (aB (F:=fun _=>False) hx) (fun _ h=>h.elim)
        have dc:strLt dx[k]! dx[k-1]! = decide (strLt dx[k]! dx[k-1]! = true):=by simp
        rw[shiftUp,if_pos bL]at hk
        by_cases c1:strLt dx[k]! dx[k-1]! = true
        ·simp -implicitDefEqProofs (maxSteps:=1000000) (disch:=omega) only[aa,aG,aH,aI,aJ,aK,aM,wA,a7,wS,a6,wM,S2,op,ef,cl,sq,reduceIte,j4,j5,j6,j7,j8,j9,y1,y2,y3,S1,h0,h1,h2,h3,h9,aF,aD,bL,hd,lc,c1]
         rw[if_neg (kC (dc.trans (cn c1)))]at hk
         exact⟨k+1,by omega,.i (.swp hd (by rw[swp_size];exact a9) hk au),rfl,by omega,by omega⟩
        ·simp -implicitDefEqProofs (maxSteps:=1000000) (disch:=omega) only[aa,aG,aH,aI,aJ,aK,aM,wA,a7,wS,a6,wM,S2,op,ef,cl,sq,reduceIte,j4,j5,j6,j7,j8,j9,y1,y2,y3,S1,h0,h1,h2,h3,h9,aF,aD,bL,hd,lc,c1]
         rw[if_pos (fp (dc.trans (cj c1)))]at hk
         exact .i ⟨dx,hd,a9,hk,au⟩
       ·simp -implicitDefEqProofs only[op,ef,cl,sq,reduceIte,j4,j5,j6,j7,j8,j9,y1,y2,y3,S1,h0,h1,h2,h3,h9,aF,aD,bL]
        rw[shiftUp,if_neg bL]at hk
        exact .i ⟨dx,hd,a9,hk,au⟩
      ·rintro R H2⟨⟨dx,hd,a9,rfl,au⟩,h0,h1,h2,h3,h9,aF⟩
       simp -implicitDefEqProofs (maxSteps:=1000000) (disch:=omega) only[aa,aG,aH,aI,aJ,aK,aM,wA,a7,wS,a6,wM,S2,op,ef,cl,sq,reduceIte,j4,j5,j6,j7,j8,j9,y1,y2,y3,S1,h0,h1,h2,h3,h9,aF]
       exact⟨j+1,by omega,.i ⟨si,rfl,by omega,by omega,dx,hd,a9,by rw[vB];exact hP,au⟩,rfl,by omega⟩
     ·rw[if_neg hB]at rJ
      subst rJ
      simp -implicitDefEqProofs (maxSteps:=1000000) (disch:=omega) only[aa,aG,aH,aI,aJ,aK,aM,wA,a7,wS,a6,wM,S2,op,ef,cl,sq,reduceIte,j4,j5,j6,j7,j8,j9,y1,y2,y3,S1,h0,h1,h2,h3,h9,aF,hB]
      exact⟨j+1,by omega,.i ⟨si,rfl,by omega,by omega,d4,hd,pB,by rw[vB];exact hP,au⟩,rfl,by omega⟩
   ·rw[if_neg hA]at oh
    simp -implicitDefEqProofs (maxSteps:=1000000) (disch:=omega) only[aa,aG,aH,aI,aJ,aK,aM,wA,a7,wS,a6,wM,S2,op,ef,cl,sq,reduceIte,j4,j5,j6,j7,j8,j9,y1,y2,y3,S1,h0,h1,h2,h3,h9,aF,hA]
    have hd:=cr
    have pB:=ir
    have au:=ea
    rw[←oh]at hd pB
    by_cases hB:2≤b-si
    ·simp -implicitDefEqProofs (maxSteps:=1000000) (disch:=omega) only[aa,aG,aH,aI,aJ,aK,aM,wA,a7,wS,a6,wM,S2,op,ef,cl,sq,reduceIte,j4,j5,j6,j7,j8,j9,y1,y2,y3,S1,h0,h1,h2,h3,h9,aF,hB]
     rw[if_pos hB]at rJ
     refine W.cP 6 (fun (k:Nat) R H'=>At H' (fun H'=>iv c n H (fun dx=>shiftUp strLt b k dx=d4) H')∧R 0=.ax c 0 n 1∧R 1=.int .i64 a∧R 2=.int .i64 b∧R 0=.ax c 0 n 1∧R 7=.int .i64 si∧R 8=.int .i64 j∧R 10=.int .i64 k∧1≤k∧k≤b) (fun k=>b-k) (si+1)
      (fun R H'=>At H' (fun H'=>iv c n H (fun dx=>dx=d4) H')∧R 0=.ax c 0 n 1∧R 1=.int .i64 a∧R 2=.int .i64 b∧R 0=.ax c 0 n 1∧R 7=.int .i64 si∧R 8=.int .i64 j) ⟨.i ⟨d3,hd,pB,rJ.symm,au⟩,?_,?_,?_,?_,?_,?_,?_,by omega,by omega⟩ ?_ ?_
     ·simp -implicitDefEqProofs only[op,ef,cl,sq,reduceIte,j4,j5,j6,j7,j8,j9,y1,y2,y3,S1,h0]
     ·simp -implicitDefEqProofs only[op,ef,cl,sq,reduceIte,j4,j5,j6,j7,j8,j9,y1,y2,y3,S1,h1]
     ·simp -implicitDefEqProofs only[op,ef,cl,sq,reduceIte,j4,j5,j6,j7,j8,j9,y1,y2,y3,S1,h2]
     ·simp -implicitDefEqProofs only[op,ef,cl,sq,reduceIte,j4,j5,j6,j7,j8,j9,y1,y2,y3,S1,h3]
     ·simp -implicitDefEqProofs only[op,ef,cl,sq,reduceIte,j4,j5,j6,j7,j8,j9,y1,y2,y3,S1,h9]
     ·simp -implicitDefEqProofs only[op,ef,cl,sq,reduceIte,j4,j5,j6,j7,j8,j9,y1,y2,y3,S1,aF]
     ·simp -implicitDefEqProofs only[op,ef,cl,sq,reduceIte,j4,j5,j6,j7,j8,j9,y1,y2,y3,S1]
     ·rintro k R H2⟨⟨dx,hd,a9,hk,au⟩,h0,h1,h2,h3,h9,aF,aD,oW,BK⟩
      have lc:=aY hd
      by_cases bL:k<b
      ·simp -implicitDefEqProofs (maxSteps:=1000000) (disch:=omega) only[aa,aG,aH,aI,aJ,aK,aM,wA,a7,wS,a6,wM,S2,op,ef,cl,sq,reduceIte,j4,j5,j6,j7,j8,j9,y1,y2,y3,S1,h0,h1,h2,h3,h9,aF,aD,bL,hd,lc]
       refine ae _ _ _ _ _ _ _ _ (dS dx[k]! dx[k-1]! _) ?_
       rintro u H3⟨hu,jM⟩
       cases hu
       have hx:Ext H2 H3:=by rw[jM];exact Ext.rfl'
       have hd:=hx.get hd
       have lc:=aY hd
       have au:=au.trans (aB (F:=fun _=>False) hx) (fun _ h=>h.elim)
       have dc:strLt dx[k]! dx[k-1]! = decide (strLt dx[k]! dx[k-1]! = true):=by simp
       rw[shiftUp,if_pos bL]at hk
       by_cases c1:strLt dx[k]! dx[k-1]! = true
       ·simp -implicitDefEqProofs (maxSteps:=1000000) (disch:=omega) only[aa,aG,aH,aI,aJ,aK,aM,wA,a7,wS,a6,wM,S2,op,ef,cl,sq,reduceIte,j4,j5,j6,j7,j8,j9,y1,y2,y3,S1,h0,h1,h2,h3,h9,aF,aD,bL,hd,lc,c1]
        rw[if_neg (kC (dc.trans (cn c1)))]at hk
        exact⟨k+1,by omega,.i (.swp hd (by rw[swp_size];exact a9) hk au),rfl,by omega,by omega⟩
       ·simp -implicitDefEqProofs (maxSteps:=1000000) (disch:=omega) only[aa,aG,aH,aI,aJ,aK,aM,wA,a7,wS,a6,wM,S2,op,ef,cl,sq,reduceIte,j4,j5,j6,j7,j8,j9,y1,y2,y3,S1,h0,h1,h2,h3,h9,aF,aD,bL,hd,lc,c1]
        rw[if_pos (fp (dc.trans (cj c1)))]at hk
        exact .i ⟨dx,hd,a9,hk,au⟩
      ·simp -implicitDefEqProofs only[op,ef,cl,sq,reduceIte,j4,j5,j6,j7,j8,j9,y1,y2,y3,S1,h0,h1,h2,h3,h9,aF,aD,bL]
       rw[shiftUp,if_neg bL]at hk
       exact .i ⟨dx,hd,a9,hk,au⟩
     ·rintro R H2⟨⟨dx,hd,a9,rfl,au⟩,h0,h1,h2,h3,h9,aF⟩
      simp -implicitDefEqProofs (maxSteps:=1000000) (disch:=omega) only[aa,aG,aH,aI,aJ,aK,aM,wA,a7,wS,a6,wM,S2,op,ef,cl,sq,reduceIte,j4,j5,j6,j7,j8,j9,y1,y2,y3,S1,h0,h1,h2,h3,h9,aF]
      exact⟨j+1,by omega,.i ⟨si,rfl,by omega,by omega,dx,hd,a9,by rw[vB];exact hP,au⟩,rfl,by omega⟩
    ·rw[if_neg hB]at rJ
     subst rJ
     simp -implicitDefEqProofs (maxSteps:=1000000) (disch:=omega) only[aa,aG,aH,aI,aJ,aK,aM,wA,a7,wS,a6,wM,S2,op,ef,cl,sq,reduceIte,j4,j5,j6,j7,j8,j9,y1,y2,y3,S1,h0,h1,h2,h3,h9,aF,hB]
     exact⟨j+1,by omega,.i ⟨si,rfl,by omega,by omega,d4,hd,pB,by rw[vB];exact hP,au⟩,rfl,by omega⟩
 ·rintro R H1⟨di,hd,a9,hP,au⟩
  try simp -implicitDefEqProofs only[op,ef,cl,sq,reduceIte,j4,j5,j6,j7,j8,j9,y1,y2,y3,S1]
  rw[←hP]
  exact⟨rfl,di,hd,a9,rfl,au⟩
structure xP (R:av)(c n a b b9:Nat)(wb wp:Bool):Prop where
 r0:R 0=.ax c 0 n 1
 r1:R 1=.int .i64 a
 r2:R 2=.int .i64 b
 r3:R 3=.int .i64 b9
 r4:R 0=.ax c 0 n 1
 r10:R 8=.bool wb
 r11:R 9=.bool wp
 Ub:R 10=.int .i64 (b-a:Nat)
open Go.Sort in
theorem Uk (A:C)(hA:(dg eH.body 1).map (eQ · 3)=some A)(c n a b b9:Nat)(wb wp:Bool)(d:Array ByteArray)(R:av)(H0 H:af)(K:Out→af→Prop)(hp:xP R c n a b b9 wb wp)(hd:iv c n H0 (fun x=>x=d) H)(hb:b≤n)(gy:a+12<b)(hs:n<16777216)(hl:1≤b9∧b9<1000)
  (rest:∀R' H',xP R' c n a b (if (!wb)=true then b9-1 else b9) wb wp→iv c n H0 (fun x=>x=if (!wb)=true then breakPatterns d a b else d) H'→K (.ex .normal R') H'):eV env A R H K:=by
 simp[eH,dg,eQ,sq]at hA
 subst hA
 obtain⟨h0,h1,h2,h3,h4,aF,ba,aD⟩:=hp
 obtain⟨di,hc,hn,rfl,au⟩:=hd
 cases wb with
 | true =>
  simp -implicitDefEqProofs (maxSteps:=1000000) (disch:=omega) only[op,ef,cl,sq,reduceIte,j4,j5,j6,j7,j8,j9,y1,y2,y3,S1,h0,h1,h2,h3,h4,aF,ba,aD]
  exact rest _ _ ⟨by simp -implicitDefEqProofs only[op,ef,cl,sq,reduceIte,j4,j5,j6,j7,j8,j9,y1,y2,y3,S1,h0],by simp -implicitDefEqProofs only[op,ef,cl,sq,reduceIte,j4,j5,j6,j7,j8,j9,y1,y2,y3,S1,h1],by simp -implicitDefEqProofs only[op,ef,cl,sq,reduceIte,j4,j5,j6,j7,j8,j9,y1,y2,y3,S1,h2],by simp -implicitDefEqProofs only[op,ef,cl,sq,reduceIte,j4,j5,j6,j7,j8,j9,y1,y2,y3,S1,h3],by simp -implicitDefEqProofs only[op,ef,cl,sq,reduceIte,j4,j5,j6,j7,j8,j9,y1,y2,y3,S1,h4],by simp -implicitDefEqProofs only[op,ef,cl,sq,reduceIte,j4,j5,j6,j7,j8,j9,y1,y2,y3,S1,aF],by simp -implicitDefEqProofs only[op,ef,cl,sq,reduceIte,j4,j5,j6,j7,j8,j9,y1,y2,y3,S1,ba],by simp -implicitDefEqProofs only[op,ef,cl,sq,reduceIte,j4,j5,j6,j7,j8,j9,y1,y2,y3,S1,aD]⟩ ⟨di,hc,hn,rfl,au⟩
 | false =>
  simp -implicitDefEqProofs (maxSteps:=1000000) (disch:=omega) only[op,ef,cl,sq,reduceIte,j4,j5,j6,j7,j8,j9,y1,y2,y3,S1,h0,h1,h2,h3,h4,aF,ba,aD]
  refine ae _ _ _ _ _ _ _ _ (KA c n di a b _ hn hc hb gy hs) ?_
  rintro u H2⟨hu,d2,cr,ir,e2,ea⟩
  cases hu
  simp -implicitDefEqProofs (maxSteps:=1000000) (disch:=omega) only[aa,aG,aH,aI,aJ,aK,aM,wA,a7,wS,a6,wM,S2,op,ef,cl,sq,reduceIte,j4,j5,j6,j7,j8,j9,y1,y2,y3,S1,h0,h1,h2,h3,h4,aF,ba,aD]
  exact rest _ _ ⟨by simp -implicitDefEqProofs only[op,ef,cl,sq,reduceIte,j4,j5,j6,j7,j8,j9,y1,y2,y3,S1,h0],by simp -implicitDefEqProofs only[op,ef,cl,sq,reduceIte,j4,j5,j6,j7,j8,j9,y1,y2,y3,S1,h1],by simp -implicitDefEqProofs only[op,ef,cl,sq,reduceIte,j4,j5,j6,j7,j8,j9,y1,y2,y3,S1,h2],by simp -implicitDefEqProofs only[op,ef,cl,sq,reduceIte,j4,j5,j6,j7,j8,j9,y1,y2,y3,S1],by simp -implicitDefEqProofs only[op,ef,cl,sq,reduceIte,j4,j5,j6,j7,j8,j9,y1,y2,y3,S1,h4],by simp -implicitDefEqProofs only[op,ef,cl,sq,reduceIte,j4,j5,j6,j7,j8,j9,y1,y2,y3,S1,aF],by simp -implicitDefEqProofs only[op,ef,cl,sq,reduceIte,j4,j5,j6,j7,j8,j9,y1,y2,y3,S1,ba],by simp -implicitDefEqProofs only[op,ef,cl,sq,reduceIte,j4,j5,j6,j7,j8,j9,y1,y2,y3,S1,aD]⟩ ⟨d2,cr,ir,e2,au.trans ea fun _ h=>.inl h⟩
open Go.Sort in
theorem Ul (A:C)(hA:(dg eH.body 1).map (eQ · 5)=some A)(c n a b b9:Nat)(wb wp:Bool)(d:Array ByteArray)(pv:Nat)(hi:Hint)(R:av)(H0 H:af)(K:Out→af→Prop)(hp:xP R c n a b b9 wb wp)(bn:R 11=.int .i64 pv)(nk:R 12=.int .i64 (gK hi))(hd:iv c n H0 (fun x=>x=d) H)(hb:b≤n)(gy:a+12<b)(hs:n<16777216)(mD:a≤pv∧pv<b)
  (rest:∀R' H',xP R' c n a b b9 wb wp→R' 11=.int .i64 (if hi=.decreasing then(b-1)-(pv-a)else pv:Nat)→R' 12=.int .i64 (gK (if hi=.decreasing then Hint.increasing else hi))→iv c n H0 (fun x=>x=if hi=.decreasing then reverseRange d a b else d) H'→K (.ex .normal R') H'):eV env A R H K:=by
 simp[eH,dg,eQ,sq]at hA
 subst hA
 obtain⟨h0,h1,h2,h3,h4,aF,ba,aD⟩:=hp
 obtain⟨di,hc,hn,rfl,au⟩:=hd
 have e:((gK hi)==2)=decide (hi=.decreasing):=by cases hi<;>decide
 by_cases hh:hi=.decreasing
 ·rw[decide_eq_true hh]at e
  simp -implicitDefEqProofs (maxSteps:=1000000) (disch:=omega) only[op,ef,cl,sq,reduceIte,j4,j5,j6,j7,j8,j9,y1,y2,y3,S1,h0,h1,h2,h3,h4,aF,ba,aD,bn,nk,e]
  refine ae _ _ _ _ _ _ _ _ (Ui c n di a b _ hn hc hb (by omega) (by omega)) ?_
  rintro u H2⟨hu,d2,cr,ir,e2,ea⟩
  cases hu
  simp -implicitDefEqProofs (maxSteps:=1000000) (disch:=omega) only[aa,aG,aH,aI,aJ,aK,aM,wA,a7,wS,a6,wM,S2,op,ef,cl,sq,reduceIte,j4,j5,j6,j7,j8,j9,y1,y2,y3,S1,h0,h1,h2,h3,h4,aF,ba,aD,bn,nk]
  refine rest _ _ ⟨?_,?_,?_,?_,?_,?_,?_,?_⟩ ?_ ?_ ⟨d2,cr,ir,?_,au.trans ea fun _ h=>.inl h⟩
  all_goals simp -implicitDefEqProofs only[op,ef,cl,sq,reduceIte,j4,j5,j6,j7,j8,j9,y1,y2,y3,S1,h0,h1,h2,h3,h4,aF,ba,aD,if_pos hh,gK]
  exact e2
 ·rw[decide_eq_false hh]at e
  simp -implicitDefEqProofs (maxSteps:=1000000) (disch:=omega) only[op,ef,cl,sq,reduceIte,j4,j5,j6,j7,j8,j9,y1,y2,y3,S1,h0,h1,h2,h3,h4,aF,ba,aD,bn,nk,e]
  refine rest _ _ ⟨?_,?_,?_,?_,?_,?_,?_,?_⟩ ?_ ?_ ⟨di,hc,hn,?_,au⟩
  all_goals simp -implicitDefEqProofs only[op,ef,cl,sq,reduceIte,j4,j5,j6,j7,j8,j9,y1,y2,y3,S1,h0,h1,h2,h3,h4,aF,ba,aD,bn,nk,if_neg hh]
open Go.Sort in
theorem Um (A:C)(hA:(dg eH.body 1).map (eQ · 6)=some A)(c n a b b9:Nat)(wb wp:Bool)(d:Array ByteArray)(pv:Nat)(hi:Hint)(R:av)(H0 H:af)(K:Out→af→Prop)(hp:xP R c n a b b9 wb wp)(bn:R 11=.int .i64 pv)(nk:R 12=.int .i64 (gK hi))(hd:iv c n H0 (fun x=>x=d) H)(hb:b≤n)(gy:a+12<b)(hs:n<16777216)
  (pi:Array ByteArray×Bool) (GF:pi=if (wb&&wp&&hi=.increasing)=true then partialInsertionSort strLt d a b else(d,false))
  (iu:∀R' H',pi.2=true→iv c n H0 (fun x=>x=pi.1) H'→K (.ex .ret R') H')
  (fq:∀R' H',pi.2=false→xP R' c n a b b9 wb wp→R' 11=.int .i64 pv→iv c n H0 (fun x=>x=pi.1) H'→K (.ex .normal R') H'):eV env A R H K:=by
 simp[eH,dg,eQ,sq]at hA
 subst hA
 obtain⟨h0,h1,h2,h3,h4,aF,ba,aD⟩:=hp
 obtain⟨di,hc,hn,rfl,au⟩:=hd
 have e:((gK hi)==1)=decide (hi=.increasing):=by cases hi<;>decide
 have no:(wb&&wp&&decide (hi=.increasing))=false→∀R',xP R' c n a b b9 wb wp→R' 11=.int .i64 pv→K (.ex .normal R') H:=fun h R' q q'=>fq R' H (by rw[GF,h];rfl) q q' ⟨di,hc,hn,by rw[GF,h];rfl,au⟩
 cases wb with
 | false =>
  simp -implicitDefEqProofs only[op,ef,cl,sq,reduceIte,j4,j5,j6,j7,j8,j9,y1,y2,y3,S1,h0,h1,h2,h3,h4,aF,ba,aD,bn,nk]
  refine no rfl _ ⟨?_,?_,?_,?_,?_,?_,?_,?_⟩ ?_
  all_goals simp -implicitDefEqProofs only[op,ef,cl,sq,reduceIte,j4,j5,j6,j7,j8,j9,y1,y2,y3,S1,h0,h1,h2,h3,h4,aF,ba,aD,bn]
 | true =>
  cases wp with
  | false =>
   simp -implicitDefEqProofs only[op,ef,cl,sq,reduceIte,j4,j5,j6,j7,j8,j9,y1,y2,y3,S1,h0,h1,h2,h3,h4,aF,ba,aD,bn,nk]
   refine no rfl _ ⟨?_,?_,?_,?_,?_,?_,?_,?_⟩ ?_
   all_goals simp -implicitDefEqProofs only[op,ef,cl,sq,reduceIte,j4,j5,j6,j7,j8,j9,y1,y2,y3,S1,h0,h1,h2,h3,h4,aF,ba,aD,bn]
  | true =>
   by_cases hh:hi=.increasing
   ·rw[decide_eq_true hh]at e
    rw[decide_eq_true hh]at GF
    simp -implicitDefEqProofs only[op,ef,cl,sq,reduceIte,j4,j5,j6,j7,j8,j9,y1,y2,y3,S1,h0,h1,h2,h3,h4,aF,ba,aD,bn,nk,e]
    refine ae _ _ _ _ _ _ _ _ (Pl c n di a b _ hn hc hb (by omega) (by omega)) ?_
    rintro u H2⟨hu,d2,cr,ir,e2,ea⟩
    cases hu
    rw[if_pos (show(true&&true&&true)=true from rfl)]at GF
    rw[←GF]at e2 ⊢
    cases kQ:pi.2 with
    | true =>
     try simp -implicitDefEqProofs only[op,ef,cl,sq,reduceIte,j4,j5,j6,j7,j8,j9,y1,y2,y3,S1]
     exact iu _ _ kQ ⟨d2,cr,ir,e2,au.trans ea fun _ h=>.inl h⟩
    | false =>
     try simp -implicitDefEqProofs only[op,ef,cl,sq,reduceIte,j4,j5,j6,j7,j8,j9,y1,y2,y3,S1]
     refine fq _ _ kQ ⟨?_,?_,?_,?_,?_,?_,?_,?_⟩ ?_ ⟨d2,cr,ir,e2,au.trans ea fun _ h=>.inl h⟩
     all_goals simp -implicitDefEqProofs only[op,ef,cl,sq,reduceIte,j4,j5,j6,j7,j8,j9,y1,y2,y3,S1,h0,h1,h2,h3,h4,aF,ba,aD,bn]
   ·rw[decide_eq_false hh]at e
    simp -implicitDefEqProofs only[op,ef,cl,sq,reduceIte,j4,j5,j6,j7,j8,j9,y1,y2,y3,S1,h0,h1,h2,h3,h4,aF,ba,aD,bn,nk,e]
    refine no (by rw[decide_eq_false hh];rfl) _ ⟨?_,?_,?_,?_,?_,?_,?_,?_⟩ ?_
    all_goals simp -implicitDefEqProofs only[op,ef,cl,sq,reduceIte,j4,j5,j6,j7,j8,j9,y1,y2,y3,S1,h0,h1,h2,h3,h4,aF,ba,aD,bn]
open Go.Sort in
theorem Un (A:C)(hA:(dg eH.body 1).map (eQ · 7)=some A)(c n a b b9:Nat)(wb wp:Bool)(d:Array ByteArray)(pv:Nat)(R:av)(H0 H:af)(K:Out→af→Prop)(hp:xP R c n a b b9 wb wp)(bn:R 11=.int .i64 pv)(hd:iv c n H0 (fun x=>x=d) H)(hb:b≤n)(gy:a+12<b)(hs:n<16777216)(mD:a≤pv∧pv<b)
  (iu:∀R' H',(a>0&&!strLt d[a-1]! d[pv]!)=true→R' 0=.ax c 0 n 1→R' 1=.int .i64 (partitionEqual strLt d a b pv).1→R' 2=.int .i64 b→R' 3=.int .i64 b9→R' 0=.ax c 0 n 1→R' 8=.bool wb→R' 9=.bool wp→iv c n H0 (fun x=>x=(partitionEqual strLt d a b pv).2) H'→K (.ex (.exit 1) R') H')
  (fq:∀R' H',(a>0&&!strLt d[a-1]! d[pv]!)=false→xP R' c n a b b9 wb wp→R' 11=.int .i64 pv→iv c n H0 (fun x=>x=d) H'→K (.ex .normal R') H'):eV env A R H K:=by
 simp[eH,dg,eQ,sq]at hA
 subst hA
 obtain⟨h0,h1,h2,h3,h4,aF,ba,aD⟩:=hp
 obtain⟨di,hd,hn,rfl,au⟩:=hd
 have lc:=aY hd
 by_cases ha:0<a
 ·simp -implicitDefEqProofs (maxSteps:=1000000) (disch:=omega) only[aa,aG,aH,aI,aJ,aK,aM,wA,a7,wS,a6,wM,S2,op,ef,cl,sq,reduceIte,j4,j5,j6,j7,j8,j9,y1,y2,y3,S1,h0,h1,h2,h3,h4,aF,ba,aD,bn,ha,hd,lc]
  refine ae _ _ _ _ _ _ _ _ (dS di[a-1]! di[pv]! _) ?_
  rintro u H3⟨hu,jM⟩
  cases hu
  have hx:Ext H H3:=by rw[jM];exact Ext.rfl'
  have hd:=hx.get hd
  have lc:=aY hd
  have au:=au.trans (aB (F:=fun _=>False) hx) (fun _ h=>h.elim)
  have dc:strLt di[a-1]! di[pv]! = decide (strLt di[a-1]! di[pv]! = true):=by simp
  by_cases c1:strLt di[a-1]! di[pv]! = true
  ·simp -implicitDefEqProofs (maxSteps:=1000000) (disch:=omega) only[aa,aG,aH,aI,aJ,aK,aM,wA,a7,wS,a6,wM,S2,op,ef,cl,sq,reduceIte,j4,j5,j6,j7,j8,j9,y1,y2,y3,S1,h0,h1,h2,h3,h4,aF,ba,aD,bn,ha,hd,lc,c1]
   refine fq _ _ (by rw[dc,cn c1];simp) ⟨?_,?_,?_,?_,?_,?_,?_,?_⟩ ?_ ⟨di,hd,hn,rfl,au⟩
   all_goals simp -implicitDefEqProofs only[op,ef,cl,sq,reduceIte,j4,j5,j6,j7,j8,j9,y1,y2,y3,S1,h0,h1,h2,h3,h4,aF,ba,aD,bn]
  ·simp -implicitDefEqProofs (maxSteps:=1000000) (disch:=omega) only[aa,aG,aH,aI,aJ,aK,aM,wA,a7,wS,a6,wM,S2,op,ef,cl,sq,reduceIte,j4,j5,j6,j7,j8,j9,y1,y2,y3,S1,h0,h1,h2,h3,h4,aF,ba,aD,bn,ha,hd,lc,c1]
   refine ae _ _ _ _ _ _ _ _ (Uj c n di a b pv _ hn hd hb (by omega) (by omega) (by omega)) ?_
   rintro u H4⟨hu,d2,cr,ir,e2,ea⟩
   cases hu
   try simp -implicitDefEqProofs only[op,ef,cl,sq,reduceIte,j4,j5,j6,j7,j8,j9,y1,y2,y3,S1]
   refine iu _ _ (by rw[dc,cj c1];simp;exact ha) ?_ ?_ ?_ ?_ ?_ ?_ ?_ ⟨d2,cr,ir,e2,au.trans ea fun _ h=>.inl h⟩
   all_goals simp -implicitDefEqProofs only[op,ef,cl,sq,reduceIte,j4,j5,j6,j7,j8,j9,y1,y2,y3,S1,h0,h1,h2,h3,h4,aF,ba,aD,bn]
 ·simp -implicitDefEqProofs only[op,ef,cl,sq,reduceIte,j4,j5,j6,j7,j8,j9,y1,y2,y3,S1,h0,h1,h2,h3,h4,aF,ba,aD,bn,ha]
  refine fq _ _ (by rw[decide_eq_false ha];rfl) ⟨?_,?_,?_,?_,?_,?_,?_,?_⟩ ?_ ⟨di,hd,hn,rfl,au⟩
  all_goals simp -implicitDefEqProofs only[op,ef,cl,sq,reduceIte,j4,j5,j6,j7,j8,j9,y1,y2,y3,S1,h0,h1,h2,h3,h4,aF,ba,aD,bn]
open Go.Sort in
theorem Cr {d d1 d2:Array ByteArray}{a b b9 eR pv:Nat}{wb wp:Bool}{cp:Nat×Hint}{hi:Hint}{pi:Array ByteArray×Bool}(aD:¬b-a≤12)(hl:¬b9=0)
  (e1:d1=if (!wb)=true then breakPatterns d a b else d) (el:eR=if (!wb)=true then b9-1 else b9) (ec:cp=choosePivot strLt d1 a b) (e2:d2=if cp.2=.decreasing then reverseRange d1 a b else d1)
  (ep:pv=if cp.2=.decreasing then(b-1)-(cp.1-a)else cp.1) (eh:hi=if cp.2=.decreasing then .increasing else cp.2) (Kt:pi=if (wb&&wp&&hi=.increasing)=true then partialInsertionSort strLt d2 a b else(d2,false)) :
  pdq strLt d a b b9 wb wp=if pi.2=true then pi.1 else if (a>0&&!strLt pi.1[a-1]! pi.1[pv]!)=true then(if a<(partitionEqual strLt pi.1 a b pv).1∧(partitionEqual strLt pi.1 a b pv).1≤b then pdq strLt (partitionEqual strLt pi.1 a b pv).2 (partitionEqual strLt pi.1 a b pv).1 b eR wb wp else(partitionEqual strLt pi.1 a b pv).2)
   else(if a≤(partition strLt pi.1 a b pv).1∧(partition strLt pi.1 a b pv).1<b then if (partition strLt pi.1 a b pv).1-a<b-(partition strLt pi.1 a b pv).1 then pdq strLt (pdq strLt (partition strLt pi.1 a b pv).2.2 a (partition strLt pi.1 a b pv).1 eR true true) ((partition strLt pi.1 a b pv).1+1) b eR (decide ((partition strLt pi.1 a b pv).1-a≥(b-a)/8)) (partition strLt pi.1 a b pv).2.1
    else pdq strLt (pdq strLt (partition strLt pi.1 a b pv).2.2 ((partition strLt pi.1 a b pv).1+1) b eR true true) a (partition strLt pi.1 a b pv).1 eR (decide (b-(partition strLt pi.1 a b pv).1≥(b-a)/8)) (partition strLt pi.1 a b pv).2.1 else(partition strLt pi.1 a b pv).2.2):=by
 subst Kt eh ep e2 ec el e1
 rw[pdq,if_neg aD,if_neg hl]
 rfl
open Go.Sort in
theorem zn (d:Array ByteArray){a b pv:Nat}(h1:a≤pv)(h2:pv<b)(hb:b≤d.size):a<(partitionEqual strLt d a b pv).1∧(partitionEqual strLt d a b pv).1≤b:=by
 have:=partEqLoop_spec (lt:=strLt) a b b (a+1) (b-1) (swp d a pv) (by omega) (by omega) (by omega) (by omega) (by rw[swp_size];exact hb) (fun t h h'=>by omega) (fun t h h'=>by omega)
 exact⟨this.1,this.2.1⟩
open Go.Sort in
theorem Uo (A:C)(hA:(dg eH.body 1).map (eQ · 0)=some A)(c n a b b9:Nat)(wb wp:Bool)(R:av)(H:af)(K:Out→af→Prop)(h0:R 0=.ax c 0 n 1)(h1:R 1=.int .i64 a)(h2:R 2=.int .i64 b)(h3:R 3=.int .i64 b9)(h4:R 0=.ax c 0 n 1)(aF:R 8=.bool wb)(ba:R 9=.bool wp)(gy:a≤b)(hb:b<16777216)
  (rest:∀R',xP R' c n a b b9 wb wp→K (.ex .normal R') H):eV env A R H K:=by
 simp[eH,dg,eQ,sq]at hA
 subst hA
 simp -implicitDefEqProofs (maxSteps:=1000000) (disch:=omega) only[aa,aG,aH,aI,aJ,aK,aM,wA,a7,wS,a6,wM,S2,op,ef,cl,sq,reduceIte,j4,j5,j6,j7,j8,j9,y1,y2,y3,S1,h0,h1,h2,h3,h4,aF,ba]
 refine rest _ ⟨?_,?_,?_,?_,?_,?_,?_,?_⟩
 all_goals simp -implicitDefEqProofs only[op,ef,cl,sq,reduceIte,j4,j5,j6,j7,j8,j9,y1,y2,y3,S1,h0,h1,h2,h3,h4,aF,ba]
open Go.Sort in
theorem Up (A:C)(hA:(dg eH.body 1).map (eQ · 1)=some A)(c n a b b9:Nat)(wb wp:Bool)(d:Array ByteArray)(R:av)(H0 H:af)(K:Out→af→Prop)(hp:xP R c n a b b9 wb wp)(hd:iv c n H0 (fun x=>x=d) H)(hb:b≤n)(gy:a≤b)(hs:n<16777216)
  (iu:∀R' H',b-a≤12→iv c n H0 (fun x=>x=insertionSort strLt d a b) H'→K (.ex .ret R') H')
  (fq:∀R',¬b-a≤12→xP R' c n a b b9 wb wp→K (.ex .normal R') H):eV env A R H K:=by
 simp[eH,dg,eQ,sq]at hA
 subst hA
 obtain⟨h0,h1,h2,h3,h4,aF,ba,aD⟩:=hp
 obtain⟨di,hc,hn,rfl,au⟩:=hd
 by_cases hle:b-a≤12
 ·simp -implicitDefEqProofs only[op,ef,cl,sq,reduceIte,j4,j5,j6,j7,j8,j9,y1,y2,y3,S1,h0,h1,h2,h3,h4,aF,ba,aD,hle]
  have hi:=Uh c di a b H hc (by omega) gy (by omega)
  rw[hn]at hi
  refine ae _ _ _ _ _ _ _ _ hi ?_
  rintro u H2⟨hu,cr,ea⟩
  cases hu
  try simp -implicitDefEqProofs only[op,ef,cl,sq,reduceIte,j4,j5,j6,j7,j8,j9,y1,y2,y3,S1]
  exact iu _ _ hle ⟨_,cr,by rw[(insertionSort_holds mh di a b gy (by omega)).1.1];exact hn,rfl,au.trans ea fun _ h=>.inl h⟩
 ·simp -implicitDefEqProofs only[op,ef,cl,sq,reduceIte,j4,j5,j6,j7,j8,j9,y1,y2,y3,S1,h0,h1,h2,h3,h4,aF,ba,aD,hle]
  refine fq _ hle ⟨?_,?_,?_,?_,?_,?_,?_,?_⟩
  all_goals simp -implicitDefEqProofs only[op,ef,cl,sq,reduceIte,j4,j5,j6,j7,j8,j9,y1,y2,y3,S1,h0,h1,h2,h3,h4,aF,ba,aD]
open Go.Sort in
theorem Uq (A:C)(hA:(dg eH.body 1).map (eQ · 2)=some A)(c n a b b9:Nat)(wb wp:Bool)(d:Array ByteArray)(R:av)(H0 H:af)(K:Out→af→Prop)(hp:xP R c n a b b9 wb wp)(hd:iv c n H0 (fun x=>x=d) H)(hb:b≤n)(gy:a+12<b)(hs:n<16777216)
  (iu:∀R' H',b9=0→iv c n H0 (fun x=>x=heapSort strLt d a b) H'→K (.ex .ret R') H')
  (fq:∀R',¬b9=0→xP R' c n a b b9 wb wp→K (.ex .normal R') H):eV env A R H K:=by
 simp[eH,dg,eQ,sq]at hA
 subst hA
 obtain⟨h0,h1,h2,h3,h4,aF,ba,aD⟩:=hp
 obtain⟨di,hc,hn,rfl,au⟩:=hd
 by_cases hl:b9=0
 ·subst hl
  have e:(((0:Nat):Int)==0)=true:=rfl
  simp -implicitDefEqProofs only[op,ef,cl,sq,reduceIte,j4,j5,j6,j7,j8,j9,y1,y2,y3,S1,h0,h1,h2,h3,h4,aF,ba,aD,e]
  refine ae _ _ _ _ _ _ _ _ (Pj c n di a b _ hn hc hb (by omega) (by omega)) ?_
  rintro u H2⟨hu,d2,cr,ir,e2,ea⟩
  cases hu
  try simp -implicitDefEqProofs only[op,ef,cl,sq,reduceIte,j4,j5,j6,j7,j8,j9,y1,y2,y3,S1]
  exact iu _ _ rfl ⟨_,cr,ir,e2,au.trans ea fun _ h=>.inl h⟩
 ·have e:((b9:Int)==0)=false:=by simp;omega
  simp -implicitDefEqProofs only[op,ef,cl,sq,reduceIte,j4,j5,j6,j7,j8,j9,y1,y2,y3,S1,h0,h1,h2,h3,h4,aF,ba,aD,e]
  refine fq _ hl ⟨?_,?_,?_,?_,?_,?_,?_,?_⟩
  all_goals simp -implicitDefEqProofs only[op,ef,cl,sq,reduceIte,j4,j5,j6,j7,j8,j9,y1,y2,y3,S1,h0,h1,h2,h3,h4,aF,ba,aD]
open Go.Sort in
theorem Ur (A:C)(hA:(dg eH.body 1).map (eQ · 4)=some A)(c n a b b9:Nat)(wb wp:Bool)(d:Array ByteArray)(R:av)(H0 H:af)(K:Out→af→Prop)(hp:xP R c n a b b9 wb wp)(hd:iv c n H0 (fun x=>x=d) H)(hb:b≤n)(gy:a+12<b)(hs:n<16777216)
  (rest:∀R' H',xP R' c n a b b9 wb wp→R' 11=.int .i64 (choosePivot strLt d a b).1→R' 12=.int .i64 (gK (choosePivot strLt d a b).2)→iv c n H0 (fun x=>x=d) H'→K (.ex .normal R') H'):eV env A R H K:=by
 simp[eH,dg,eQ,sq]at hA
 subst hA
 obtain⟨h0,h1,h2,h3,h4,aF,ba,aD⟩:=hp
 obtain⟨di,hc,hn,rfl,au⟩:=hd
 simp -implicitDefEqProofs only[op,ef,cl,sq,reduceIte,j4,j5,j6,j7,j8,j9,y1,y2,y3,S1,h0,h1,h2,h3,h4,aF,ba,aD]
 refine ae _ _ _ _ _ _ _ _ (GJ c n di a b _ hn hc hb gy (by omega)) ?_
 rintro u H2⟨hu,hx⟩
 cases hu
 try simp -implicitDefEqProofs only[op,ef,cl,sq,reduceIte,j4,j5,j6,j7,j8,j9,y1,y2,y3,S1]
 refine rest _ _ ⟨?_,?_,?_,?_,?_,?_,?_,?_⟩ ?_ ?_ ⟨di,hx.get hc,hn,rfl,au.trans (aB (F:=fun _=>False) hx) (fun _ h=>h.elim)⟩
 all_goals simp -implicitDefEqProofs only[op,ef,cl,sq,reduceIte,j4,j5,j6,j7,j8,j9,y1,y2,y3,S1,h0,h1,h2,h3,h4,aF,ba,aD]
open Go.Sort in
theorem Us (A:C)(hA:(dg eH.body 1).map (GG · 8)=some A)(c n a b b9:Nat)(wb wp:Bool)(d:Array ByteArray)(pv:Nat)(R:av)(H0 H:af)(K:Out→af→Prop)(hp:xP R c n a b b9 wb wp)(bn:R 11=.int .i64 pv)(hd:iv c n H0 (fun x=>x=d) H)(hb:b≤n)(gy:a+12<b)(hs:n<16777216)(mD:a≤pv∧pv<b)
  (ih:∀a' b' (d':Array ByteArray) H',b'-a'<b-a→a'≤b'→b'≤n→d'.size=n→H'[c]?=some (.cells (aE eS d'.toList))→W env (.call 122 [.ax c 0 n 1,.int .i64 a',.int .i64 b',.int .i64 b9]) H' (rL c n (pdq strLt d' a' b' b9 true true) H'))
  (rest:∀R' H' a' b' (d':Array ByteArray) (Ku:Bool),a≤a'→a'≤b'→b'≤b→b'-a'<b-a→R' 0=.ax c 0 n 1→R' 1=.int .i64 (a':Nat)→R' 2=.int .i64 (b':Nat)→R' 3=.int .i64 b9→R' 0=.ax c 0 n 1→R' 8=.bool Ku→R' 9=.bool (partition strLt d a b pv).2.1 →
   pdq strLt d' a' b' b9 Ku (partition strLt d a b pv).2.1=(if (partition strLt d a b pv).1-a<b-(partition strLt d a b pv).1 then pdq strLt (pdq strLt (partition strLt d a b pv).2.2 a (partition strLt d a b pv).1 b9 true true) ((partition strLt d a b pv).1+1) b b9 (decide ((partition strLt d a b pv).1-a≥(b-a)/8)) (partition strLt d a b pv).2.1
    else pdq strLt (pdq strLt (partition strLt d a b pv).2.2 ((partition strLt d a b pv).1+1) b b9 true true) a (partition strLt d a b pv).1 b9 (decide (b-(partition strLt d a b pv).1≥(b-a)/8)) (partition strLt d a b pv).2.1) →
   iv c n H0 (fun x=>x=d') H'→K (.ex .normal R') H'):eV env A R H K:=by
 simp[eH,dg,GG,sq]at hA
 subst hA
 obtain⟨h0,h1,h2,h3,h4,aF,ba,aD⟩:=hp
 obtain⟨di,hc,hn,rfl,au⟩:=hd
 have pQ:=partition_holds strLt mh di a b pv mD.1 mD.2 (by omega)
 simp -implicitDefEqProofs only[op,ef,cl,sq,reduceIte,j4,j5,j6,j7,j8,j9,y1,y2,y3,S1,h0,h1,h2,h3,h4,aF,ba,aD,bn]
 refine ae _ _ _ _ _ _ _ _ (Pk c n di a b pv _ hn hc hb (by omega) (by omega) (by omega)) ?_
 rintro u H2⟨hu,d2,cr,ir,e2,ea⟩
 cases hu
 generalize partition strLt di a b pv=r at *
 obtain⟨mid,ap,d4⟩:=r
 simp only at pQ e2 rest ⊢
 subst e2
 obtain⟨m1,m2,_⟩:=pQ
 have kf:=au.trans ea fun _ h=>.inl h
 by_cases aw:mid-a<b-mid
 ·rw[if_pos aw]at rest
  simp -implicitDefEqProofs (maxSteps:=1000000) (disch:=omega) only[aa,aG,aH,aI,aJ,aK,aM,wA,a7,wS,a6,wM,S2,op,ef,cl,sq,reduceIte,j4,j5,j6,j7,j8,j9,y1,y2,y3,S1,Wx,h0,h1,h2,h3,h4,aF,ba,aD,bn,aw]
  refine ae _ _ _ _ _ _ _ _ (ih a mid d2 _ (by omega) m1 (by omega) ir cr) ?_
  rintro u H3⟨hu,d3,oh,zG,e3,py⟩
  cases hu
  simp -implicitDefEqProofs (maxSteps:=1000000) (disch:=omega) only[aa,aG,aH,aI,aJ,aK,aM,wA,a7,wS,a6,wM,S2,op,ef,cl,sq,reduceIte,j4,j5,j6,j7,j8,j9,y1,y2,y3,S1,h0,h1,h2,h3,h4,aF,ba,aD,bn]
  refine rest _ _ (mid+1) b d3 (decide ((b-a)/8≤mid-a)) (by omega) (by omega) (Nat.le_refl _) (by omega) ?_ ?_ ?_ ?_ ?_ ?_ ?_ (by rw[e3]) ⟨d3,oh,zG,rfl,kf.trans py fun _ h=>.inl h⟩
  all_goals simp -implicitDefEqProofs only[op,ef,cl,sq,reduceIte,j4,j5,j6,j7,j8,j9,y1,y2,y3,S1,h0,h1,h2,h3,h4,aF,ba,aD]
 ·rw[if_neg aw]at rest
  simp -implicitDefEqProofs (maxSteps:=1000000) (disch:=omega) only[aa,aG,aH,aI,aJ,aK,aM,wA,a7,wS,a6,wM,S2,op,ef,cl,sq,reduceIte,j4,j5,j6,j7,j8,j9,y1,y2,y3,S1,Wx,h0,h1,h2,h3,h4,aF,ba,aD,bn,aw]
  refine ae _ _ _ _ _ _ _ _ (ih (mid+1) b d2 _ (by omega) m2 (by omega) ir cr) ?_
  rintro u H3⟨hu,d3,oh,zG,e3,py⟩
  cases hu
  simp -implicitDefEqProofs (maxSteps:=1000000) (disch:=omega) only[aa,aG,aH,aI,aJ,aK,aM,wA,a7,wS,a6,wM,S2,op,ef,cl,sq,reduceIte,j4,j5,j6,j7,j8,j9,y1,y2,y3,S1,h0,h1,h2,h3,h4,aF,ba,aD,bn]
  refine rest _ _ a mid d3 (decide ((b-a)/8≤b-mid)) (by omega) (by omega) (by omega) (by omega) ?_ ?_ ?_ ?_ ?_ ?_ ?_ (by rw[e3]) ⟨d3,oh,zG,rfl,kf.trans py fun _ h=>.inl h⟩
  all_goals simp -implicitDefEqProofs only[op,ef,cl,sq,reduceIte,j4,j5,j6,j7,j8,j9,y1,y2,y3,S1,h0,h1,h2,h3,h4,aF,ba,aD]
open Go.Sort in
theorem Ut (c n:Nat)(hs:n<16777216):∀m a b b9 (d:Array ByteArray) H,b-a=m→a≤b→b≤n→b9<1000→d.size=n→H[c]?=some (.cells (aE eS d.toList)) →
  W env (.call 122 [.ax c 0 n 1,.int .i64 (a:Nat),.int .i64 (b:Nat),.int .i64 (b9:Nat)]) H (rL c n (pdq strLt d a b b9 true true) H):=by
 intro m
 induction m using Nat.strongRecOn with
 | _ m ih =>
 intro a b b9 d H hm gy hb aaz hn hc
 subst hm
 refine W.bU rfl rfl rfl ?_
 simp -implicitDefEqProofs only[eH,op,ef,cl,sq,reduceIte,j4,j5,j6,j7,j8,j9,y1,y2,y3,S1]
 refine W.cH (fun (q:Nat×Nat×Nat×Bool×Bool) R H'=>At H' (fun H'=>iv c n H (fun di=>pdq strLt di q.1 q.2.1 q.2.2.1 q.2.2.2.1 q.2.2.2.2=pdq strLt d a b b9 true true) H')∧R 0=.ax c 0 n 1∧R 1=.int .i64 q.1∧R 2=.int .i64 q.2.1∧R 3=.int .i64 q.2.2.1∧R 0=.ax c 0 n 1∧R 8=.bool q.2.2.2.1∧R 9=.bool q.2.2.2.2∧a≤q.1∧q.1≤q.2.1∧q.2.1≤b∧q.2.2.1≤b9) (fun q=>q.2.1-q.1) (a,b,b9,true,true) ⟨.i ⟨d,hc,hn,rfl,bm.refl _ _⟩,rfl,rfl,rfl,rfl,rfl,rfl,rfl,Nat.le_refl _,gy,Nat.le_refl _,Nat.le_refl _⟩ ?_
 rintro⟨a1,b1,l1,wb,wp⟩ R H1 ⟨⟨di,hd,a9,hP,au⟩,h0,h1,h2,h3,h4,aF,ba,q1,q2,q3,q4⟩
 simp only at hP h1 h2 h3 aF ba q1 q2 q3 q4 ⊢
 rw[qp,fK]
 refine Uo _ rfl c n a1 b1 l1 wb wp R H1 _ h0 h1 h2 h3 h4 aF ba q2 (by omega) ?_
 intro R1 p1
 rw[dR,cR,fK]
 refine Up _ rfl c n a1 b1 l1 wb wp di R1 H H1 _ p1 ⟨di,hd,a9,rfl,au⟩ (by omega) q2 hs ?_ ?_
 ·rintro R' H' hle⟨d',gM,ft,rfl,ql⟩
  rw[pdq,if_pos hle]at hP
  try simp -implicitDefEqProofs only[op,ef,cl,sq,reduceIte,j4,j5,j6,j7,j8,j9,y1,y2,y3,S1]
  exact⟨rfl,_,gM,ft,hP,ql⟩
 intro R2 aD p2
 rw[dR,cR,fK]
 refine Uq _ rfl c n a1 b1 l1 wb wp di R2 H H1 _ p2 ⟨di,hd,a9,rfl,au⟩ (by omega) (by omega) hs ?_ ?_
 ·rintro R' H' ya⟨d',gM,ft,rfl,ql⟩
  rw[pdq,if_neg aD,if_pos ya]at hP
  try simp -implicitDefEqProofs only[op,ef,cl,sq,reduceIte,j4,j5,j6,j7,j8,j9,y1,y2,y3,S1]
  exact⟨rfl,_,gM,ft,hP,ql⟩
 intro R3 ya p3
 rw[dR,cR,fK]
 refine Uk _ rfl c n a1 b1 l1 wb wp di R3 H H1 _ p3 ⟨di,hd,a9,rfl,au⟩ (by omega) (by omega) hs (by omega) ?_
 rintro R4 H4 p4⟨d1,rJ,CP,e1,yg⟩
 obtain⟨eR,el⟩:∃l,l=if (!wb)=true then l1-1 else l1:=⟨_,rfl⟩
 have qR:eR≤l1:=by rw[el];split<;>omega
 rw[←el]at p4
 rw[dR,cR,fK]
 refine Ur _ rfl c n a1 b1 eR wb wp d1 R4 H H4 _ p4 ⟨d1,rJ,CP,rfl,yg⟩ (by omega) (by omega) hs ?_
 rintro R5 H5 p5 bn nk⟨Kv,hd5,O6,MP,Ud⟩
 subst MP
 have Ue:=choosePivot_holds strLt Kv a1 b1 (by omega)
 obtain⟨cp,ec⟩:∃x,x=choosePivot strLt Kv a1 b1:=⟨_,rfl⟩
 rw[←ec]at bn nk Ue
 rw[dR,cR,fK]
 refine Ul _ rfl c n a1 b1 eR wb wp Kv cp.1 cp.2 R5 H H5 _ p5 bn nk ⟨Kv,hd5,O6,rfl,Ud⟩ (by omega) (by omega) hs Ue ?_
 rintro R6 H6 p6 bn nk⟨d2,hd6,hs6,e2,hf6⟩
 obtain⟨pv,ep⟩:∃x,x=if cp.2=.decreasing then(b1-1)-(cp.1-a1)else cp.1:=⟨_,rfl⟩
 obtain⟨hi,eh⟩:∃x,x=if cp.2=.decreasing then Hint.increasing else cp.2:=⟨_,rfl⟩
 rw[←ep]at bn
 rw[←eh]at nk
 have mD:a1≤pv∧pv<b1:=by rw[ep];split<;>omega
 rw[dR,cR,fK]
 obtain⟨pi,Kt⟩:∃x,x=if (wb&&wp&&hi=.increasing)=true then partialInsertionSort strLt d2 a1 b1 else(d2,false):=⟨_,rfl⟩
 rw[Cr aD ya e1 el ec e2 ep eh Kt]at hP
 refine Um _ rfl c n a1 b1 eR wb wp d2 pv hi R6 H H6 _ p6 bn nk ⟨d2,hd6,hs6,rfl,hf6⟩ (by omega) (by omega) hs pi Kt ?_ ?_
 ·rintro R' H' Ih⟨d',gM,ft,rfl,ql⟩
  rw[if_pos Ih]at hP
  try simp -implicitDefEqProofs only[op,ef,cl,sq,reduceIte,j4,j5,j6,j7,j8,j9,y1,y2,y3,S1]
  exact⟨rfl,_,gM,ft,hP,ql⟩
 rintro R7 H7 Gu p7 bn⟨d3,hd7,Kw,e3,hf7⟩
 rw[if_neg (by rw[Gu];simp),←e3]at hP
 rw[dR,cR,fK]
 refine Un _ rfl c n a1 b1 eR wb wp d3 pv R7 H H7 _ p7 bn ⟨d3,hd7,Kw,rfl,hf7⟩ (by omega) (by omega) hs mD ?_ ?_
 ·rintro R' H' kJ g0 g1 g2 g3 g4 O8 Ii⟨d',gM,ft,e',ql⟩
  have hr:=zn d3 mD.1 mD.2 (by omega)
  rw[if_pos kJ,if_pos hr,←e']at hP
  try simp -implicitDefEqProofs only[op,ef,cl,sq,reduceIte,j4,j5,j6,j7,j8,j9,y1,y2,y3,S1]
  exact⟨((partitionEqual strLt d3 a1 b1 pv).1,b1,eR,wb,wp),by simp only;omega,.i ⟨_,gM,ft,hP,ql⟩,g0,g1,g2,g3,g4,O8,Ii,by simp only;omega,by simp only;omega,by simp only;omega,by simp only;omega⟩
 rintro R8 H8 kJ p8 bn⟨AN,Ru,hs8,e3',Ij⟩
 subst e3'
 have hr:=partition_holds strLt mh AN a1 b1 pv mD.1 mD.2 (by omega)
 rw[if_neg (by rw[kJ];simp),if_pos ⟨hr.1,hr.2.1⟩]at hP
 rw[dR,cR]
 refine Us _ rfl c n a1 b1 eR wb wp AN pv R8 H H8 _ p8 bn ⟨AN,Ru,hs8,rfl,Ij⟩ (by omega) (by omega) hs mD (fun a' b' d' H' aw O9 jt ft iS=>ih _ (by omega) a' b' eR d' H' rfl O9 jt (by omega) ft iS) ?_
 rintro R' H' a' b' d' Ku O9 Pa jt aw g0 g1 g2 g3 g4 O8 Ii e'⟨d'',gM,ft,rfl,ql⟩
 try simp -implicitDefEqProofs only[op,ef,cl,sq,reduceIte,j4,j5,j6,j7,j8,j9,y1,y2,y3,S1]
 exact⟨(a',b',eR,Ku,(partition strLt AN a1 b1 pv).2.1),by simp only;omega,.i ⟨_,gM,ft,by simp only;rw[e'];exact hP,ql⟩,g0,g1,g2,g3,g4,O8,Ii,by simp only;omega,Pa,by simp only;omega,by simp only;omega⟩
open Go.Sort in
theorem KC (c:Nat)(d:Array ByteArray)(H:af)(hc:H[c]?=some (.cells (aE eS d.toList)))(hs:d.size<16777216) :
  W env (.call 99 [.ax c 0 d.size 1]) H (rL c d.size (sort strLt d) H):=by
 refine W.bU rfl rfl rfl ?_
 have w1:IntKind.u64.wrap (d.size:Int)=(d.size:Int):=pU (by omega)
 simp -implicitDefEqProofs only[J5,op,ef,cl,sq,reduceIte,j4,j5,j6,j7,j8,j9,y1,y2,y3,S1,w1]
 refine ae _ _ _ _ _ _ _ _ (GA d.size hs _) ?_
 rintro u H1⟨hu,rfl⟩
 cases hu
 have hb:=qw (n:=d.size) (k:=24) hs
 try simp -implicitDefEqProofs only[op,ef,cl,sq,reduceIte,j4,j5,j6,j7,j8,j9,y1,y2,y3,S1]
 refine ae _ _ _ _ _ _ _ _ (Ut c d.size hs _ 0 d.size (bitsLen d.size) d _ rfl (Nat.zero_le _) (Nat.le_refl _) (by omega) rfl hc) ?_
 rintro u H2⟨hu,h2⟩
 cases hu
 try simp -implicitDefEqProofs only[op,ef,cl,sq,reduceIte,j4,j5,j6,j7,j8,j9,y1,y2,y3,S1]
 exact⟨rfl,h2⟩
theorem sX {d:Array ByteArray}(hn:d.toList.Nodup):(Go.Sort.sort strLt d).toList.Perm d.toList∧(Go.Sort.sort strLt d).toList.Pairwise (fun a b=>strLt a b=true):=by
 obtain⟨⟨hs,_,hp⟩,GI⟩:=Go.Sort.sort_sorts strLt mh d
 have e1:(Go.Sort.sort strLt d).extract 0 d.size=Go.Sort.sort strLt d:=by
  conv=>lhs;arg 3;rw[←hs]
  simp
 have fD:(Go.Sort.sort strLt d).toList.Perm d.toList:=by
  rw[e1]at hp
  simpa using hp
 refine⟨fD,?_⟩
 have Jf:(Go.Sort.sort strLt d).toList.Nodup:=fD.nodup_iff.2 hn
 rw[List.pairwise_iff_getElem]
 intro i j hi hj rC
 have h1:=GI i j (Nat.zero_le _) rC (by rw[←hs];simpa using hj)
 have gi:=jb (d:=Go.Sort.sort strLt d) (i:=i) (by simpa using hi)
 have gj:=jb (d:=Go.Sort.sort strLt d) (i:=j) (by simpa using hj)
 rw[List.getElem?_eq_getElem hi]at gi
 rw[List.getElem?_eq_getElem hj]at gj
 rw[Option.some.inj gi,Option.some.inj gj]
 cases h:strLt (Go.Sort.sort strLt d)[i]! (Go.Sort.sort strLt d)[j]! with
 | true=>rfl
 | false =>
  have e:=rq h h1
  rw[←Option.some.inj gi,←Option.some.inj gj]at e
  have:=(List.getElem_inj Jf).1 e
  omega
theorem Cs (es:List (ByteArray×T))(c mb:Nat)(H:af)(fz:(es.map (·.1)).Nodup)(iE:es.length≤8000000)(hc:H[c]?=some (.cells [.map mb]))(hm:H[mb]?=some (.map (bh T.str es))) :
  W env (.call 64 [.fn 100 [.ptr c 0]]) H (Pg es H):=by
 refine W.bU rfl rfl rfl ?_
 simp -implicitDefEqProofs only[Ot,op,ef,cl,sq,reduceIte,j4,j5,j6,j7,j8,j9,y1,y2,y3,S1]
 refine ae _ _ _ _ _ _ _ _ (OX es c mb H fz (by omega) hc hm) ?_
 rintro u H1⟨hx,t,b7,hu,AH,mc⟩
 cases hu
 have fD:b7.Perm (es.map (·.1)):=(List.perm_ext_iff_of_nodup mc.Gt fz).2 fun k=>mc.Cd k
 have nw:b7.length=es.length:=by have:=mc.len;simpa using this
 rcases AH with⟨rfl,rfl⟩|⟨d,rfl,hd,HT⟩
 ·simp -implicitDefEqProofs only[op,ef,cl,sq,reduceIte,j4,j5,j6,j7,j8,j9,y1,y2,y3,S1]
  refine ae _ _ _ _ _ _ _ _ (Kz _) ?_
  rintro u H2⟨hu,rfl⟩
  cases hu
  simp -implicitDefEqProofs only[op,ef,cl,sq,reduceIte,j4,j5,j6,j7,j8,j9,y1,y2,y3,S1]
  exact⟨hx,_,[],rfl,nX _ _ _ _,fD,List.Pairwise.nil⟩
 ·simp -implicitDefEqProofs only[op,ef,cl,sq,reduceIte,j4,j5,j6,j7,j8,j9,y1,y2,y3,S1]
  have:=KC d b7.toArray H1 (by simpa using hd) (by simpa using (by omega:b7.length<16777216))
  simp -implicitDefEqProofs only[List.size_toArray]at this
  refine ae _ _ _ _ _ _ _ _ this ?_
  rintro u H2⟨hu,d2,h2,a9,rfl,au⟩
  cases hu
  simp -implicitDefEqProofs only[op,ef,cl,sq,reduceIte,j4,j5,j6,j7,j8,j9,y1,y2,y3,S1]
  have hs:=sX (d:=b7.toArray) (by simpa using mc.Gt)
  refine⟨nj fun a x Uf=>au.get (hx.get Uf) (by have:=aY Uf;omega),_,_,rfl,.inr ⟨d,?_,h2,HT⟩,hs.1.trans fD,hs.2⟩
  rw[hs.1.length_eq]
theorem GL (b:Bk)(s:dy)(F:Nat→Prop)(H:af)(hs:SH H b s F)(hi:gv s)(hn:s.ls.length≤8000000):W env (.call 20 [.ptr b.s 0]) H (Ph s H):=by
 obtain⟨im,pm,sa⟩:=hs
 refine W.bU rfl rfl rfl ?_
 simp -implicitDefEqProofs only[NY,op,ef,cl,sq,reduceIte,j4,j5,j6,j7,j8,j9,y1,y2,y3,S1,sa.hs]
 refine ae _ _ _ _ _ _ _ (fun o H'=>o=.val (.fn 100 [.ptr H.length 0])∧H'=H++[.cells [.map b.l]]) ?_ ?_
 ·refine W.bU rfl rfl rfl ?_
  simp -implicitDefEqProofs only[Ou,op,ef,cl,sq,reduceIte,j4,j5,j6,j7,j8,j9,y1,y2,y3,S1]
  exact rfl
 rintro u H1⟨hu,rfl⟩
 cases hu
 have ll:=aY sa.hl
 have xN:(kF s.ls).map (·.1)=s.ls.map (·.1):=by simp[kF]
 simp -implicitDefEqProofs only[op,ef,cl,sq,reduceIte,j4,j5,j6,j7,j8,j9,y1,y2,y3,S1]
 refine ae _ _ _ _ _ _ _ _ (Cs (kF s.ls) H.length b.l _ (by rw[xN];exact hi.yX) (by simpa[kF]using hn) (aO rfl) (by rw[aQ ll];exact sa.hl)) ?_
 rintro t H2⟨v9,_,l,hu,AH,fD,Ky⟩
 cases hu
 rw[xN]at fD
 have qR:l.length≤8000000:=by rw[fD.length_eq];simpa using hn
 have hlen:=AH.len
 have jM:Ext H H2:=(Ext.rfl'.app _).trans v9
 simp -implicitDefEqProofs only[op,ef,cl,sq,reduceIte,j4,j5,j6,j7,j8,j9,y1,y2,y3,S1,hlen]
 refine W.cH (fun (i:Nat) R H'=>At H' (fun H'=>∃kw,R 3=.sl kw ((pW s (l.take i)).map eL)∧Ext H H'∧Ext H2 H'∧mO H2.length H' kw∧iD kw (l.take i))∧R 0=.ptr b.s 0∧R 11=t∧R 12=.int .i64 l.length∧R 13=.int .i64 i∧i≤l.length) (fun i=>l.length-i) 0 ⟨.i ⟨.nil,rfl,jM,Ext.rfl',l4 _ _,fun _=>rfl⟩,rfl,rfl,rfl,rfl,Nat.zero_le _⟩ ?_
 rintro i R H3⟨⟨kw,h3,sn,zj,ob,pq⟩,h0,ba,aD,bn,lx⟩
 by_cases aw:i<l.length
 ·obtain⟨m,hm⟩:=cw aw
  have ws:=aC (show i<9223372036854775807 by omega)
  obtain⟨c,g1,g2,g3⟩:=Mm (enc:=eS) (n:=1) (fun _=>rfl) (by decide) (AH.ext zj) hm
  have AJ:=sa.jv (aB (F:=fun _=>False) sn) (fun _ _ _ h=>h)
  have iG:=oe s m
  have cJ:=all_map (enc:=eL) (n:=2) (fun _=>rfl) (pW s (l.take i))
  have V5:((pW s (l.take i)).map eL).length≤8000000:=by simp -implicitDefEqProofs only[pW,List.length_map,List.length_take];omega
  obtain⟨k',H5,ha,Pc,dD⟩:=lJ (bytes:=24) ((pW s (l.take i)).map eL) [[T.str m,.int .u64 (bN s m)]] ob zj.len (by simp) (iY (by simp -implicitDefEqProofs only[List.length_cons,List.length_nil];omega))
  have uJ:=vt ha (by simp)
  simp -implicitDefEqProofs only[op,ef,cl,sq,reduceIte,j4,j5,j6,j7,j8,j9,y1,y2,y3,S1]at ha
  simp -implicitDefEqProofs only[op,ef,cl,sq,reduceIte,j4,j5,j6,j7,j8,j9,y1,y2,y3,S1,h0,h3,ba,aD,bn,aw,aa,g1,g2,g3,eS,AJ.hs,AJ.hl,fC,iG,cJ,ha,ws]
  refine⟨i+1,by omega,.i ⟨k',?_,dD.ext H (by have:=jM.len;omega) sn,dD.ext H2 (Nat.le_refl _) zj,Pc,fun h=>absurd h uJ⟩,rfl,by omega⟩
  rw[cE hm]
  simp -implicitDefEqProofs only[pW,List.map_append,List.map_cons,List.map_nil,eL]
 ·have ni:i=l.length:=by omega
  subst ni
  rw[List.take_length]at h3 pq
  simp -implicitDefEqProofs only[op,ef,cl,sq,reduceIte,j4,j5,j6,j7,j8,j9,y1,y2,y3,S1,h3,aD,bn,aw]
  exact⟨sn,kw,l,pq,rfl,fD,Ky⟩
structure Vd where
 value:ByteArray
 keys:List ByteArray
 bg:Int
def Hd.vd (h:Hd):Vd:=⟨h.value,h.keys,h.bg⟩
structure Ab where
 v:Nm→Option Vd
 l:ByteArray→Option Nat
def Ab.last (a:Ab)(k:ByteArray):Nat:=(a.l k).getD 0
def Ab.has (a:Ab)(m:Nm):Bool:=(a.v m).isSome
def eA (s:dy):Ab:=⟨fun m=>(ai s.vs m).map Hd.vd,fun k=>ai s.ls k⟩
def Ab.emp:Ab:=⟨fun _=>none,fun _=>none⟩
def Ab.put (a:Ab)(n:Nat)(l:List (ByteArray×ByteArray))(ks:List ByteArray)(now:Int):Ab :=
 ⟨fun m=>match a.v m with
  | some h=>some h
  | none=>if m.2=n then(ai l m.1).map fun v=>⟨v,ks,if n<a.last m.1 then now else -1⟩else none,a.l⟩
def Ab.fresh (a:Ab)(n:Nat)(l:List (ByteArray×ByteArray)):Bool:=l.any fun p=>!a.has (p.1,n)
def Ab.oN (a : Ab)(n : Nat)(now : Int) : Ab :=
  ⟨fun m => (a.v m).map fun h => if h.bg = -1 ∧ a.has (m.1, n) = true ∧ a.last m.1<n ∧ m.2<n then { h with bg := now } else h,
   fun k => if a.has (k, n) = true ∧ a.last k<n then some n else a.l k⟩
def Ab.cut (a:Ab)(m0:Nm):Ab:=⟨fun m=>if m=m0 then none else a.v m,a.l⟩
theorem gD {a b:Ab}(h1:∀m,a.v m=b.v m)(h2:∀k,a.l k=b.l k):a=b:=by
 cases a;cases b;simp -implicitDefEqProofs only[Ab.mk.injEq];exact⟨funext h1,funext h2⟩
theorem dK {α β:Type}[DecidableEq α]{es:List (α×β)}(hn:(es.map (·.1)).Nodup){p:α×β}(hp:p∈es):ai es p.1=some p.2:=by
 induction es with
 | nil=>cases hp
 | cons e es ih =>
  rw[List.map_cons,List.nodup_cons]at hn
  rw[bM]
  rcases List.mem_cons.1 hp with rfl|hp
  ·simp
  ·rw[if_neg,ih hn.2 hp]
   intro h
   exact hn.1 (h▸List.mem_map.2 ⟨p,hp,rfl⟩)
theorem kH.abs {s s':dy}{n:Nat}{l:List (ByteArray×ByteArray)}{ks:List ByteArray}{now:Int}{fr:Bool}(h:kH s s' n l ks now fr)(hn:(l.map (·.1)).Nodup):eA s'=(eA s).put n l ks now:=by
 refine gD (fun m=>?_) fun k=>by simp -implicitDefEqProofs only[eA,Ab.put,h.ls]
 simp -implicitDefEqProofs only[eA,Ab.put]
 by_cases hm:m.2=n∧m.1∈l.map (·.1)
 ·obtain⟨rfl,hm⟩:=hm
  obtain⟨p,hp,sJ⟩:=List.mem_map.1 hm
  have e:m=(p.1,m.2):=by rw[sJ]
  cases hl:ai s.vs m with
  | some x =>
   have:=h.jP p hp x (by rw[←e];exact hl)
   rw[←e]at this
   simp[this]
  | none =>
   obtain⟨kk,_,h2⟩:=h.new p hp (by rw[←e];exact hl)
   rw[←e]at h2
   have h3:=dK hn hp
   rw[sJ]at h3 h2
   simp -implicitDefEqProofs only[h2,h3,Hd.vd,Option.map_some,Option.map_none,if_true];rfl
 ·have h1:=h.other m (by
   by_cases e:m.2=n
   ·exact .inr fun h=>hm ⟨e,h⟩
   ·exact .inl e)
  rw[h1]
  cases hl:ai s.vs m with
  | some x=>simp
  | none =>
   simp -implicitDefEqProofs only[Option.map_none]
   split
   ·rename_i e
    rw[cA.2 fun h=>hm ⟨e,h⟩];rfl
   ·rfl
theorem kH.fr {s s':dy}{n:Nat}{l:List (ByteArray×ByteArray)}{ks:List ByteArray}{now:Int}{fr:Bool}(h:kH s s' n l ks now fr):fr=(eA s).fresh n l:=by
 rw[Bool.eq_iff_iff,h.fresh]
 simp -implicitDefEqProofs only[Ab.fresh,List.any_eq_true,Ab.has,eA,Option.isSome_map,Bool.not_eq_true',Option.isSome_eq_false_iff,Option.isNone_iff_eq_none]
theorem sU.abs {s s':dy}{n:Nat}{now:Int}(hi:gv s)(h:sU s s' n now (s.dh n)):eA s'=(eA s).oN n now:=by
 have hp:∀k,k∈s.dh n↔(eA s).has (k,n)=true:=fun k=>by rw[hi.J8];simp[Ab.has,eA]
 have gH:∀k,bN s k=(eA s).last k:=fun _=>rfl
 have hv:∀m,(eA s).v m=(ai s.vs m).map Hd.vd:=fun _=>rfl
 have yR:∀k,(eA s).l k=ai s.ls k:=fun _=>rfl
 obtain⟨a,ha⟩:∃a,a=eA s:=⟨_,rfl⟩
 rw[←ha]at hp gH hv yR ⊢
 refine gD (fun m=>?_) fun k=>?_
 ·obtain⟨h1,h2⟩:=h.vs.2 m
  show(ai s'.vs m).map Hd.vd=(a.v m).map _
  rw[hv]
  cases hl:ai s.vs m with
  | none=>rw[h1 hl];rfl
  | some x =>
   obtain⟨h3,h4⟩:=h2 x hl
   by_cases hc:(m.1∈s.dh n∧bN s m.1<n∧m.2<n)∧x.bg=-1
   ·rw[h3 hc]
    simp -implicitDefEqProofs only[Option.map_some,Option.some.injEq]
    rw[if_pos ⟨hc.2,(hp _).1 hc.1.1,gH _▸hc.1.2.1,hc.1.2.2⟩];rfl
   ·rw[h4 hc]
    simp -implicitDefEqProofs only[Option.map_some,Option.some.injEq]
    rw[if_neg]
    rintro⟨a,b,c,d⟩
    exact hc ⟨⟨(hp _).2 b,by rw[gH];exact c,d⟩,a⟩
 ·show ai s'.ls k=if _ then _ else a.l k
  rw[yR]
  by_cases hc:k∈s.dh n∧bN s k<n
  ·rw[h.on k hc.1 hc.2,if_pos ⟨(hp _).1 hc.1,by rw[←gH];exact hc.2⟩]
  ·rw[h.off k hc,if_neg fun hh=>hc ⟨(hp _).2 hh.1,by rw[gH];exact hh.2⟩]
theorem GM {s:dy}(hi:gv s)(k:ByteArray)(n:Nat):eA (s.drop k n)=(eA s).cut (k,n):=by
 refine gD (fun m=>?_) fun k=>rfl
 simp -implicitDefEqProofs only[eA,Ab.cut,dy.drop,jI hi.nd]
 split<;>rfl
theorem AP {α:Type}:∀{l l':List α},l.Nodup→(∀x∈l,x∈l')→l.length≤l'.length
 | [],_,_,_=>Nat.zero_le _
 | x :: l,l',hn,hs=>by
  obtain⟨a,b,rfl⟩:=List.append_of_mem (hs x List.mem_cons_self)
  rw[List.nodup_cons]at hn
  have:=AP (l:=l) (l':=a++b) hn.2 fun y hy=>by
   have h:=hs y (List.mem_cons_of_mem _ hy)
   rcases List.mem_append.1 h with h|h
   ·exact List.mem_append_left _ h
   ·rcases List.mem_cons.1 h with rfl|h
    ·exact absurd hy hn.1
    ·exact List.mem_append_right _ h
  simp -implicitDefEqProofs only[List.length_append,List.length_cons]at this ⊢
  omega
theorem kH.Pm {s s':dy}{n:Nat}{l:List (ByteArray×ByteArray)}{ks:List ByteArray}{now:Int}{fr:Bool}(h:kH s s' n l ks now fr)(hi:gv s'):s'.vs.length≤s.vs.length+l.length:=by
 have:=AP (l:=s'.vs.map (·.1)) (l':=s.vs.map (·.1)++l.map fun p=>(p.1,n)) hi.nd fun m hm=>by
  rw[List.mem_append]
  by_cases hc:m.2=n∧m.1∈l.map (·.1)
  ·obtain⟨p,hp,e⟩:=List.mem_map.1 hc.2
   exact .inr (List.mem_map.2 ⟨p,hp,by rw[e,←hc.1]⟩)
  ·refine .inl ?_
   rw[mem_keys]at hm ⊢
   rwa[h.other m (by
    by_cases e:m.2=n
    ·exact .inr fun h=>hc ⟨e,h⟩
    ·exact .inl e)]at hm
 simpa using this
theorem VS.Pm {v v':List (Nm×Hd)}{now:Int}{S:Nm→Prop}(h:VS v v' now S)(hn:(v.map (·.1)).Nodup):v'.length=v.length:=by
 have:=Pd h.1 hn fun m=>by rw[mem_keys,mem_keys,h.some]
 simpa using this
def gO (H:af)(b:Bk)(a:Ab)(F:Nat→Prop)(n:Nat):Prop:=∃s,SH H b s F∧gv s∧eA s=a∧s.n≤n∧s.vs.length≤n
theorem gO.ext {H H':af}{b:Bk}{a:Ab}{F:Nat→Prop}{n:Nat}(h:gO H b a F n)(hx:Ext H H'):gO H' b a F n:=by
 obtain⟨s,h1,h2⟩:=h
 exact⟨s,h1.ext hx,h2⟩
theorem gO.le {H:af}{b:Bk}{a:Ab}{F:Nat→Prop}{n m:Nat}(h:gO H b a F n)(hm:n≤m):gO H b a F m:=by
 obtain⟨s,h1,h2,h3,h4,h5⟩:=h
 exact⟨s,h1,h2,h3,by omega,by omega⟩
theorem gO.jv {H H':af}{b:Bk}{a:Ab}{F G:Nat→Prop}{n:Nat}(h:gO H b a F n)(hf:bm G H H')(hg:∀c,F c→c<H.length→¬G c):gO H' b a F n:=by
 obtain⟨s,⟨im,pm,sa⟩,h2⟩:=h
 exact⟨s,⟨im,pm,sa.jv hf hg⟩,h2⟩
def Ik (F F':Nat→Prop)(H H':af):Prop:=∀c,F' c→F c∨(H.length≤c∧c<H'.length)
theorem Uu (H:af):W env (.call 28 []) H (fun o H'=>Ext H H'∧∃b F,o=.val (.ptr b.s 0)∧gO H' b Ab.emp F 0∧∀c,F c→H.length≤c∧c<H'.length) :=
 W.use (ZR H) fun o H' ⟨hx,b,F,hu,sh,hF⟩=>⟨hx,b,F,hu,⟨_,sh,gv.emp,rfl,Nat.le_refl _,Nat.le_refl _⟩,hF⟩
theorem GN {n:Nat}{l:List (ByteArray×ByteArray)}{ks:List ByteArray}(h:mC n l ks):(l.map (·.1)).Nodup:=by
 refine List.pairwise_map.2 (List.pairwise_iff_getElem.2 fun i j hi hj rC e=>?_)
 have:=rE h i j _ _ rC (List.getElem?_eq_getElem hi) (List.getElem?_eq_getElem hj)
 rw[e,fk]at this;cases this
def Uv (b:Bk)(a:Ab)(F:Nat→Prop)(m n:Nat)(l:List (ByteArray×ByteArray))(ks:List ByteArray)(now:Int)(H:af):Out→af→Prop:=fun o H' =>
 ∃F',o=.val (.bJ [.bool (a.fresh n l),.int .i64 0])∧gO H' b (a.put n l ks now) F' (m+l.length)∧bm F H H'∧Ik F F' H H'
theorem aaJ {b:Bk}{a:Ab}{F:Nat→Prop}{m:Nat}(n:Nat)(k k':SK)(l:List (ByteArray×ByteArray))(ks:List ByteArray)(now:Int){H:af}(h:gO H b a F m)(hn:m+l.length≤8000000)(pq:iD k' ks)(hm:mC n l ks)(ht:bq now) :
  W env (.call 23 [.ptr b.s 0,.int .u64 n,.sl k (l.map eP),.sl k' (ks.map eS),.int .i64 now]) H (Uv b a F m n l ks now H):=by
 obtain⟨s,sh,hi,rfl,h4,h5⟩:=h
 refine W.use (TJ b s F n k k' l ks now H sh hi (by omega) pq hm ht) fun o H' ⟨s',F',fr,hu,Pn,jR,hp,BC,au,hg⟩=>⟨F',?_,⟨s',Pn,jR,hp.abs (GN hm),by omega,?_⟩,au,hg⟩
 ·rw[hu,hp.fr]
 ·have:=hp.Pm jR;omega
def Uw (b:Bk)(a:Ab)(F:Nat→Prop)(m n:Nat)(now:Int)(H:af):Out→af→Prop:=fun o H' =>
 ∃D:List ByteArray,D.Nodup∧(∀k,k∈D↔a.has (k,n)=true)∧o=.val (.bJ [.int .i64 D.length,.int .i64 0])∧gO H' b (a.oN n now) F m∧bm F H H'
theorem aaK {b:Bk}{a:Ab}{F:Nat→Prop}{m:Nat}(n:Nat)(now:Int){H:af}(h:gO H b a F m)(hn:m≤8000000)(TL:65536≤n)(ht:bq now):W env (.call 24 [.ptr b.s 0,.int .u64 n,.int .i64 now]) H (Uw b a F m n now H):=by
 obtain⟨s,sh,hi,rfl,h4,h5⟩:=h
 refine W.use (Gq b s F n now H sh hi (by omega) TL ht) fun o H' ⟨s',hu,Pn,jR,hc,BC,_,_,au⟩=>⟨s.dh n,hi.ON n,fun k=>?_,hu,⟨s',Pn,jR,hc.abs hi,by omega,?_⟩,au⟩
 ·rw[hi.J8];simp[Ab.has,eA]
 ·have:=hc.vs.Pm hi.nd;omega
def Po (b:Bk)(a:Ab)(F:Nat→Prop)(m:Nat)(k:ByteArray)(n:Nat)(H:af):Out→af→Prop:=fun o H' =>
 (a.v (k,n)=none∧o=.val (.int .i64 110)∧Ext H H')∨(∃h,a.v (k,n)=some h∧h.bg=-1∧o=.val (.int .i64 1)∧Ext H H') ∨
 ∃h,a.v (k,n)=some h∧h.bg≠-1∧o=.val (.int .i64 0)∧gO H' b (a.cut (k,n)) F m∧bm F H H'
theorem GO {α β:Type}[DecidableEq α](es:List (α×β))(k:α):(mB es k).length≤es.length:=by
 unfold mB;split
 ·exact List.length_eraseIdx_le es _
 ·exact Nat.le_refl _
theorem Ux {b:Bk}{a:Ab}{F:Nat→Prop}{m:Nat}(k:ByteArray)(n:Nat){H:af}(h:gO H b a F m)(hn:m≤8000000):W env (.call 25 [.ptr b.s 0,.str k,.int .u64 n]) H (Po b a F m k n H):=by
 obtain⟨s,sh,hi,rfl,h4,h5⟩:=h
 refine W.use (OS b s F k n H sh hi (by omega)) fun o H' hq=>?_
 rcases hq with⟨h1,hu,hx⟩|⟨h,h1,h2,hu,hx⟩|⟨h,h1,h2,hu,Pn,au⟩
 ·exact .inl ⟨by simp[eA,h1],hu,hx⟩
 ·exact .inr (.inl ⟨h.vd,by simp[eA,h1],h2,hu,hx⟩)
 ·exact .inr (.inr ⟨h.vd,by simp[eA,h1],h2,hu,⟨_,Pn,hi.drop k n,GM hi k n,by simpa[dy.drop]using h4,Nat.le_trans (GO _ _) h5⟩,au⟩)
def iw (o:Option Vd):Vd:=o.getD ⟨⟨#[]⟩,[],0⟩
theorem Uy (o:Option Hd):(qd o).vd=iw (o.map Hd.vd):=by cases o<;>rfl
def Names (a:Ab)(l:List Nm):Prop:=l.Pairwise (fun x y=>aZ x y=true)∧∀m,m∈l↔a.has m=true
theorem Names.uniq {a:Ab}{l l':List Nm}(h:Names a l)(h':Names a l'):l=l':=uo l l' h.1 h'.1 fun m=>by rw[h.2,h'.2]
def Uz (a:Ab)(m:Nm):List T:=[.str m.1,.int .u64 m.2,.str (iw (a.v m)).value,.sl .arg ((iw (a.v m)).keys.map eS),.int .i64 (iw (a.v m)).bg]
theorem Names.nd {a:Ab}{l:List Nm}(h:Names a l):l.Nodup:=h.1.imp fun {x y} GP=>by rintro rfl;rw[me]at GP;cases GP
theorem AQ {b:Bk}{a:Ab}{F:Nat→Prop}{m:Nat}{H:af}(h:gO H b a F m)(hn:m≤8000000):W env (.call 18 [.ptr b.s 0]) H (fun o H'=>Ext H H'∧∃k l,iD k l∧Names a l∧l.length≤m∧o=.val (.sl k (l.map (Uz a)))):=by
 obtain⟨s,sh,hi,rfl,h4,h5⟩:=h
 refine W.use (Pb b s F H sh hi (by omega)) fun o H' ⟨hx,k,l,pq,hu,hp,Ky⟩=>⟨hx,k,l,pq,⟨Ky,fun m=>?_⟩,?_,?_⟩
 ·rw[hp.mem_iff,mem_keys];simp[Ab.has,eA]
 ·rw[hp.length_eq];simpa using h5
 ·rw[hu]
  congr 2
  rw[pV,List.map_map]
  refine List.map_congr_left fun m _=>?_
  have e:=Uy (ai s.vs m)
  simp -implicitDefEqProofs only[Function.comp,eK,Uz,eA,←e,Hd.vd]
def eW (x:Nm):List T:=[.str x.1,.int .u64 x.2]
def cX (a:Ab)(l:List ByteArray):Prop:=l.Pairwise (fun x y=>strLt x y=true)∧∀k,k∈l↔(a.l k).isSome=true
def gh (a:Ab)(k:ByteArray):Nm:=(k,a.last k)
theorem rM:∀(l l':List ByteArray),l.Pairwise (fun a b=>strLt a b=true)→l'.Pairwise (fun a b=>strLt a b=true)→(∀x,x∈l↔x∈l')→l=l'
 | [],[],_,_,_=>rfl
 | [],b :: l',_,_,h=>by have:=(h b).2 (by simp);cases this
 | a :: l,[],_,_,h=>by have:=(h a).1 (by simp);cases this
 | a :: l,b :: l',h1,h2,h=>by
  rw[List.pairwise_cons]at h1 h2
  have gy:a=b:=by
   rcases List.mem_cons.1 ((h a).1 (by simp))with e|ha
   ·exact e
   ·rcases List.mem_cons.1 ((h b).2 (by simp))with e|hb
    ·exact e.symm
    ·have x1:=h1.1 b hb
     have x2:=h2.1 a ha
     rw[lt_asymm x1]at x2;cases x2
  subst gy
  congr 1
  refine rM l l' h1.2 h2.2 fun x=>⟨fun hx=>?_,fun hx=>?_⟩
  ·rcases List.mem_cons.1 ((h x).1 (by simp[hx]))with e|jk
   ·subst e;have:=h1.1 x hx;rw[fk]at this;cases this
   ·exact jk
  ·rcases List.mem_cons.1 ((h x).2 (by simp[hx]))with e|jk
   ·subst e;have:=h2.1 x hx;rw[fk]at this;cases this
   ·exact jk
theorem cX.uniq {a:Ab}{l l':List ByteArray}(h:cX a l)(h':cX a l'):l=l':=rM l l' h.1 h'.1 fun m=>by rw[h.2,h'.2]
theorem vE {a:Ab}{n:Nat}{l:List (ByteArray×ByteArray)}{ks:List ByteArray}{now:Int}{m:Nm}:(a.put n l ks now).has m=(a.has m||(decide (m.2=n)&&(ai l m.1).isSome)):=by
 simp -implicitDefEqProofs only[Ab.has,Ab.put]
 cases h:a.v m with
 | some x=>simp
 | none =>
  by_cases e:m.2=n
  ·simp[e]
  ·simp[e]
theorem AR {a:Ab}{n:Nat}{now:Int}{m:Nm}:(a.oN n now).has m=a.has m:=by
 simp -implicitDefEqProofs only[Ab.has,Ab.oN,Option.isSome_map]
theorem Ct {α β:Type}[DecidableEq α]{es:List (α×β)}{k:α}(h:(ai es k).isSome=true):k∈es.map (·.1):=by rw[mem_keys];exact h
structure mj (H0 H:af)(b:Bk)(a:Ab)(F:Nat→Prop)(m:Nat):Prop where
 at_:gO H b a F m
 jv:bm (fun _=>False) H0 H
 new:∀c,F c→H0.length≤c∧c<H.length
theorem mj.ext {H0 H H':af}{b:Bk}{a:Ab}{F:Nat→Prop}{m:Nat}(h:mj H0 H b a F m)(hx:Ext H H'):mj H0 H' b a F m:=⟨h.at_.ext hx,h.jv.ext hx,fun c hc=>by have:=h.new c hc;have:=hx.len;omega⟩
theorem mj.go {H0 H H':af}{b:Bk}{a a':Ab}{F F':Nat→Prop}{m m':Nat}(h:mj H0 H b a F m)(ha:gO H' b a' F' m')(hf:bm F H H')(hg:Ik F F' H H'):mj H0 H' b a' F' m':=⟨ha,h.jv.more hf fun c hc=>(h.new c hc).1,fun c hc=>by
 have l1:=h.jv.1
 have l2:=hf.1
 rcases hg c hc with h'|h'
 ·have:=h.new c h';omega
 ·omega⟩
theorem mj.go' {H0 H H':af}{b:Bk}{a a':Ab}{F:Nat→Prop}{m m':Nat}(h:mj H0 H b a F m)(ha:gO H' b a' F m')(hf:bm F H H'):mj H0 H' b a' F m':=h.go ha hf fun _ h=>.inl h
theorem gO.keys {H:af}{b:Bk}{a:Ab}{F:Nat→Prop}{n:Nat}(h:gO H b a F n):∀m,(iw (a.v m)).keys.length≤1024:=fun m=>by
 obtain⟨s,_,hi,rfl,_⟩:=h
 simp -implicitDefEqProofs only[eA]
 cases e:ai s.vs m with
 | none=>simp[iw]
 | some x=>exact(hi.TE m x e).2
theorem gO.names {H:af}{b:Bk}{a:Ab}{F:Nat→Prop}{n:Nat}(h:gO H b a F n):∃l,Names a l∧l.length≤n:=by
 obtain⟨s,_,hi,rfl,_,hv⟩:=h
 obtain⟨hp,Ky⟩:=om (d:=(s.vs.map (·.1)).toArray) (by simpa using hi.nd)
 refine⟨_,⟨Ky,fun m=>?_⟩,?_⟩
 ·rw[hp.mem_iff]
  show m∈(s.vs.map (·.1)).toArray.toList↔_
  rw[List.toList_toArray,mem_keys];simp[Ab.has,eA]
 ·rw[hp.length_eq];simpa using hv
theorem UA {b:Bk}{a:Ab}{F:Nat→Prop}{m:Nat}(n:Nat)(k k':SK)(l:List (ByteArray×ByteArray))(ks:List ByteArray)(now:Int){H:af}(h:gO H b a F m)(hl:l.length≤8000000)(Qn:ks.length≤8000000)(hm:¬(mC n l ks∧bq now)) :
  W env (.call 23 [.ptr b.s 0,.int .u64 n,.sl k (l.map eP),.sl k' (ks.map eS),.int .i64 now]) H (fun o H'=>o=.val (.bJ [.bool false,.int .i64 1])∧Ext H H'):=by
 refine W.bU rfl rfl rfl ?_
 simp -implicitDefEqProofs only[JY,op,ef,cl,sq,reduceIte,j4,j5,j6,j7,j8,j9,y1,y2,y3,S1]
 refine ae _ _ _ _ _ _ _ _ (Md n k k' l ks _ (by omega) (by omega)) ?_
 rintro u H1⟨gz,bb,hu,hb⟩
 cases hu
 cases bb
 ·simp -implicitDefEqProofs only[op,ef,cl,sq,reduceIte,j4,j5,j6,j7,j8,j9,y1,y2,y3,S1];exact gz
 ·simp -implicitDefEqProofs only[op,ef,cl,sq,reduceIte,j4,j5,j6,j7,j8,j9,y1,y2,y3,S1]
  refine ae _ _ _ _ _ _ _ _ (rB now _) ?_
  rintro u H2⟨hu,rfl⟩
  cases hu
  have hf:(decide (0≤now)&&decide (now≤1099511627776))=false:=by
   rw[Bool.and_eq_false_iff,decide_eq_false_iff_not,decide_eq_false_iff_not]
   have:¬bq now:=fun h=>hm ⟨hb.1 rfl,h⟩
   unfold bq at this;omega
  simp -implicitDefEqProofs only[op,ef,cl,sq,reduceIte,j4,j5,j6,j7,j8,j9,y1,y2,y3,S1,hf]
  exact gz
def Il (a:Ab):Prop:=∀m h,a.v m=some h→(h.bg=-1↔¬m.2<a.last m.1)
theorem Il.emp:Il Ab.emp:=fun m h e=>by cases e
theorem Il.put {a:Ab}(h:Il a){n:Nat}{l:List (ByteArray×ByteArray)}{ks:List ByteArray}{now:Int}(ht:0≤now):Il (a.put n l ks now):=fun m x e=>by
 have hl:(a.put n l ks now).last m.1=a.last m.1:=rfl
 rw[hl]
 simp -implicitDefEqProofs only[Ab.put]at e
 cases h1:a.v m with
 | some y=>rw[h1]at e;cases e;exact h m _ h1
 | none =>
  rw[h1]at e
  simp only at e
  split at e
  ·rename_i en
   cases h2:ai l m.1 with
   | none=>rw[h2]at e;cases e
   | some v =>
    rw[h2]at e;cases e
    simp only
    split
    ·rename_i aw;rw[en];constructor
     ·intro;omega
     ·intro hh;exact absurd aw hh
    ·rename_i aw;rw[en];simp[aw]
  ·cases e
theorem Il.oN {a:Ab}(h:Il a){n:Nat}{now:Int}(ht:0≤now):Il (a.oN n now):=fun m x e=>by
 have hl:(a.oN n now).last m.1=if a.has (m.1,n)=true∧a.last m.1<n then n else a.last m.1:=by
  show(if _ then some n else a.l m.1).getD 0=_
  by_cases hc:a.has (m.1,n)=true∧a.last m.1<n
  ·rw[if_pos hc,if_pos hc];rfl
  ·rw[if_neg hc,if_neg hc];rfl
 rw[hl]
 simp -implicitDefEqProofs only[Ab.oN]at e
 cases h1:a.v m with
 | none=>rw[h1]at e;cases e
 | some y =>
  have hy:=h m y h1
  rw[h1]at e;simp -implicitDefEqProofs only[Option.map_some,Option.some.injEq]at e;subst e
  by_cases hc:a.has (m.1,n)=true∧a.last m.1<n
  ·rw[if_pos hc]
   by_cases hs:y.bg=-1
   ·by_cases hm:m.2<n
    ·rw[if_pos ⟨hs,hc.1,hc.2,hm⟩];simp only;constructor
     ·intro;omega
     ·intro hh;exact absurd hm hh
    ·rw[if_neg fun hh=>hm hh.2.2.2];exact⟨fun _=>hm,fun _=>hs⟩
   ·rw[if_neg fun hh=>hs hh.1]
    have:m.2<a.last m.1:=Decidable.of_not_not fun hh=>hs (hy.2 hh)
    constructor
    ·intro hh;exact absurd hh hs
    ·intro hh;omega
  ·rw[if_neg hc,if_neg fun hh=>hc ⟨hh.2.1,hh.2.2.1⟩];exact hy
theorem Cu {α β:Type}[DecidableEq α](es:List (α×β))(k k':α)(v:β):ai (es++[(k,v)]) k'=(ai es k').or (if k'=k then some v else none):=by
 induction es with
 | nil=>simp[bM,dN]
 | cons e es ih =>
  rw[List.cons_append,bM,bM,ih]
  split<;>simp
theorem GQ (a:Ab)(n:Nat)(l:List (ByteArray×ByteArray))(ks:List ByteArray)(now:Int)(m:Nm):(a.put n l ks now).v m=(a.v m).or (if m.2=n then(ai l m.1).map fun v=>⟨v,ks,if n<a.last m.1 then now else -1⟩else none):=by
 simp -implicitDefEqProofs only[Ab.put]
 cases a.v m<;>rfl
structure Kd where
 key:ByteArray
 id:Nat
 value:ByteArray
 kk:SK
 keys:List ByteArray
 bg:Int
def Kd.nm (x:Kd):Nm:=(x.key,x.id)
def Kd.vd (x:Kd):Vd:=⟨x.value,x.keys,x.bg⟩
def ki (x:Kd):List T:=[.str x.key,.int .u64 x.id,.str x.value,.sl x.kk (x.keys.map eS),.int .i64 x.bg]
def UB (x:Kd):Prop:=iD x.kk x.keys∧x.keys.length≤8000000
def qf (a:Ab)(x:Kd):Prop:=65536≤x.id∧gu x.keys∧x.key∈x.keys∧x.value.size≤65535∧if x.id<a.last x.key then bq x.bg else x.bg=-1
set_option maxHeartbeats 8000000 in
theorem AS {b:Bk}{a:Ab}{F:Nat→Prop}{m:Nat}(x:Kd)(hx:UB x){H:af}(h:gO H b a F m):W env (.call 91 [.ptr b.s 0,.agg (ki x)]) H (fun o H'=>Ext H H'∧∃t,o=.val (.bool t)∧(t=true↔qf a x)):=by
 obtain⟨s,⟨im,pm,sa⟩,hi,rfl,h4,h5⟩:=h
 have l0:=aY sa.hs
 have ll:=aY sa.hl
 have Mf:b.s<H.length+1:=by omega
 have Wk:b.s<H.length+2:=by omega
 have Wl:b.l<H.length+1:=by omega
 have Wm:b.l<H.length+2:=by omega
 have qR:=oe s x.key
 have gH:(eA s).last x.key=bN s x.key:=rfl
 have yf:Ext H (H++[B.cells (ki x)]++[B.cells [.str x.key,.int .u64 x.id,.str x.value,.sl x.kk (x.keys.map eS)]]):=(Ext.rfl'.app _).app _
 have no:¬qf (eA s) x→((false:Bool)=true↔qf (eA s) x):=fun h=>⟨fun e=>(by cases e),fun e=>absurd e h⟩
 have c0:(H++[B.cells (ki x)]++[B.cells [.str x.key,.int .u64 x.id,.str x.value,.sl x.kk (x.keys.map eS)]])[H.length]?=some (.cells (ki x)):=by rw[aQ (by simp),aO rfl]
 simp -implicitDefEqProofs only[ki]at yf c0
 refine W.bU rfl rfl rfl ?_
 by_cases TL:x.id<65536
 ·simp -implicitDefEqProofs only[J3,ki,op,ef,cl,sq,reduceIte,j4,j5,j6,j7,j8,j9,y1,y2,y3,S1,S2,TL]
  exact⟨yf,false,rfl,no fun h=>by have:=h.1;omega⟩
 simp -implicitDefEqProofs only[J3,ki,op,ef,cl,sq,reduceIte,j4,j5,j6,j7,j8,j9,y1,y2,y3,S1,S2,TL]
 refine ae _ _ _ _ _ _ _ _ (xD x.kk x.keys _ (by have:=hx.2;omega)) ?_
 rintro u H1⟨hu,rfl⟩
 cases hu
 cases hg:kz x.keys
 ·simp -implicitDefEqProofs only[op,ef,cl,sq,reduceIte,j4,j5,j6,j7,j8,j9,y1,y2,y3,S1,S2]
  exact⟨yf,false,rfl,no fun h=>by have:=dP.2 h.2.1;rw[hg]at this;cases this⟩
 have HY:=dP.1 hg
 simp -implicitDefEqProofs only[op,ef,cl,sq,reduceIte,j4,j5,j6,j7,j8,j9,y1,y2,y3,S1,S2]
 refine ae _ _ _ _ _ _ _ _ (Gm x.kk x.keys x.key _ (by have:=hx.2;omega) HY.iZ) ?_
 rintro u H1⟨hu,rfl⟩
 cases hu
 cases hm:n9 x.keys x.key
 ·simp -implicitDefEqProofs only[op,ef,cl,sq,reduceIte,j4,j5,j6,j7,j8,j9,y1,y2,y3,S1,S2]
  exact⟨yf,false,rfl,no fun h=>qt.1 hm h.2.2.1⟩
 by_cases a9:65535<x.value.size
 ·simp -implicitDefEqProofs only[op,ef,cl,sq,reduceIte,j4,j5,j6,j7,j8,j9,y1,y2,y3,S1,S2,a9]
  exact⟨yf,false,rfl,no fun h=>by have:=h.2.2.2.1;omega⟩
 have ok:∀t:Bool,(t=true↔if x.id<bN s x.key then bq x.bg else x.bg=-1)→(t=true↔qf (eA s) x):=fun t ht=>by
  rw[ht]
  exact⟨fun h=>⟨by omega,HY,oa.1 hm,by omega,h⟩,fun h=>h.2.2.2.2⟩
 by_cases aw:x.id<bN s x.key
 ·simp -implicitDefEqProofs only[op,ef,cl,sq,reduceIte,j4,j5,j6,j7,j8,j9,y1,y2,y3,S1,S2,a9,sa.hs,sa.hl,l0,Mf,Wk,ll,Wl,Wm,fC,qR,aw,c0]
  refine ae _ _ _ _ _ _ _ _ (rB x.bg _) ?_
  rintro u H1⟨hu,rfl⟩
  cases hu
  simp -implicitDefEqProofs only[op,ef,cl,sq,reduceIte,j4,j5,j6,j7,j8,j9,y1,y2,y3,S1]
  exact⟨yf,_,rfl,ok _ (by rw[if_pos aw];simp[bq])⟩
 ·simp -implicitDefEqProofs only[op,ef,cl,sq,reduceIte,j4,j5,j6,j7,j8,j9,y1,y2,y3,S1,S2,a9,sa.hs,sa.hl,l0,Mf,Wk,ll,Wl,Wm,fC,qR,aw,c0]
  exact⟨yf,_,rfl,ok _ (by rw[if_neg aw];simp)⟩
theorem ur {α:Type}{R:α→α→Prop}(tr:∀a b c,R a b→R b c→R a c){l:List α}{i:Nat}{x:α}(hx:l[i]?=some x):(l.take (i+1)).Pairwise R↔(l.take i).Pairwise R∧(0<i→∀y,l[i-1]?=some y→R y x):=by
 rw[cE hx,List.pairwise_append]
 constructor
 ·rintro⟨h1,_,h3⟩
  exact⟨h1,fun h0 y hy=>h3 y (List.mem_of_getElem? (i:=i-1) (by rw[List.getElem?_take,if_pos (by omega)];exact hy)) x (by simp)⟩
 ·rintro⟨h1,h2⟩
  refine⟨h1,by simp,fun a ha c hc=>?_⟩
  simp -implicitDefEqProofs only[List.mem_singleton]at hc;subst hc
  have hi:=(List.getElem?_eq_some_iff.1 hx).1
  by_cases h0:0<i
  ·obtain⟨y,hy⟩:=cw (l:=l) (i:=i-1) (by omega)
   have e:l.take i=l.take (i-1)++[y]:=by rw[←cE hy,Nat.sub_add_cancel h0]
   rw[e]at h1 ha
   rw[List.pairwise_append]at h1
   rcases List.mem_append.1 ha with ha|ha
   ·exact tr _ _ _ (h1.2.2 a ha y (by simp)) (h2 h0 y hy)
   ·simp -implicitDefEqProofs only[List.mem_singleton]at ha;subst ha;exact h2 h0 a hy
  ·have:i=0:=by omega
   subst this;simp at ha
def kj (ls:List Nm):Prop:=ls.Pairwise (fun a b=>strLt a.1 b.1=true)
def ko (l:List Kd):Prop:=l.Pairwise (fun x y=>aZ x.nm y.nm=true)
def yj (l:List Kd):List (Nm×Vd):=l.map fun x=>(x.nm,x.vd)
def dF (kept:List Kd)(a0:List Nm):Ab:=⟨fun m=>ai (yj kept) m,fun k=>ai a0 k⟩
def dv (kept:List Kd)(a0:List Nm):Prop:=kj a0∧ko kept∧(∀x∈kept,qf (dF [] a0) x)∧∀e∈a0,∃x∈kept,x.nm=e
theorem kj.nd {ls:List Nm}(h:kj ls):(ls.map (·.1)).Nodup:=List.pairwise_map.2 (h.imp fun {a b} gy e=>by rw[e,fk]at gy;cases gy)
theorem ou (l:List Kd):(yj l).map (·.1)=l.map Kd.nm:=by simp[yj,Function.comp_def]
theorem ko.nd {l:List Kd}(h:ko l):(l.map Kd.nm).Nodup:=List.pairwise_map.2 (h.imp fun {a b} gy e=>by rw[e,me]at gy;cases gy)
theorem lO {α β:Type}[DecidableEq α]{es:List (α×β)}{k:α}{v:β}(h:ai es k=some v):(k,v)∈es:=by
 induction es with
 | nil=>cases h
 | cons e es ih =>
  rw[bM]at h
  split at h
  ·rename_i e2;cases h;rw[e2];exact List.mem_cons_self
  ·exact List.mem_cons_of_mem _ (ih h)
theorem GR {a a':Ab}(h:a.l=a'.l)(x:Kd):qf a x↔qf a' x:=by
 have:a.last=a'.last:=by funext k;simp[Ab.last,h]
 unfold qf;rw[this]
theorem rN {α β:Type}[DecidableEq α](es:List (α×β))(e:α×β)(k':α):ai (es++[e]) k'=(ai es k').or (if k'=e.1 then some e.2 else none):=Cu es e.1 k' e.2
theorem gO.UC {H:af}{b:Bk}{a:Ab}{F:Nat→Prop}{m:Nat}(h:gO H b a F m)(k:ByteArray)(n:Nat):∃im,H[b.s]?=some (.cells [.map b.v,.map b.i,.map b.p,.map b.l])∧H[b.l]?=some (.map (bh T.str im))∧F b.l ∧
  gO (H.set b.l (.map (bh T.str (cu im k (.int .u64 n))))) b ⟨a.v,fun k'=>if k'=k then some n else a.l k'⟩ F m:=by
 obtain⟨s,⟨im,pm,sa⟩,hi,rfl,h4,h5⟩:=h
 refine⟨kF s.ls,sa.hs,sa.hl,sa.F0.2.2.2.2,{ s with ls:=cu s.ls k n },⟨im,pm,?_⟩,?_,?_,h4,h5⟩
 ·have e:cu (kF s.ls) k (T.int .u64 n)=kF (cu s.ls k n):=oc (fun n:Nat=>T.int .u64 n) s.ls k n
  rw[e];exact sa.TK _
 ·exact VS.inv (v':=s.vs) (now:=0) hi (VS.nil hi.nd) _ (db hi.yX _ _)
 ·refine gD (fun m=>rfl) fun k'=>?_
  simp -implicitDefEqProofs only[eA,br]
theorem UD {b:Bk}{a:Ab}{F:Nat→Prop}{m:Nat}(x:Kd)(kk:SK){H:af}(h:gO H b a F m)(hn:m+1≤8000000)(hk:iD kk x.keys)(hl:x.keys.length≤1024)(gI:a.v x.nm=none) :
  W env (.call 68 [.ptr b.s 0,.agg [.str x.key,.int .u64 x.id],.agg [.str x.value,.sl kk (x.keys.map eS),.int .i64 x.bg]]) H (fun o H'=>o=.val (.bJ [])∧∃F',gO H' b ⟨fun m'=>if m'=x.nm then some x.vd else a.v m',a.l⟩ F' (m+1)∧bm F H H'∧Ik F F' H H'):=by
 obtain⟨s,sh,hi,rfl,h4,h5⟩:=h
 have aaL:ai s.vs (x.key,x.id)=none:=by simpa[eA,Kd.nm]using gI
 refine W.use (Me b s F x.key x.id ⟨x.value,kk,x.keys,x.bg⟩ H sh hi aaL (by omega) ⟨hk,hl⟩) fun o H' ⟨hu,s',F',Pn,jR,iI,Ib,BC,au,hg⟩=>⟨hu,F',⟨s',Pn,jR,?_,by omega,?_⟩,au,hg⟩
 ·refine gD (fun m'=>?_) fun k=>by simp -implicitDefEqProofs only[eA,Ib]
  have e0:(x.key,x.id)=x.nm:=rfl
  simp -implicitDefEqProofs only[eA,iI,br,e0]
  by_cases e:m'=x.nm
  ·rw[if_pos e,if_pos e];rfl
  ·rw[if_neg e,if_neg e]
 ·rw[iI]
  have:∀(es:List (Nm×Hd)) k v,(cu es k v).length≤es.length+1:=fun es k v=>by unfold cu;split<;>simp
  have:=this s.vs (x.key,x.id) ⟨x.value,kk,x.keys,x.bg⟩
  omega
def UE (kept:List Kd)(a0:List Nm)(H:af):Out→af→Prop:=fun o H' =>
 (dv kept a0∧∃b F,o=.val (.bJ [.ptr b.s 0,.int .i64 0])∧mj H H' b (dF kept a0) F kept.length)∨(¬dv kept a0∧o=.val (.bJ [.bR,.int .i64 1])∧Ext H H')
set_option maxHeartbeats 2000000 in
theorem Pp (k1 k2:SK)(kept:List Kd)(a0:List Nm)(V5:kept.length≤8000000)(qR:a0.length≤8000000)(pq:∀x∈kept,UB x)(H:af):W env (.call 58 [.sl k1 (kept.map ki),.sl k2 (a0.map eW)]) H (UE kept a0 H):=by
 refine W.bU rfl rfl rfl ?_
 simp -implicitDefEqProofs only[Oj,op,ef,cl,sq,reduceIte,j4,j5,j6,j7,j8,j9,y1,y2,y3,S1]
 refine ae _ _ _ _ _ _ _ _ (Uu _) ?_
 rintro u H1⟨gz,b,F,hu,v1,nF⟩
 cases hu
 have p1:mj H H1 b Ab.emp F 0:=⟨v1,aB gz,nF⟩
 simp -implicitDefEqProofs only[op,ef,cl,sq,reduceIte,j4,j5,j6,j7,j8,j9,y1,y2,y3,S1,List.length_map]
 refine W.eZ 0 [(0,_),(1,_),(6,_),(17,_),(18,_)] (fun (i:Nat) R H'=>At H' (fun H'=>mj H H' b (dF [] (a0.take i)) F 0∧kj (a0.take i))∧R 19=.int .i64 i∧i≤a0.length) (fun i=>a0.length-i) 0
  (fun R H'=>At H' (fun H'=>mj H H' b (dF [] a0) F 0∧kj a0)) ⟨.i ⟨by rw[List.take_zero];exact p1,by rw[List.take_zero];exact List.Pairwise.nil⟩,rfl,Nat.zero_le _⟩ ?_ ?_
 ·rintro i R H2⟨⟨p2,AI⟩,Wy,hi⟩
  by_cases aw:i<a0.length
  ·obtain⟨e,he⟩:=cw aw
   have ie:=gC (e:=eW) (n:=2) (fun _=>rfl) (by decide) (k:=k2) he
   have mR:=aC (show i<9223372036854775807 by omega)
   have dD:=ur (R:=fun a b:Nm=>strLt a.1 b.1=true) (fun a b c h1 h2=>eF h1 h2) he
   have UF:Ext H2 (H2++[.cells [.str e.1,.int .u64 e.2]]):=⟨_,rfl⟩
   have pD:¬kj (a0.take (i+1))→¬dv kept a0:=fun h hl=>h (hl.1.sublist (List.take_sublist _ _))
   have go:(0<i→∀y,a0[i-1]?=some y→strLt y.1 e.1=true)→kj (a0.take (i+1)):=fun h=>dD.2 ⟨AI,h⟩
   obtain⟨im,hs,hl,hF,Qm⟩:=(p2.at_.ext UF).UC e.1 e.2
   have hk:(0<i→∀y,a0[i-1]?=some y→strLt y.1 e.1=true)→gO ((H2++[B.cells [.str e.1,.int .u64 e.2]]).set b.l (.map (bh T.str (cu im e.1 (.int .u64 e.2))))) b (dF [] (a0.take (i+1))) F 0:=fun h=>by
    have e1:dF [] (a0.take (i+1))=⟨(dF [] (a0.take i)).v,fun k'=>if k'=e.1 then some e.2 else(dF [] (a0.take i)).l k'⟩:=by
     refine gD (fun m=>rfl) fun k'=>?_
     have fz:=(go h).nd
     rw[cE he,List.map_append,List.nodup_append]at fz
     have gI:ai (a0.take i) e.1=none:=cA.2 fun hh=>fz.2.2 _ hh e.1 (by simp) rfl
     simp -implicitDefEqProofs only[dF,cE he,rN]
     by_cases e2:k'=e.1
     ·subst e2;simp[gI]
     ·simp -implicitDefEqProofs only[e2,if_false];cases ai (a0.take i) k'<;>rfl
    rw[e1];exact Qm
   have iJ:∀h,mj H ((H2++[B.cells [.str e.1,.int .u64 e.2]]).set b.l (.map (bh T.str (cu im e.1 (.int .u64 e.2))))) b (dF [] (a0.take (i+1))) F 0:=fun h=>(p2.ext UF).go' (hk h) ((bm.refl F _).set (.inl hF) _)
   have lb:=aY hs
   have lbl:=aY hl
   simp -implicitDefEqProofs only[List.length_append,List.length_cons,List.length_nil]at lb lbl
   by_cases oM:0<i
   ·obtain⟨y,hy⟩:=cw (l:=a0) (i:=i-1) (by omega)
    have wp:=l3 (show i<9223372036854775807 by omega) oM
    have iy:=gC (e:=eW) (n:=2) (fun _=>rfl) (by decide) (k:=k2) hy
    cases hc:strLt y.1 e.1
    ·simp -implicitDefEqProofs only[aq,ah,op,ef,cl,sq,reduceIte,j4,j5,j6,j7,j8,j9,y1,y2,y3,S1,S2,Wy,aw,aa,ie,iy,eW,oM,wp,hc]
     exact .inr ⟨pD fun h=>(by have:=(dD.1 h).2 oM y hy;rw[hc]at this;cases this),rfl,gg (p2.ext UF).jv⟩
    ·have cJ:0<i→∀y,a0[i-1]?=some y→strLt y.1 e.1=true:=fun _ y' HX=>by rw[hy]at HX;cases HX;exact hc
     simp -implicitDefEqProofs only[aq,ah,op,ef,cl,sq,reduceIte,j4,j5,j6,j7,j8,j9,y1,y2,y3,S1,S2,Wy,aw,aa,ie,iy,eW,oM,wp,hc,hs,hl,lb,lbl,ng,mR]
     exact⟨i+1,by omega,.i ⟨iJ cJ,go cJ⟩,rfl,by omega⟩
   ·have cJ:0<i→∀y,a0[i-1]?=some y→strLt y.1 e.1=true:=fun h=>absurd h oM
    simp -implicitDefEqProofs only[aq,ah,op,ef,cl,sq,reduceIte,j4,j5,j6,j7,j8,j9,y1,y2,y3,S1,S2,Wy,aw,aa,ie,eW,oM,hs,hl,lb,lbl,ng,mR]
    exact⟨i+1,by omega,.i ⟨iJ cJ,go cJ⟩,rfl,by omega⟩
  ·have lu:i=a0.length:=by omega
   subst lu
   rw[List.take_length]at p2 AI
   simp -implicitDefEqProofs only[aq,ah,op,ef,cl,sq,reduceIte,j4,j5,j6,j7,j8,j9,y1,y2,y3,S1,Wy,aw]
   exact .i ⟨p2,AI⟩
 rintro R H2⟨p2,UG⟩
 simp -implicitDefEqProofs only[aq,ah,op,ef,cl,sq,reduceIte,j4,j5,j6,j7,j8,j9,y1,y2,y3,S1,List.length_map]
 refine W.eZ 2 [(0,_),(6,_),(46,_),(47,_)] (fun (j:Nat) R H'=>At H' (fun H'=>∃F',mj H H' b (dF (kept.take j) a0) F' j∧ko (kept.take j)∧∀x∈kept.take j,qf (dF [] a0) x)∧R 48=.int .i64 j∧j≤kept.length) (fun j=>kept.length-j) 0
  (fun R H'=>At H' (fun H'=>∃F',mj H H' b (dF kept a0) F' kept.length∧ko kept∧∀x∈kept,qf (dF [] a0) x)) ⟨.i ⟨F,p2,by rw[List.take_zero];exact List.Pairwise.nil,by simp⟩,rfl,Nat.zero_le _⟩ ?_ ?_
 ·rintro j R H3⟨⟨F',p3,AI,KD⟩,KE,hj⟩
  by_cases aw:j<kept.length
  ·obtain⟨x,hx⟩:=cw aw
   have ix:=gC (e:=ki) (n:=5) (fun _=>rfl) (by decide) (k:=k1) hx
   have wsj:=aC (show j<9223372036854775807 by omega)
   have dD:=ur (R:=fun x y:Kd=>aZ x.nm y.nm=true) (fun a b c h1 h2=>mg h1 h2) hx
   have KF:=pq x (List.mem_of_getElem? hx)
   have pD:¬(ko (kept.take (j+1))∧qf (dF [] a0) x)→¬dv kept a0:=fun h hl=>h ⟨hl.2.1.sublist (List.take_sublist _ _),hl.2.2.1 x (List.mem_of_getElem? hx)⟩
   have UF:Ext H3 (H3++[.cells [.str x.key,.int .u64 x.id,.str x.value,.sl x.kk (x.keys.map eS),.int .i64 x.bg]]++[.cells [.str x.key,.int .u64 x.id]]):=(Ext.rfl'.app _).app _
   have c0:(H3++[B.cells [.str x.key,.int .u64 x.id,.str x.value,.sl x.kk (x.keys.map eS),.int .i64 x.bg]]++[B.cells [.str x.key,.int .u64 x.id]])[H3.length]?=some (.cells [.str x.key,.int .u64 x.id,.str x.value,.sl x.kk (x.keys.map eS),.int .i64 x.bg]):=by rw[aQ (by simp),aO rfl]
   have c1:(H3++[B.cells [.str x.key,.int .u64 x.id,.str x.value,.sl x.kk (x.keys.map eS),.int .i64 x.bg]]++[B.cells [.str x.key,.int .u64 x.id]])[H3.length+1]?=some (.cells [.str x.key,.int .u64 x.id]):=aO (by simp)
   have p4:=p3.ext UF
   have acD:(H3++[B.cells [.str x.key,.int .u64 x.id,.str x.value,.sl x.kk (x.keys.map eS),.int .i64 x.bg]]++[B.cells [.str x.key,.int .u64 x.id]]).length=H3.length+2:=by simp
   simp -implicitDefEqProofs only[aq,ah,op,ef,cl,sq,reduceIte,j4,j5,j6,j7,j8,j9,y1,y2,y3,S1,S2,S3,KE,aw,aa,ix,ki]
   generalize H3++[B.cells [.str x.key,.int .u64 x.id,.str x.value,.sl x.kk (x.keys.map eS),.int .i64 x.bg]]++[B.cells [.str x.key,.int .u64 x.id]]=H4 at *
   have fin:∀H5,Ext H4 H5→ko (kept.take (j+1))→(dF (kept.take j) a0).v x.nm=none∧dF (kept.take (j+1)) a0=⟨fun m'=>if m'=x.nm then some x.vd else(dF (kept.take j) a0).v m',(dF (kept.take j) a0).l⟩:=fun H5 _ hu=>by
    have fz:=hu.nd
    rw[cE hx,List.map_append,List.nodup_append]at fz
    have gI:ai (yj (kept.take j)) x.nm=none:=cA.2 fun hh=>by
     rw[ou]at hh
     exact fz.2.2 _ hh x.nm (by simp) rfl
    refine⟨gI,gD (fun m=>?_) fun _=>rfl⟩
    have:yj (kept.take (j+1))=yj (kept.take j)++[(x.nm,x.vd)]:=by rw[cE hx];simp[yj]
    simp -implicitDefEqProofs only[dF,this,rN]
    by_cases e2:m=x.nm
    ·subst e2;simp[gI]
    ·simp -implicitDefEqProofs only[e2,if_false];cases ai (yj (kept.take j)) m<;>rfl
   have lld:(dF (kept.take j) a0).l=(dF [] a0).l:=rfl
   by_cases UH:0<j
   ·obtain⟨y,hy⟩:=cw (l:=kept) (i:=j-1) (by omega)
    have wp:=l3 (show j<9223372036854775807 by omega) UH
    have iy:=gC (e:=ki) (n:=5) (fun _=>rfl) (by decide) (k:=k1) hy
    simp -implicitDefEqProofs only[aq,ah,op,ef,cl,sq,reduceIte,j4,j5,j6,j7,j8,j9,y1,y2,y3,S1,KE,aa,UH,wp,iy,ki,c0,c1]
    refine ae _ _ _ _ _ _ _ _ (cg y.nm x.nm _) ?_
    rintro u H5⟨hu,pE⟩
    cases hu
    have pE:Ext H4 H5:=pE
    have p5:=p4.ext pE
    have UI:=pE.get c0
    have Tn:=pE.get c1
    have Qo:decide (0≤dJ y.nm x.nm)=!aZ y.nm x.nm:=by
     unfold aZ
     rw[Bool.eq_iff_iff];simp
    cases hc:aZ y.nm x.nm
    ·rw[hc]at Qo
     simp -implicitDefEqProofs only[aq,ah,op,ef,cl,sq,reduceIte,j4,j5,j6,j7,j8,j9,y1,y2,y3,S1,Qo]
     exact .inr ⟨pD fun h=>(by have:=(dD.1 h.1).2 UH y hy;rw[hc]at this;cases this),rfl,gg p5.jv⟩
    ·rw[hc]at Qo
     have GS:ko (kept.take (j+1)):=dD.2 ⟨AI,fun _ y' HX=>by rw[hy]at HX;cases HX;exact hc⟩
     simp -implicitDefEqProofs only[aq,ah,op,ef,cl,sq,reduceIte,j4,j5,j6,j7,j8,j9,y1,y2,y3,S1,Qo,KE,UI]
     refine ae _ _ _ _ _ _ _ _ (AS x KF p5.at_) ?_
     rintro u H6⟨sy,t,hu,ht⟩
     cases hu
     have y0:=ht.trans (GR lld x)
     obtain⟨gI,Dn⟩:=fin _ pE GS
     cases t
     ·simp -implicitDefEqProofs only[aq,ah,op,ef,cl,sq,reduceIte,j4,j5,j6,j7,j8,j9,y1,y2,y3,S1]
      exact .inr ⟨pD fun h=>(by have:=y0.2 h.2;cases this),rfl,gg (p5.ext sy).jv⟩
     ·have UJ:=sy.get UI
      have UK:=sy.get Tn
      have HY:=(y0.1 rfl).2.1.2.2
      simp -implicitDefEqProofs only[aq,ah,op,ef,cl,sq,reduceIte,j4,j5,j6,j7,j8,j9,y1,y2,y3,S1,KE,UJ,UK]
      refine ae _ _ _ _ _ _ _ _ (qu x.kk x.keys _ KF.1 (by omega)) ?_
      rintro u H7⟨pX,kk,bL,hu⟩
      cases hu
      have p7:=(p5.ext sy).ext pX
      have c07:=pX.get UJ
      have To:=pX.get UK
      simp -implicitDefEqProofs only[aq,ah,op,ef,cl,sq,reduceIte,j4,j5,j6,j7,j8,j9,y1,y2,y3,S1,c07,To]
      refine ae _ _ _ _ _ _ _ _ (UD x kk p7.at_ (by omega) bL HY gI) ?_
      rintro u H8⟨hu,F8,a8,f8,g8⟩
      cases hu
      rw[←Dn]at a8
      simp -implicitDefEqProofs only[aq,ah,op,ef,cl,sq,reduceIte,j4,j5,j6,j7,j8,j9,y1,y2,y3,S1,KE,wsj]
      refine⟨j+1,by omega,.i ⟨F8,p7.go a8 f8 g8,GS,fun z hz=>?_⟩,rfl,by omega⟩
      rw[cE hx]at hz
      rcases List.mem_append.1 hz with hz|hz
      ·exact KD z hz
      ·simp -implicitDefEqProofs only[List.mem_singleton]at hz;subst hz;exact y0.1 rfl
   ·have GS:ko (kept.take (j+1)):=dD.2 ⟨AI,fun h=>absurd h UH⟩
    have p5:=p4
    have UI:=c0
    have Tn:=c1
    have pE:Ext H4 H4:=Ext.rfl'
    simp -implicitDefEqProofs only[aq,ah,op,ef,cl,sq,reduceIte,j4,j5,j6,j7,j8,j9,y1,y2,y3,S1,UH,KE,UI]
    refine ae _ _ _ _ _ _ _ _ (AS x KF p5.at_) ?_
    rintro u H6⟨sy,t,hu,ht⟩
    cases hu
    have y0:=ht.trans (GR lld x)
    obtain⟨gI,Dn⟩:=fin _ pE GS
    cases t
    ·simp -implicitDefEqProofs only[aq,ah,op,ef,cl,sq,reduceIte,j4,j5,j6,j7,j8,j9,y1,y2,y3,S1]
     exact .inr ⟨pD fun h=>(by have:=y0.2 h.2;cases this),rfl,gg (p5.ext sy).jv⟩
    ·have UJ:=sy.get UI
     have UK:=sy.get Tn
     have HY:=(y0.1 rfl).2.1.2.2
     simp -implicitDefEqProofs only[aq,ah,op,ef,cl,sq,reduceIte,j4,j5,j6,j7,j8,j9,y1,y2,y3,S1,KE,UJ,UK]
     refine ae _ _ _ _ _ _ _ _ (qu x.kk x.keys _ KF.1 (by omega)) ?_
     rintro u H7⟨pX,kk,bL,hu⟩
     cases hu
     have p7:=(p5.ext sy).ext pX
     have c07:=pX.get UJ
     have To:=pX.get UK
     simp -implicitDefEqProofs only[aq,ah,op,ef,cl,sq,reduceIte,j4,j5,j6,j7,j8,j9,y1,y2,y3,S1,c07,To]
     refine ae _ _ _ _ _ _ _ _ (UD x kk p7.at_ (by omega) bL HY gI) ?_
     rintro u H8⟨hu,F8,a8,f8,g8⟩
     cases hu
     rw[←Dn]at a8
     simp -implicitDefEqProofs only[aq,ah,op,ef,cl,sq,reduceIte,j4,j5,j6,j7,j8,j9,y1,y2,y3,S1,KE,wsj]
     refine⟨j+1,by omega,.i ⟨F8,p7.go a8 f8 g8,GS,fun z hz=>?_⟩,rfl,by omega⟩
     rw[cE hx]at hz
     rcases List.mem_append.1 hz with hz|hz
     ·exact KD z hz
     ·simp -implicitDefEqProofs only[List.mem_singleton]at hz;subst hz;exact y0.1 rfl
  ·have Z3:j=kept.length:=by omega
   subst Z3
   rw[List.take_length]at p3 AI KD
   simp -implicitDefEqProofs only[aq,ah,op,ef,cl,sq,reduceIte,j4,j5,j6,j7,j8,j9,y1,y2,y3,S1,KE,aw]
   exact .i ⟨F',p3,AI,KD⟩
 rintro R H3⟨F',p3,aaO,KD⟩
 obtain⟨s,⟨im,pm,sa⟩,hi,Pq,hn3,hv3⟩:=p3.at_
 have Ib:∀k,ai s.ls k=ai a0 k:=fun k=>by have:=congrFun (congrArg Ab.l Pq) k;exact this
 have iI:∀m,(ai s.vs m).isSome=(ai (yj kept) m).isSome:=fun m=>by
  have:=congrFun (congrArg Ab.v Pq) m
  have h2:(ai s.vs m).map Hd.vd=ai (yj kept) m:=this
  rw[←h2];simp
 obtain⟨es,iE⟩:∃es,es=kF s.ls:=⟨_,rfl⟩
 have DI:(bh T.str es).length=es.length:=by simp[bh]
 have fz:(es.map (·.1)).Nodup:=by rw[iE];simpa[kF,Function.comp_def]using hi.yX
 have l0:=aY sa.hs
 have ll:=aY sa.hl
 have lv:=aY sa.hv
 have hml:=sa.hl
 rw[←iE]at hml
 have aaQ:b.s≠b.l:=by rintro e;have:=sa.hs;rw[e,sa.hl]at this;cases this
 have VV:b.l≠H3.length:=by omega
 simp -implicitDefEqProofs only[aq,ah,op,ef,cl,sq,reduceIte,j4,j5,j6,j7,j8,j9,y1,y2,y3,S1,sa.hs,hml]
 refine W.Ax [(6,_),(106,_)] (fun (b7:List ByteArray) R H'=>At H' (fun H'=>∃ix cur,RI es ix b7∧H'[b.l]?=some (.cT (bh T.str es) ix H3.length cur)∧H'[H3.length]?=some (.uE b.l)∧bm (fun c=>c=b.l) H3 H'∧∀e∈s.ls,e.1∈b7→(ai s.vs e).isSome=true)) (fun b7=>es.length-b7.length) [] ?_ ?_
 ·refine .i ⟨List.range (bh T.str es).length,none,by rw[DI];exact RI.start es,?_,?_,?_,by simp⟩
  ·rw[aQ (by simpa using ll),bX ll]
  ·rw[aO (by simp)]
  ·exact((bm.refl (fun c=>c=b.l) H3).set (.inl rfl) _).app _
 rintro b7 R H5⟨ix,cur,mc,hm,hit,au,C4⟩
 have lm:=aY hm
 have li:=aY hit
 simp -implicitDefEqProofs only[aq,ah,op,ef,cl,sq,reduceIte,j4,j5,j6,j7,j8,j9,y1,y2,y3,S1]
 refine yS _ _ _ _ _ _ _ (by simp -implicitDefEqProofs only[aq,ah,op,ef,cl,sq,reduceIte,j4,j5,j6,j7,j8,j9,y1,y2,y3,S1]) hm ?_
 rintro t H6 (⟨rfl,rfl,rfl⟩|⟨i,e,jR,he,rfl,rfl⟩)
 ·simp -implicitDefEqProofs only[aq,ah,op,ef,cl,sq,reduceIte,j4,j5,j6,j7,j8,j9,y1,y2,y3,S1]
  have cJ:∀e∈s.ls,(ai s.vs e).isSome=true:=fun e he=>C4 e he ((mc.Cd e.1).2 (by rw[iE];exact List.mem_map.2 ⟨(e.1,T.int .u64 e.2),List.mem_map.2 ⟨e,he,rfl⟩,rfl⟩))
  have hF:bm (fun _=>False) H3 (H5.set b.l (.map (bh T.str es))):=by
   refine⟨by rw[List.length_set];exact au.1,fun c hc _=>?_⟩
   by_cases e:c=b.l
   ·subst e;rw[bX lm,hml]
   ·rw[bj (Ne.symm e),au.2 c hc e]
  refine .inl ⟨⟨UG,aaO,KD,fun e he=>?_⟩,b,F',rfl,p3.go' ⟨s,⟨im,pm,sa.jv hF fun _ _ _ h=>h⟩,hi,Pq,hn3,hv3⟩ (hF.mono fun _ h=>h.elim)⟩
  have h1:ai a0 e.1=some e.2:=dK UG.nd he
  rw[←Ib]at h1
  have h2:=cJ _ (lO h1)
  rw[iI]at h2
  have h3:e∈(yj kept).map (·.1):=Ct h2
  rw[ou]at h3
  obtain⟨x,hx,hxe⟩:=List.mem_map.1 h3
  exact⟨x,hx,hxe⟩
 obtain⟨⟨k,n⟩,mQ⟩:=cw (l:=s.ls) (i:=i) (by have:=mc.lt i jR;rw[iE]at this;simpa[kF]using this)
 have Mh:es[i]?=some (k,T.int .u64 n):=by rw[iE,kF,List.getElem?_map,mQ];rfl
 have CT:e=(T.str k,T.int .u64 n):=by
  rw[bh,List.getElem?_map,Mh]at he;exact(Option.some.inj he).symm
 subst CT
 obtain⟨H6,KG⟩:∃H6,H6=H5.set b.l (.cT (bh T.str es) (ix.erase i) H3.length (some i)):=⟨_,rfl⟩
 have m6:H6[b.l]?=some (.cT (bh T.str es) (ix.erase i) H3.length (some i)):=by rw[KG];exact bX lm
 have i6:H6[H3.length]?=some (.uE b.l):=by rw[KG,bj VV];exact hit
 have f6:bm (fun c=>c=b.l) H3 H6:=by rw[KG];exact au.set (.inl rfl) _
 have s6:=f6.get sa.hs aaQ
 have v6:=f6.get sa.hv sa.vl
 have l60:=aY s6
 have l6v:=aY v6
 have l6l:=aY m6
 have l6i:=aY i6
 rw[←KG]
 have pr:∀z,jo (ai (dZ s.vs) (k,n)) z true=.bJ [jo (ai (dZ s.vs) (k,n)) z false,.bool (ai s.vs (k,n)).isSome]:=fun z=>by
  unfold dZ;rw[fV]
  cases ai s.vs (k,n)<;>rfl
 have hz:∃cs,cs.length=3∧jo (ai (dZ s.vs) (k,n)) (.agg [.str ⟨#[]⟩,.sl .nil [],.int .i64 0]) false=.agg cs:=by
  unfold dZ;rw[fV]
  cases ai s.vs (k,n)with
  | none=>exact⟨_,rfl,rfl⟩
  | some x=>exact⟨_,rfl,rfl⟩
 obtain⟨cs,uM,hlz⟩:=hz
 have iG:=fun Hx z ok=>lG vu z ok Hx (dZ s.vs) (k,n)
 simp -implicitDefEqProofs only[kN,eN]at iG
 have lk:∀(X:B),(H6++[X]).set H6.length (.cells cs)=H6++[.cells cs]:=fun X=>u4 rfl
 have dD:∀X:List T,X.length=3→nV (H6++[.cells X]) H6.length cs 0 (some (.cells X))=some (H6++[.cells cs]):=fun X hX=>by
  rw[iq,if_pos (by omega)]
  have e1:X.take 0++cs++X.drop (0+cs.length)=cs:=by rw[List.drop_eq_nil_of_le (by omega)];simp
  rw[e1,lk]
 have Ci:=dD [.str ⟨#[]⟩,.sl .nil [],.int .i64 0] rfl
 cases C7:(ai s.vs (k,n)).isSome
 ·rw[C7]at pr
  simp -implicitDefEqProofs only[aq,ah,op,ef,cl,sq,reduceIte,j4,j5,j6,j7,j8,j9,y1,y2,y3,S1,S2,i6,m6,he,s6,v6,iG,pr,hlz,uM,Ci,List.length_set]
  refine .inr ⟨fun hl=>?_,rfl,?_⟩
  ·have h1:ai s.ls k=some n:=dK hi.yX (List.mem_of_getElem? mQ)
   rw[Ib]at h1
   obtain⟨x,hx,hxe⟩:=hl.2.2.2 (k,n) (lO h1)
   have:(ai (yj kept) (k,n)).isSome=true:=by rw[←mem_keys,ou];exact List.mem_map.2 ⟨x,hx,hxe⟩
   rw[←iI,C7]at this;cases this
  ·exact gg (((p3.jv.more f6 fun c hc=>by rw[hc];exact(p3.new _ sa.F0.2.2.2.2).1)).app _)
 ·rw[C7]at pr
  simp -implicitDefEqProofs only[aq,ah,op,ef,cl,sq,reduceIte,j4,j5,j6,j7,j8,j9,y1,y2,y3,S1,S2,i6,m6,he,s6,v6,iG,pr,hlz,uM,Ci,List.length_set]
  refine⟨b7++[k],?_,.i ⟨_,_,mc.step fz jR Mh,by rw[aQ l6l];exact m6,by rw[aQ l6i];exact i6,f6.app _,fun e LD JI=>?_⟩⟩
  ·have:=mc.len;have:=List.length_pos_of_mem jR;rw[List.length_append,List.length_singleton];omega
  ·rcases List.mem_append.1 JI with JI|JI
   ·exact C4 e LD JI
   ·simp -implicitDefEqProofs only[List.mem_singleton]at JI
    have h1:=dK hi.yX LD
    have h2:ai s.ls k=some n:=dK hi.yX (List.mem_of_getElem? mQ)
    rw[JI,h2]at h1
    have:e=(k,n):=Prod.ext JI (Option.some.inj h1).symm
    rw[this,C7]
def AbT (a:Ab):Prop:=∀m h,a.v m=some h→h.bg=-1∨bq h.bg
def AbG (a:Ab):Prop:=∀m h,a.v m=some h→65536≤m.2∧gu h.keys∧m.1∈h.keys∧h.value.size≤65535
structure uu (a:Ab):Prop where
 S:Il a
 T:AbT a
 G:AbG a
 L:∀k n,a.l k=some n→a.has (k,n)=true
theorem uu.emp:uu Ab.emp:=⟨Il.emp,fun m h e=>(by cases e),fun m h e=>(by cases e),fun k n e=>(by cases e)⟩
theorem xQ {a:Ab}{n:Nat}{l:List (ByteArray×ByteArray)}{ks:List ByteArray}{now:Int}{m:Nm}{x:Vd}(h:(a.put n l ks now).v m=some x):a.v m=some x∨(m.2=n∧∃v,(m.1,v)∈l∧x=⟨v,ks,if n<a.last m.1 then now else -1⟩):=by
 rw[GQ]at h
 cases h1:a.v m with
 | some y=>rw[h1]at h;exact .inl h
 | none =>
  rw[h1]at h
  simp -implicitDefEqProofs only[Option.none_or]at h
  split at h
  ·rename_i e
   cases h2:ai l m.1 with
   | none=>rw[h2]at h;cases h
   | some v=>rw[h2]at h;cases h;exact .inr ⟨e,v,lO h2,rfl⟩
  ·cases h
theorem rO {a:Ab}{n:Nat}{now:Int}{m:Nm}{x:Vd}(h:(a.oN n now).v m=some x):∃y,a.v m=some y∧x.value=y.value∧x.keys=y.keys∧(x.bg=y.bg∨x.bg=now):=by
 simp -implicitDefEqProofs only[Ab.oN]at h
 cases h1:a.v m with
 | none=>rw[h1]at h;cases h
 | some y =>
  rw[h1]at h;simp -implicitDefEqProofs only[Option.map_some,Option.some.injEq]at h;subst h
  refine⟨y,rfl,?_⟩
  split
  ·exact⟨rfl,rfl,.inr rfl⟩
  ·exact⟨rfl,rfl,.inl rfl⟩
theorem AU {n:Nat}{l:List (ByteArray×ByteArray)}{ks:List ByteArray}(h:mC n l ks){p:ByteArray×ByteArray}(hp:p∈l):p.1∈ks∧p.2.size≤65535:=by
 obtain⟨i,hi,e⟩:=List.getElem_of_mem hp
 exact(h.2.2.2 i hi p (by rw[List.getElem?_eq_getElem hi,e])).2
theorem uu.put {a:Ab}(h:uu a){n:Nat}{l:List (ByteArray×ByteArray)}{ks:List ByteArray}{now:Int}(hm:mC n l ks)(ht:bq now):uu (a.put n l ks now):=by
 refine⟨h.S.put ht.1,fun m x e=>?_,fun m x e=>?_,fun k n' e=>?_⟩
 ·rcases xQ e with e|⟨_,v,_,rfl⟩
  ·exact h.T m x e
  ·simp only;split
   ·exact .inr ht
   ·exact .inl rfl
 ·rcases xQ e with e|⟨rfl,v,hv,rfl⟩
  ·exact h.G m x e
  ·have:=AU hm hv
   exact⟨hm.1,hm.2.1,this.1,this.2⟩
 ·rw[vE,h.L k n' e];rfl
theorem uu.oN {a:Ab}(h:uu a){n:Nat}{now:Int}(ht:bq now):uu (a.oN n now):=by
 refine⟨h.S.oN ht.1,fun m x e=>?_,fun m x e=>?_,fun k n' e=>?_⟩
 ·obtain⟨y,hy,_,_,hs⟩:=rO e
  rcases hs with hs|hs
  ·rw[hs];exact h.T m y hy
  ·rw[hs];exact .inr ht
 ·obtain⟨y,hy,h1,h2,_⟩:=rO e
  rw[h1,h2];exact h.G m y hy
 ·rw[AR]
  simp -implicitDefEqProofs only[Ab.oN]at e
  split at e
  ·rename_i hc;cases e;exact hc.1
  ·exact h.L k n' e
def Ab.zo (a:Ab)(m:Nm):Ab:=match a.v m with
 | some h=>if h.bg=-1 then a else a.cut m
 | none=>a
theorem uu.zo {a:Ab}(h:uu a)(m:Nm):uu (a.zo m):=by
 unfold Ab.zo
 split
 ·rename_i x hx
  split
  ·exact h
  ·rename_i hs
   have cs:∀m' y,(a.cut m).v m'=some y→a.v m'=some y:=fun m' y e=>by
    simp -implicitDefEqProofs only[Ab.cut]at e;split at e
    ·cases e
    ·exact e
   refine⟨fun m' y e=>h.S m' y (cs m' y e),fun m' y e=>h.T m' y (cs m' y e),fun m' y e=>h.G m' y (cs m' y e),fun k n e=>?_⟩
   have e:a.l k=some n:=e
   have h1:=h.L k n e
   simp -implicitDefEqProofs only[Ab.has,Ab.cut]
   rw[if_neg]
   ·exact h1
   ·intro e2
    have h3:=h.S m x hx
    refine hs (h3.2 ?_)
    rw[←e2];simp[Ab.last,e]
 ·exact h
def bT (a:Ab)(m:Nm):Kd:=⟨m.1,m.2,(iw (a.v m)).value,.arg,(iw (a.v m)).keys,(iw (a.v m)).bg⟩
theorem GU {a:Ab}{l:List Nm}(h:Names a l)(m:Nm):ai (yj (l.map (bT a))) m=a.v m:=by
 have hk:yj (l.map (bT a))=l.map fun m=>(m,iw (a.v m)):=by
  rw[yj,List.map_map];rfl
 rw[hk]
 have hn:((l.map fun m=>(m,iw (a.v m))).map (·.1)).Nodup:=by simpa[Function.comp_def]using h.nd
 cases hv:a.v m with
 | none =>
  refine cA.2 fun hh=>?_
  simp -implicitDefEqProofs only[List.map_map,List.mem_map,Function.comp]at hh
  obtain⟨x,hx,rfl⟩:=hh
  have:=(h.2 x).1 hx
  simp[Ab.has,hv]at this
 | some x =>
  have hm:m∈l:=(h.2 m).2 (by simp[Ab.has,hv])
  have:=dK hn (p:=(m,iw (a.v m))) (List.mem_map.2 ⟨m,hm,rfl⟩)
  rw[this,hv];rfl
theorem uv {a:Ab}{l:List ByteArray}(h:cX a l)(k:ByteArray):ai (l.map (gh a)) k=a.l k:=by
 have fz:l.Nodup:=h.1.imp fun {x y} GP e=>by rw[e,fk]at GP;cases GP
 have hn:((l.map (gh a)).map (·.1)).Nodup:=by
  have:(l.map (gh a)).map (·.1)=l:=by simp[gh,Function.comp_def]
  rw[this];exact fz
 cases hv:a.l k with
 | none =>
  refine cA.2 fun hh=>?_
  simp -implicitDefEqProofs only[List.map_map,List.mem_map,Function.comp,gh]at hh
  obtain⟨x,hx,rfl⟩:=hh
  have:=(h.2 x).1 hx
  rw[hv]at this;cases this
 | some n =>
  have hm:k∈l:=(h.2 k).2 (by rw[hv];rfl)
  have:=dK hn (p:=gh a k) (List.mem_map.2 ⟨k,hm,rfl⟩)
  have h2:ai (l.map (gh a)) k=some (a.last k):=this
  rw[h2];simp[Ab.last,hv]
theorem Cv {a:Ab}{l:List Nm}{ls:List ByteArray}(h:Names a l)(hl:cX a ls):dF (l.map (bT a)) (ls.map (gh a))=a:=gD (fun m=>GU h m) fun k=>uv hl k
theorem uu.load {a:Ab}(h:uu a){l:List Nm}{ls:List ByteArray}(hN:Names a l)(hL:cX a ls):dv (l.map (bT a)) (ls.map (gh a)):=by
 refine⟨List.pairwise_map.2 hL.1,List.pairwise_map.2 hN.1,fun x hx=>?_,fun e he=>?_⟩
 ·obtain⟨m,hm,rfl⟩:=List.mem_map.1 hx
  obtain⟨y,hy⟩:=Option.isSome_iff_exists.1 ((hN.2 m).1 hm)
  have gH:(dF [] (ls.map (gh a))).last m.1=a.last m.1:=by simp -implicitDefEqProofs only[Ab.last,dF,uv hL]
  have hvd:iw (a.v m)=y:=by rw[hy];rfl
  obtain⟨g1,g2,g3,g4⟩:=h.G m y hy
  have hS:=h.S m y hy
  have hT:=h.T m y hy
  have e1:(bT a m).id=m.2:=rfl
  have e2:(bT a m).key=m.1:=rfl
  have e3:(bT a m).keys=y.keys:=by simp -implicitDefEqProofs only[bT,hvd]
  have e4:(bT a m).value=y.value:=by simp -implicitDefEqProofs only[bT,hvd]
  have e5:(bT a m).bg=y.bg:=by simp -implicitDefEqProofs only[bT,hvd]
  unfold qf
  rw[e1,e2,e3,e4,e5,gH]
  refine⟨g1,g2,g3,g4,?_⟩
  split
  ·rename_i aw
   rcases hT with hT|hT
   ·exact absurd aw (hS.1 hT)
   ·exact hT
  ·rename_i aw;exact hS.2 aw
 ·obtain⟨k,hk,rfl⟩:=List.mem_map.1 he
  obtain⟨n,hn⟩:=Option.isSome_iff_exists.1 ((hL.2 k).1 hk)
  have hla:a.last k=n:=by simp[Ab.last,hn]
  have:=h.L k n hn
  refine⟨bT a (k,n),List.mem_map.2 ⟨(k,n),(hN.2 _).2 this,rfl⟩,?_⟩
  show(k,n)=(k,a.last k)
  rw[hla]
theorem UL {b:Bk}{a:Ab}{F:Nat→Prop}{m:Nat}(k:ByteArray)(n:Nat){H:af}(h:gO H b a F m)(hn:m≤7000000):W env (.call 25 [.ptr b.s 0,.str k,.int .u64 n]) H (fun o H'=>∃e,o=.val (.int .i64 e)∧gO H' b (a.zo (k,n)) F m∧bm F H H'):=by
 refine W.use (Ux k n h (by omega)) fun o H' hq=>?_
 rcases hq with⟨h1,hu,hx⟩|⟨x,h1,h2,hu,hx⟩|⟨x,h1,h2,hu,h',au⟩
 ·exact⟨_,hu,by simp -implicitDefEqProofs only[Ab.zo,h1];exact h.ext hx,aB hx⟩
 ·exact⟨_,hu,by simp -implicitDefEqProofs only[Ab.zo,h1,if_pos h2];exact h.ext hx,aB hx⟩
 ·exact⟨_,hu,by simp -implicitDefEqProofs only[Ab.zo,h1,if_neg h2];exact h',au⟩
end Go.Proofs.YtdcpehdijdllpaaGreat.St
end

section
namespace Go.Proofs.YtdcpehdijdllpaaGreat.St
open Go.Rmp Go.Proofs.YtdcpehdijdllpaaGreat.Ir
set_option maxRecDepth 10000
theorem Cw {α:Type}{enc:α→List T}{n:Nat}(hn:∀x,(enc x).length=n){H:af}{b:Nat}{xs:List α}(hb:H[b]?=some (.cells (aE enc xs)))(j k:Nat)(Sf:j+k≤xs.length):bA H n (.ax b (j*n) k n)=some (((xs.drop j).take k).map enc):=(fU hn hb j k k 0 Sf).1
end Go.Proofs.YtdcpehdijdllpaaGreat.St
end

section
namespace Go.Proofs.YtdcpehdijdllpaaGreat.St
open Go.Rmp Go.Proofs.YtdcpehdijdllpaaGreat.Ir
set_option maxRecDepth 10000
theorem AV {b:Bk}{a:Ab}{F:Nat→Prop}{m:Nat}{H:af}(h:gO H b a F m)(hn:m≤8000000)(Nc:∀k n,a.l k=some n→a.has (k,n)=true):W env (.call 20 [.ptr b.s 0]) H (fun o H'=>Ext H H'∧∃k l,iD k l∧cX a l∧l.length≤m∧o=.val (.sl k ((l.map (gh a)).map eW))):=by
 obtain⟨s,sh,hi,rfl,h4,h5⟩:=h
 have hl:s.ls.length≤s.vs.length:=by
  have fz:s.ls.Nodup:=by
   have:=hi.yX
   exact(List.pairwise_map.1 this).imp fun {a b} h e=>h (by rw[e])
  have:=AP (l:=s.ls) (l':=s.vs.map (·.1)) fz fun e he=>by
   have h1:=dK hi.yX he
   have h2:=Nc e.1 e.2 h1
   rw[mem_keys]
   simpa[Ab.has,eA]using h2
  simpa using this
 refine W.use (GL b s F H sh hi (by omega)) fun o H' ⟨hx,k,l,pq,hu,hp,Ky⟩=>⟨hx,k,l,pq,⟨Ky,fun x=>?_⟩,?_,?_⟩
 ·rw[hp.mem_iff,mem_keys];rfl
 ·rw[hp.length_eq,List.length_map];omega
 ·rw[hu,pW,List.map_map,List.map_map];rfl
def ak (x:Kd):Kd:={ x with kk:=.arg }
theorem dv.look {kept:List Kd}{a0:List Nm}(h:dv kept a0){x:Kd}(hx:x∈kept):(dF kept a0).v x.nm=some x.vd:=by
 have fz:((yj kept).map (·.1)).Nodup:=by rw[ou];exact h.2.1.nd
 exact dK fz (p:=(x.nm,x.vd)) (List.mem_map.2 ⟨x,hx,rfl⟩)
theorem dv.names {kept:List Kd}{a0:List Nm}(h:dv kept a0):Names (dF kept a0) (kept.map Kd.nm):=⟨List.pairwise_map.2 h.2.1,fun m=>by
 rw[←ou,mem_keys];rfl⟩
theorem dv.Pr {kept:List Kd}{a0:List Nm}(h:dv kept a0):cX (dF kept a0) (a0.map (·.1)):=⟨List.pairwise_map.2 h.1,fun m=>by
 rw[mem_keys];rfl⟩
theorem dv.aaT {kept:List Kd}{a0:List Nm}(h:dv kept a0):(a0.map (·.1)).map (gh (dF kept a0))=a0:=by
 rw[List.map_map]
 refine(List.map_congr_left fun x hx=>?_).trans (List.map_id _)
 have h1:=dK h.1.nd hx
 have h2:(dF kept a0).last x.1=x.2:=by
  show(ai a0 x.1).getD 0=x.2
  rw[h1];rfl
 simp -implicitDefEqProofs only[Function.comp,gh,h2];rfl
theorem dv.lv {kept:List Kd}{a0:List Nm}(h:dv kept a0)(k:ByteArray)(n:Nat)(hl:(dF kept a0).l k=some n):(dF kept a0).has (k,n)=true:=by
 obtain⟨x,hx,e⟩:=h.2.2.2 (k,n) (lO hl)
 have:=h.look hx
 rw[e]at this
 simp[Ab.has,this]
end Go.Proofs.YtdcpehdijdllpaaGreat.St
end

section
namespace Go.Proofs.YtdcpehdijdllpaaGreat.St
open Go.Rmp Go.Proofs.YtdcpehdijdllpaaGreat.Ir
set_option maxRecDepth 10000
theorem Ik.refl (G:Nat→Prop)(H H':af):Ik G G H H':=fun _ h=>.inl h
end Go.Proofs.YtdcpehdijdllpaaGreat.St
end

section
namespace Go.Proofs.YtdcpehdijdllpaaGreat.St
open Go.Rmp Go.Proofs.YtdcpehdijdllpaaGreat.Ir
set_option maxRecDepth 10000
theorem UM {p:Nat}(n:Nat)(now:Int){H:af}(hm:¬(65536≤n∧bq now)):W env (.call 24 [.ptr p 0,.int .u64 n,.int .i64 now]) H (fun o H'=>o=.val (.bJ [.int .i64 0,.int .i64 1])∧H'=H):=by
 refine W.bU rfl rfl rfl ?_
 by_cases hn:n<65536
 ·simp -implicitDefEqProofs only[Ft,op,ef,cl,sq,reduceIte,j4,j5,j6,j7,j8,j9,y1,y2,y3,S1,hn]
 ·simp -implicitDefEqProofs only[Ft,op,ef,cl,sq,reduceIte,j4,j5,j6,j7,j8,j9,y1,y2,y3,S1,hn]
  refine ae _ _ _ _ _ _ _ _ (rB now _) ?_
  rintro u H2⟨hu,rfl⟩
  cases hu
  have hf:(decide (0≤now)&&decide (now≤1099511627776))=false:=by
   rw[Bool.and_eq_false_iff,decide_eq_false_iff_not,decide_eq_false_iff_not]
   have:¬bq now:=fun h=>hm ⟨by omega,h⟩
   unfold bq at this;omega
  simp -implicitDefEqProofs only[op,ef,cl,sq,reduceIte,j4,j5,j6,j7,j8,j9,y1,y2,y3,S1,hf]
end Go.Proofs.YtdcpehdijdllpaaGreat.St
end

section
namespace Go.Proofs.YtdcpehdijdllpaaGreat.St
open Go.Rmp
def oA (a:Nat)(l:List Nat):Nat:=l.foldl (fun v c=>v*256+c) a
def dC:Nat→Nat→List Nat
 | 0,_=>[]
 | k+1,v=>v/256^k%256 :: dC k v
def dG (l:List Nat):Prop:=∀x∈l,x<256
theorem dG.app {l m:List Nat}(h:dG l)(h':dG m):dG (l++m):=fun x hx=>(List.mem_append.1 hx).elim (h x) (h' x)
theorem dG.take {l:List Nat}(h:dG l)(n:Nat):dG (l.take n):=fun x hx=>h x (List.mem_of_mem_take hx)
theorem dG.drop {l:List Nat}(h:dG l)(n:Nat):dG (l.drop n):=fun x hx=>h x (List.mem_of_mem_drop hx)
theorem bl:∀k v,(dC k v).length=k
 | 0,_=>rfl
 | k+1,v=>by simp[dC,bl k v]
theorem fc:∀k v,dG (dC k v)
 | 0,_=>fun x hx=>by cases hx
 | k+1,v=>fun x hx=>by
  rcases List.mem_cons.1 hx with rfl|h
  ·exact Nat.mod_lt _ (by decide)
  ·exact fc k v x h
theorem zp:∀k a v,oA a (dC k v)=a*256^k+v%256^k
 | 0,a,v=>by simp[oA,dC,Nat.mod_one]
 | k+1,a,v=>by
  show oA (a*256+v/256^k%256) (dC k v)=_
  rw[zp k]
  have h1:v%256^(k+1)=v%256^k+256^k*(v/256^k%256):=Nat.mod_mul
  rw[h1,Nat.pow_succ,Nat.add_mul,Nat.mul_comm (256^k) (v/256^k%256),Nat.mul_assoc a,Nat.mul_comm 256 (256^k)]
  omega
theorem vF:∀(l:List Nat) (a:Nat),dG l→oA a l<(a+1)*256^l.length
 | [],a,_=>by simp[oA]
 | c :: l,a,h=>by
  have hc:=h c (by simp)
  have:=vF l (a*256+c) fun x hx=>h x (List.mem_cons_of_mem _ hx)
  show oA (a*256+c) l<_
  refine Nat.lt_of_lt_of_le this ?_
  rw[List.length_cons,Nat.pow_succ,Nat.mul_comm (256^l.length) 256,←Nat.mul_assoc]
  exact Nat.mul_le_mul_right _ (by omega)
theorem rP (a c:Nat)(l:List Nat):oA a (c :: l)=oA (a*256+c) l:=rfl
theorem zq:∀(l:List Nat) (a:Nat),oA a l=a*256^l.length+oA 0 l
 | [],a=>by simp[oA]
 | c :: l,a=>by
  rw[rP,rP,zq l (a*256+c),zq l (0*256+c),List.length_cons,Nat.pow_succ,Nat.add_mul,Nat.zero_mul,Nat.zero_add,Nat.mul_assoc,Nat.mul_comm 256]
  omega
theorem GV:∀(l:List Nat),dG l→dC l.length (oA 0 l)=l
 | [],_=>rfl
 | c :: l,h=>by
  have hc:=h c (by simp)
  have hl:dG l:=fun x hx=>h x (List.mem_cons_of_mem _ hx)
  have h1:oA 0 (c :: l)=c*256^l.length+oA 0 l:=by rw[rP,zq];simp
  have h2:oA 0 l<256^l.length:=by have:=vF l 0 hl;simpa using this
  have h3:0<256^l.length:=Nat.pow_pos (by decide)
  rw[h1]
  show(c*256^l.length+oA 0 l)/256^l.length%256 :: dC l.length (c*256^l.length+oA 0 l)=_
  have e1:(c*256^l.length+oA 0 l)/256^l.length=c:=by
   rw[Nat.mul_comm,Nat.mul_add_div h3,Nat.div_eq_of_lt h2];rfl
  have e2:∀k v w m,k≤m→dC k (w*256^m+v)=dC k v:=by
   intro k
   induction k with
   | zero=>intros;rfl
   | succ k ih =>
    intro v w m hm
    have hp:0<256^k:=Nat.pow_pos (by decide)
    obtain⟨d,rfl⟩:∃d,m=k+1+d:=⟨m-(k+1),by omega⟩
    have e:w*256^(k+1+d)=256^k*(256*(w*256^d)):=by
     rw[Nat.pow_add,Nat.pow_succ]
     rw[Nat.mul_comm w,Nat.mul_assoc,Nat.mul_assoc,Nat.mul_comm (256^d) w]
    show(w*256^(k+1+d)+v)/256^k%256 :: dC k (w*256^(k+1+d)+v)=v/256^k%256 :: dC k v
    rw[ih v w _ (by omega),e,Nat.mul_add_div hp,Nat.mul_add_mod]
  rw[e1,e2 _ _ _ _ (Nat.le_refl _),GV l hl,Nat.mod_eq_of_lt hc]
def tL (s:ByteArray):List Nat:=s.data.toList.map UInt8.toNat
def vG (l:List Nat):ByteArray:=⟨(l.map UInt8.ofNat).toArray⟩
theorem rQ (s:ByteArray):(tL s).length=s.size:=by simp[tL]
theorem Ps (s:ByteArray):dG (tL s):=fun x hx=>by
 obtain⟨c,_,rfl⟩:=List.mem_map.1 hx
 exact UInt8.toNat_lt c
theorem UN (s:ByteArray):vG (tL s)=s:=by
 obtain⟨⟨l⟩⟩:=s
 unfold vG tL
 congr 2
 simp -implicitDefEqProofs only[List.map_map]
 refine(List.map_congr_left fun c _=>?_).trans (List.map_id _)
 simp
theorem GW {l:List Nat}(h:dG l):tL (vG l)=l:=by
 unfold vG tL
 simp -implicitDefEqProofs only[List.map_map]
 refine(List.map_congr_left fun c hc=>?_).trans (List.map_id _)
 have:=h c hc
 simp[Function.comp,UInt8.toNat_ofNat',Nat.mod_eq_of_lt this]
theorem GX (l:List Nat):(vG l).size=l.length:=by
 show(l.map UInt8.ofNat).toArray.size=_
 simp
def pN (k:Nat)(l:List Nat):Option (Nat×List Nat):=if l.length<k then none else some (oA 0 (l.take k),l.drop k)
def pT (m:Nat)(l:List Nat):Option (ByteArray×List Nat):=match pN 4 l with
 | none=>none
 | some (n,r)=>if m<n then none else if r.length<n then none else some (vG (r.take n),r.drop n)
def pM {α:Type}(p:List Nat→Option (α×List Nat))(l:List Nat):Nat→Option (List α×List Nat)
 | 0=>some ([],l)
 | n+1=>match pM p l n with
  | none=>none
  | some (xs,r)=>match p r with
   | none=>none
   | some (x,r')=>some (xs++[x],r')
theorem AW {α : Type}{p : List Nat → Option (α×List Nat)}{l : List Nat}{i n : Nat}(h : pM p l i = none)(hi : i ≤ n) : pM p l n = none := by
  induction n with
  | zero => obtain rfl : i = 0 := by omega
            exact h
  | succ n ih =>
    by_cases e : i = n + 1
    · rw[←e]; exact h
    · have := ih (by omega)
      simp -implicitDefEqProofs only[pM, this]
theorem jc {α:Type}{p:List Nat→Option (α×List Nat)}{l r:List Nat}{n:Nat}{xs:List α}(h:pM p l n=some (xs,r)):pM p l (n+1)=match p r with
  | none=>none
  | some (x,r')=>some (xs++[x],r'):=by simp -implicitDefEqProofs only[pM,h]
theorem vH {α:Type}{p:List Nat→Option (α×List Nat)}{l r:List Nat}:∀{n:Nat} {xs:List α},pM p l n=some (xs,r)→xs.length=n
 | 0,xs,h=>by simp -implicitDefEqProofs only[pM,Option.some.injEq,Prod.mk.injEq]at h;rw[←h.1];rfl
 | n+1,xs,h=>by
  cases h1:pM p l n with
  | none=>simp -implicitDefEqProofs only[pM,h1]at h;cases h
  | some y =>
   obtain⟨ys,r1⟩:=y
   rw[jc h1]at h
   cases h2:p r1 with
   | none=>rw[h2]at h;cases h
   | some z =>
    obtain⟨z,r2⟩:=z
    rw[h2]at h
    simp -implicitDefEqProofs only[Option.some.injEq,Prod.mk.injEq]at h
    rw[←h.1,List.length_append,vH h1];rfl
def eT (s:ByteArray):List Nat:=dC 4 s.size++tL s
theorem vI (s:ByteArray):dG (eT s):=(fc _ _).app (Ps s)
theorem iz (s:ByteArray):(eT s).length=4+s.size:=by simp[eT,bl,rQ]
theorem zr {k v:Nat}(r:List Nat)(h:v<256^k):pN k (dC k v++r)=some (v,r):=by
 unfold pN
 rw[if_neg (by simp[bl]),List.take_left' (bl k v),List.drop_left' (bl k v),zp,Nat.mod_eq_of_lt h]
 simp
theorem jr {k v:Nat}{l r:List Nat}(hb:dG l)(h:pN k l=some (v,r)):l=dC k v++r∧v<256^k∧dG r:=by
 unfold pN at h
 split at h
 ·cases h
 ·rename_i hl
  simp -implicitDefEqProofs only[Option.some.injEq,Prod.mk.injEq]at h
  obtain⟨rfl,rfl⟩:=h
  have hk:(l.take k).length=k:=by rw[List.length_take];omega
  have e:=GV (l.take k) (hb.take k)
  rw[hk]at e
  refine⟨by rw[e,List.take_append_drop],?_,hb.drop k⟩
  have:=vF (l.take k) 0 (hb.take k)
  rw[hk]at this;simpa using this
theorem KH {m:Nat}{s:ByteArray}(r:List Nat)(h:s.size≤m)(h4:s.size<4294967296):pT m (eT s++r)=some (s,r):=by
 unfold pT eT
 rw[List.append_assoc,zr _ h4]
 simp only
 rw[if_neg (by omega),if_neg (by simp[rQ]),List.take_left' (rQ s),List.drop_left' (rQ s),UN]
theorem vJ {m:Nat}{s:ByteArray}{l r:List Nat}(hb:dG l)(h:pT m l=some (s,r)):l=eT s++r∧s.size≤m∧s.size<4294967296∧dG r:=by
 unfold pT at h
 cases h1:pN 4 l with
 | none=>rw[h1]at h;cases h
 | some x =>
  obtain⟨n,r1⟩:=x
  rw[h1]at h
  simp only at h
  obtain⟨e1,e2,e3⟩:=jr hb h1
  split at h
  ·cases h
  ·split at h
   ·cases h
   ·rename_i h2 h3
    simp -implicitDefEqProofs only[Option.some.injEq,Prod.mk.injEq]at h
    obtain⟨rfl,rfl⟩:=h
    have hs:(vG (r1.take n)).size=n:=by rw[GX,List.length_take];omega
    refine⟨?_,by rw[hs];omega,by rw[hs];exact e2,e3.drop n⟩
    unfold eT
    rw[hs,GW (e3.take n),List.append_assoc,List.take_append_drop]
    exact e1
theorem UO {α:Type}{p:List Nat→Option (α×List Nat)}{e:α→List Nat}(r:List Nat):∀(n:Nat) (xs:List α) (l:List Nat),(∀x∈xs,∀r,p (e x++r)=some (x,r))→n≤xs.length→l=xs.flatMap e++r→pM p l n=some (xs.take n,(xs.drop n).flatMap e++r)
 | 0,xs,l,_,_,hl=>by simp[pM,hl]
 | n+1,xs,l,hx,hn,hl=>by
  rw[jc (UO r n xs l hx (by omega) hl)]
  have aw:n<xs.length:=by omega
  rw[List.drop_eq_getElem_cons aw,List.flatMap_cons,List.append_assoc,hx _ (List.getElem_mem aw)]
  simp -implicitDefEqProofs only[Option.some.injEq,Prod.mk.injEq,and_true]
  rw[List.take_succ_eq_append_getElem aw]
theorem GY {α:Type}{p:List Nat→Option (α×List Nat)}{e:α→List Nat}(xs:List α)(r:List Nat)(hx:∀x∈xs,∀r,p (e x++r)=some (x,r)):pM p (xs.flatMap e++r) xs.length=some (xs,r):=by
 have:=UO r xs.length xs _ hx (Nat.le_refl _) rfl
 simpa using this
theorem zs {α:Type}{p:List Nat→Option (α×List Nat)}{e:α→List Nat}{Q:α→Prop}{l:List Nat}(hb:dG l)(hp:∀l x r,dG l→p l=some (x,r)→l=e x++r∧Q x∧dG r):∀{n:Nat} {xs:List α} {r:List Nat},pM p l n=some (xs,r)→l=xs.flatMap e++r∧(∀x∈xs,Q x)∧dG r
 | 0,xs,r,h=>by
  simp -implicitDefEqProofs only[pM,Option.some.injEq,Prod.mk.injEq]at h
  obtain⟨rfl,rfl⟩:=h
  exact⟨rfl,(fun x hx=>by simp at hx),hb⟩
 | n+1,xs,r,h=>by
  cases h1:pM p l n with
  | none=>simp -implicitDefEqProofs only[pM,h1]at h;cases h
  | some y =>
   obtain⟨ys,r1⟩:=y
   obtain⟨i1,i2,i3⟩:=zs hb hp h1
   rw[jc h1]at h
   cases h2:p r1 with
   | none=>rw[h2]at h;cases h
   | some z =>
    obtain⟨z,r2⟩:=z
    rw[h2]at h
    simp -implicitDefEqProofs only[Option.some.injEq,Prod.mk.injEq]at h
    obtain⟨rfl,rfl⟩:=h
    obtain⟨j1,j2,j3⟩:=hp _ _ _ i3 h2
    refine⟨by rw[List.flatMap_append,List.append_assoc];simp -implicitDefEqProofs only[List.flatMap_cons,List.flatMap_nil,List.append_nil];rw[←j1];exact i1,fun x hx=>?_,j3⟩
    rcases List.mem_append.1 hx with hx|hx
    ·exact i2 x hx
    ·simp at hx;subst hx;exact j2
def Pt:Nat:=3988292384
def uw (w:Nat):Nat:=w/2 ^^^ (if w%2=1 then Pt else 0)
def eb:Nat→Nat→Nat
 | 0,w=>w
 | n+1,w=>eb n (uw w)
theorem xR (n m w:Nat):eb (n+m) w=eb m (eb n w):=by
 induction n generalizing w with
 | zero=>simp[eb]
 | succ n ih=>rw[Nat.succ_add];exact ih _
theorem Pu {w:Nat}(h:w<4294967296):uw w<4294967296:=by
 unfold uw
 refine Nat.xor_lt_two_pow (n:=32) (by omega) ?_
 split
 ·decide
 ·decide
theorem mm:∀n {w:Nat},w<4294967296→eb n w<4294967296
 | 0,_,h=>h
 | n+1,_,h=>mm n (Pu h)
theorem GZ (a b:Nat):(a ^^^ b)/2=a/2 ^^^ b/2:=by
 have:=Nat.shiftRight_xor_distrib (a:=a) (b:=b) (i:=1)
 simpa[Nat.shiftRight_succ]using this
theorem KI (a b:Nat):(a ^^^ b)%2=(a%2+b%2)%2:=by
 have h1:(a ^^^ b).testBit 0=(a.testBit 0 ^^ b.testBit 0):=Nat.testBit_xor ..
 simp -implicitDefEqProofs only[Nat.testBit_zero]at h1
 have ha:=Nat.mod_two_eq_zero_or_one a
 have hb:=Nat.mod_two_eq_zero_or_one b
 have hc:=Nat.mod_two_eq_zero_or_one (a ^^^ b)
 rcases ha with ha|ha<;>rcases hb with hb|hb<;>rcases hc with hc|hc<;>simp_all
theorem KJ (a b:Nat):uw (a ^^^ b)=uw a ^^^ uw b:=by
 unfold uw
 rw[GZ,KI]
 have ha:=Nat.mod_two_eq_zero_or_one a
 have hb:=Nat.mod_two_eq_zero_or_one b
 rcases ha with ha|ha<;>rcases hb with hb|hb<;>simp[ha,hb]
 ·rw[Nat.xor_assoc]
 ·rw[Nat.xor_assoc,Nat.xor_assoc,Nat.xor_comm Pt]
 ·rw[Nat.xor_assoc,Nat.xor_comm Pt,Nat.xor_assoc,Nat.xor_self,Nat.xor_zero]
theorem xS:∀n a b,eb n (a ^^^ b)=eb n a ^^^ eb n b
 | 0,_,_=>rfl
 | n+1,a,b=>by
  show eb n (uw (a ^^^ b))=_
  rw[KJ,xS n];rfl
theorem oB (x:Nat):uw (2*x)=x:=by unfold uw;simp
theorem Pv (q:Nat):eb 4 (16*q)=q:=by
 have e:16*q=2*(2*(2*(2*q))):=by omega
 rw[e]
 show uw (uw (uw (uw (2*(2*(2*(2*q)))))))=q
 rw[oB,oB,oB,oB]
theorem KK (w:Nat):w=16*(w/16) ^^^ w%16:=by
 refine Nat.eq_of_testBit_eq fun i=>?_
 have e1:16*(w/16)=2^4*(w/2^4):=rfl
 have e2:w%16=w%2^4:=rfl
 rw[Nat.testBit_xor,e1,e2,Nat.testBit_two_pow_mul,Nat.testBit_mod_two_pow,Nat.testBit_div_two_pow]
 by_cases h:4≤i
 ·have:i-4+4=i:=by omega
  have h':¬i<4:=by omega
  simp[h,h',this]
 ·have h':i<4:=by omega
  simp[h,h']
theorem Cx (w:Nat):eb 4 w=w/16 ^^^ eb 4 (w%16):=by
 have h:=KK w
 have e:eb 4 w=eb 4 (16*(w/16) ^^^ w%16):=by rw[←h]
 rw[e,xS,Pv]
def KL (w c:Nat):Nat:=eb 8 (w ^^^ c)
def sY (w:Nat)(l:List Nat):Nat:=l.foldl KL w
def iM (l:List Nat):Nat:=4294967295-sY 4294967295 l
theorem KM {w c:Nat}(h:w<4294967296)(hc:c<256):KL w c<4294967296:=mm 8 (Nat.xor_lt_two_pow (n:=32) h (by omega))
theorem vK:∀(l:List Nat) {w:Nat},w<4294967296→dG l→sY w l<4294967296
 | [],_,h,_=>h
 | c :: l,w,h,hb=>vK l (KM h (hb c (by simp))) fun x hx=>hb x (List.mem_cons_of_mem _ hx)
theorem Cy (w:Nat)(l:List Nat)(c:Nat):sY w (l++[c])=KL (sY w l) c:=by simp[sY]
theorem KN (l:List Nat):iM l<4294967296:=by unfold iM;omega
end Go.Proofs.YtdcpehdijdllpaaGreat.St
end

section
namespace Go.Proofs.YtdcpehdijdllpaaGreat.St
open Go.Rmp Go.Proofs.YtdcpehdijdllpaaGreat.Ir
set_option maxRecDepth 10000
theorem wrap32 {n:Nat}(h:n<4294967296):IntKind.u32.wrap (n:Int)=(n:Int):=by
 unfold IntKind.wrap
 simp -implicitDefEqProofs only[IntKind.signed,IntKind.bits]
 simp
 omega
theorem gP {n:Nat}(h:n<18446744073709551616):IntKind.u64.wrap (n:Int)=(n:Int):=u3 (by omega)
theorem nn (n:Nat):IntKind.u8.wrap (n:Int)=((n%256:Nat):Int):=by
 unfold IntKind.wrap
 simp -implicitDefEqProofs only[IntKind.signed,IntKind.bits]
 simp
theorem Wz (n m:Nat):(n:Int).fdiv (2^m)=((n/2^m:Nat):Int):=by
 rw[Int.fdiv_eq_ediv_of_nonneg _ (Int.le_of_lt (Int.pow_pos (by decide)))]
 simp
theorem Mn (w a b:Nat)(ha:a<2^w)(hb:b<2^w):(BitVec.ofInt w (a:Int) &&& BitVec.ofInt w (b:Int)).toNat=a &&& b:=by
 simp[Nat.mod_eq_of_lt ha,Nat.mod_eq_of_lt hb]
theorem UP (w a b:Nat)(ha:a<2^w)(hb:b<2^w):(BitVec.ofInt w (a:Int) ||| BitVec.ofInt w (b:Int)).toNat=a ||| b:=by
 simp[Nat.mod_eq_of_lt ha,Nat.mod_eq_of_lt hb]
theorem Mo (w a b:Nat)(ha:a<2^w)(hb:b<2^w):(BitVec.ofInt w (a:Int) ^^^ BitVec.ofInt w (b:Int)).toNat=a ^^^ b:=by
 simp[Nat.mod_eq_of_lt ha,Nat.mod_eq_of_lt hb]
theorem AX {a b:Nat}(ha:a<4294967296)(hb:b<4294967296):IntKind.u32.wrap ((BitVec.ofInt IntKind.u32.bits (a:Int) ^^^ BitVec.ofInt IntKind.u32.bits (b:Int)).toNat:Nat)=((a ^^^ b:Nat):Int):=by
 have e:(BitVec.ofInt IntKind.u32.bits (a:Int) ^^^ BitVec.ofInt IntKind.u32.bits (b:Int)).toNat=a ^^^ b:=Mo 32 a b ha hb
 rw[e,wrap32 (Nat.xor_lt_two_pow (n:=32) ha hb)]
theorem UQ {a:Nat}(ha:a<4294967296):IntKind.u32.wrap ((BitVec.ofInt IntKind.u32.bits (a:Int) &&& BitVec.ofInt IntKind.u32.bits 1).toNat:Nat)=((a%2:Nat):Int):=by
 have e:(BitVec.ofInt IntKind.u32.bits (a:Int) &&& BitVec.ofInt IntKind.u32.bits 1).toNat=a &&& 1:=Mn 32 a 1 ha (by decide)
 rw[e,Nat.and_one_is_mod,wrap32 (by omega)]
theorem G0 {a:Nat}(ha:a<4294967296):IntKind.u32.wrap ((BitVec.ofInt IntKind.u32.bits (a:Int) &&& BitVec.ofInt IntKind.u32.bits 15).toNat:Nat)=((a%16:Nat):Int):=by
 have e:(BitVec.ofInt IntKind.u32.bits (a:Int) &&& BitVec.ofInt IntKind.u32.bits 15).toNat=a &&& 15:=Mn 32 a 15 ha (by decide)
 have e2:a &&& 15=a%16:=Nat.and_two_pow_sub_one_eq_mod a 4
 rw[e,e2,wrap32 (by omega)]
theorem UR (a:Nat):(a:Int).fdiv (2^(min (1:Int).toNat IntKind.u32.bits))=((a/2:Nat):Int):=Wz a 1
theorem Mp (a:Nat):(a:Int).fdiv (2^(min (4:Int).toNat IntKind.u32.bits))=((a/16:Nat):Int):=Wz a 4
theorem Mq {a:Nat}(ha:a<4294967296):IntKind.u32.wrap ((BitVec.ofInt IntKind.u32.bits (if IntKind.u32.signed then -1 else IntKind.u32.max) ^^^ BitVec.ofInt IntKind.u32.bits (a:Int)).toNat:Nat)=((4294967295-a:Nat):Int):=by
 have e:(BitVec.ofInt IntKind.u32.bits (if IntKind.u32.signed then -1 else IntKind.u32.max) ^^^ BitVec.ofInt IntKind.u32.bits (a:Int)).toNat=4294967295 ^^^ a:=Mo 32 4294967295 a (by decide) ha
 have e2:(4294967295 ^^^ a:Nat)=4294967295-a:=by
  have:=BitVec.toNat_not (x:=BitVec.ofNat 32 a)
  have h3 : ~~~ (BitVec.ofNat 32 a)=BitVec.allOnes 32 ^^^ BitVec.ofNat 32 a:=by rw[BitVec.allOnes_xor]
  rw[h3,BitVec.toNat_xor,BitVec.toNat_allOnes,BitVec.toNat_ofNat,Nat.mod_eq_of_lt ha]at this
  exact this
 rw[e,e2,wrap32 (by omega)]
theorem KO (w:Nat)(hw:w<4294967296)(H:af):W env (.call 113 [.int .u32 w]) H (oL (.int .u32 (uw w)) H):=by
 have h1:=UQ hw
 have h2:=UR w
 have h3:IntKind.u32.wrap ((BitVec.ofInt IntKind.u32.bits ((w/2:Nat):Int) ^^^ BitVec.ofInt IntKind.u32.bits 3988292384).toNat:Nat)=((w/2 ^^^ 3988292384:Nat):Int):=AX (a:=w/2) (b:=3988292384) (by omega) (by decide)
 have e1:(((w%2:Nat):Int)==1)=decide (w%2=1):=by
  rcases Nat.mod_two_eq_zero_or_one w with h|h<;>rw[h]<;>rfl
 refine W.bU rfl rfl rfl ?_
 by_cases ho:w%2=1
 ·have e:uw w=w/2 ^^^ 3988292384:=by unfold uw;rw[if_pos ho];rfl
  simp -implicitDefEqProofs only[Ay,op,ef,cl,sq,reduceIte,j4,j5,j6,j7,j8,j9,y1,y2,y3,S1,h1,h2,h3,e1,ho,e]
 ·have e:uw w=w/2:=by unfold uw;rw[if_neg ho];simp
  simp -implicitDefEqProofs only[Ay,op,ef,cl,sq,reduceIte,j4,j5,j6,j7,j8,j9,y1,y2,y3,S1,h1,h2,h3,e1,ho,e]
theorem Cz (k w:Nat):eb (k+1) w=uw (eb k w):=by rw[xR];rfl
def eC (i:Nat):List T:=(List.range 16).map fun j=>T.int .u32 (if j<i then eb 4 j else 0:Nat)
theorem oC (i:Nat):(eC i).length=16:=rfl
theorem G1 {i:Nat}(h:i<16):(eC i).set i (.int .u32 (eb 4 i))=eC (i+1):=by
 refine List.ext_getElem? fun j=>?_
 rw[List.getElem?_set,oC]
 unfold eC
 rw[List.getElem?_map,List.getElem?_map]
 by_cases e:i=j
 ·subst e
  rw[if_pos rfl,if_pos h]
  simp[h]
 ·rw[if_neg e]
  by_cases hj:j<16
  ·simp -implicitDefEqProofs only[List.getElem?_range hj,Option.map_some]
   by_cases h1:j<i
   ·have:j<i+1:=by omega
    simp[h1,this]
   ·have:¬j<i+1:=by omega
    simp[h1,this]
  ·simp[hj]
theorem G2 (H:af):W env (.call 83 []) H (fun o H'=>Ext H H'∧o=.val (.agg (eC 16))):=by
 refine W.bU rfl rfl rfl ?_
 obtain⟨H1,wh⟩:∃H1,H1=H++[B.cells (eC 0)]:=⟨_,rfl⟩
 obtain⟨H2,CA⟩:∃H2,H2=H1++[B.cells (eC 0)]:=⟨_,rfl⟩
 have z:[T.int .u32 0,T.int .u32 0,T.int .u32 0,T.int .u32 0,T.int .u32 0,T.int .u32 0,T.int .u32 0,T.int .u32 0,T.int .u32 0,T.int .u32 0,T.int .u32 0,T.int .u32 0,T.int .u32 0,T.int .u32 0,T.int .u32 0,T.int .u32 0]=eC 0:=rfl
 simp -implicitDefEqProofs only[OB,op,ef,cl,sq,reduceIte,j4,j5,j6,j7,j8,j9,y1,y2,y3,S1,S2]
 rw[z,←wh,←CA]
 have l1:H1.length=H.length+1:=by rw[wh];simp
 refine W.eZ 0 [(0,_),(1,_)] (fun (i:Nat) R H'=>At H' (fun H'=>∃c0,H'[H.length]?=some (.cells c0)∧c0.length=16∧H'[H1.length]?=some (.cells (eC i))∧Ext H H')∧R 4=.int .i64 i∧i≤16) (fun i=>16-i) 0
  (fun R H'=>At H' (fun H'=>∃c0,H'[H.length]?=some (.cells c0)∧c0.length=16∧H'[H1.length]?=some (.cells (eC 16))∧Ext H H')) ⟨.i ⟨eC 0,by rw[CA,wh];rw[List.append_assoc];exact aO rfl,rfl,by rw[CA];exact aO rfl,by rw[CA,wh];exact(Ext.rfl'.app _).app _⟩,rfl,Nat.zero_le _⟩ ?_ ?_
 ·rintro i R H3⟨⟨c0,d0,dl,d1,hx⟩,g4,hi⟩
  by_cases aw:i<16
  rotate_left
  ·have lu:i=16:=by omega
   subst lu
   have e:decide (((16:Nat):Int)<16)=false:=by decide
   simp -implicitDefEqProofs only[aq,ah,op,ef,cl,sq,reduceIte,j4,j5,j6,j7,j8,j9,y1,y2,y3,S1,g4,e,cS]
   exact .i ⟨c0,d0,dl,d1,hx⟩
  have e:decide ((i:Int)<16)=true:=by simp;omega
  have wc:=wrap32 (n:=i) (by omega)
  simp -implicitDefEqProofs only[aq,ah,op,ef,cl,sq,reduceIte,j4,j5,j6,j7,j8,j9,y1,y2,y3,S1,g4,e,wc]
  refine W.eZ 2 [(0,_),(1,_),(2,_),(4,_)] (fun (k:Nat) R H'=>H'=H3∧R 3=.int .u32 (eb k i:Nat)∧R 9=.int .i64 k∧k≤4) (fun k=>4-k) 0
   (fun R H'=>H'=H3∧R 3=.int .u32 (eb 4 i:Nat)) ⟨rfl,rfl,rfl,Nat.zero_le _⟩ ?_ ?_
  ·rintro k R H4⟨rfl,g3,g9,hk⟩
   by_cases iG:k<4
   rotate_left
   ·have zN:k=4:=by omega
    subst zN
    have e:decide (((4:Nat):Int)<4)=false:=by decide
    simp -implicitDefEqProofs only[aq,ah,op,ef,cl,sq,reduceIte,j4,j5,j6,j7,j8,j9,y1,y2,y3,S1,g3,g9,e,cS]
   have e:decide ((k:Int)<4)=true:=by simp;omega
   have wk:=aC (show k<9223372036854775807 by omega)
   simp -implicitDefEqProofs only[aq,ah,op,ef,cl,sq,reduceIte,j4,j5,j6,j7,j8,j9,y1,y2,y3,S1,g3,g9,e]
   refine ae _ _ _ _ _ _ _ _ (KO (eb k i) (mm k (by omega)) _) ?_
   rintro u H5⟨hu,rfl⟩
   cases hu
   simp -implicitDefEqProofs only[op,ef,cl,sq,reduceIte,j4,j5,j6,j7,j8,j9,y1,y2,y3,S1,g9,wk]
   exact⟨k+1,by omega,by rw[Cz],rfl,iG⟩
  rintro R H4⟨rfl,g3⟩
  have wi:=aC (show i<9223372036854775807 by omega)
  have Tw:=aY d1
  have dD:nV H4 H1.length [.int .u32 (eb 4 i:Nat)] (i*1) (some (.cells (eC i)))=some (H4.set H1.length (.cells (eC (i+1)))):=by
   have e:(eC i).set i (.int .u32 (eb 4 i))=(eC i).take i++.int .u32 (eb 4 i) :: (eC i).drop (i+1):=by rw[List.set_eq_take_append_cons_drop,if_pos (by rw[oC];exact aw)]
   rw[←G1 aw,e,Nat.mul_one,iq,if_pos (by rw[oC];simp;omega)]
   simp
  have jC:H1.length≠H.length:=by omega
  simp -implicitDefEqProofs only[aq,ah,op,ef,cl,sq,reduceIte,j4,j5,j6,j7,j8,j9,y1,y2,y3,S1,g3,g4,aa,aw,d1,wi,dD]
  exact⟨i+1,by omega,.i ⟨c0,by rw[bj jC];exact d0,dl,bX Tw,hx.set (by omega) _⟩,rfl,aw⟩
 rintro R H3⟨c0,d0,dl,d1,hx⟩
 have t1:(eC 16).length=16:=rfl
 have t2:List.take 16 (eC 16)=eC 16:=rfl
 have l0:=aY d0
 have t3:nV H3 H.length (eC 16) 0 (some (.cells c0))=some (H3.set H.length (.cells (eC 16))):=by
  rw[iq,if_pos (by rw[t1,dl];decide),List.take_zero,List.nil_append,List.drop_of_length_le (by rw[t1,dl];decide),List.append_nil]
 have t4:(H3.set H.length (.cells (eC 16)))[H.length]?=some (.cells (eC 16)):=bX l0
 have t5:ph 16 0 (some (.cells (eC 16)))=some (eC 16):=rfl
 simp -implicitDefEqProofs only[aq,ah,op,ef,cl,sq,reduceIte,j4,j5,j6,j7,j8,j9,y1,y2,y3,S1,d1,d0,t1,t2,t3,t4,t5,l0]
 exact hx.set (Nat.le_refl _) _
theorem drop_cons {α:Type}{l:List α}{i:Nat}{x:α}(h:l[i]?=some x):l.drop i=x :: l.drop (i+1):=by
 obtain⟨hi,he⟩:=List.getElem?_eq_some_iff.1 h
 rw[List.drop_eq_getElem_cons hi,he]
theorem fW {α:Type}{l:List α}{i:Nat}{x:α}(hx:l[i]?=some x):l.take (i+1)=l.take i++[x]:=by rw[List.take_add_one,hx];rfl
theorem AY {i:Nat}(h:i<16):ph 1 (i*1) (some (.cells (eC 16)))=some [.int .u32 (eb 4 i:Nat)]:=by
 have hg:(eC 16)[i]?=some (.int .u32 (eb 4 i:Nat)):=by
  unfold eC
  rw[List.getElem?_map,List.getElem?_range h,Option.map_some,if_pos h]
 rw[nf,if_pos (by rw[oC];omega),Nat.mul_one,drop_cons hg];rfl
theorem Mr {w:Nat}:w/16 ^^^ eb 4 (w%16)=eb 4 w:=(Cx w).symm
def eB (n:Nat):List T:=[.int .u8 n]
def Bs (H:af)(t:T)(l:List Nat):Prop:=(∃k,t=.sl k (l.map eB))∨∃c off l',t=.ax c off l.length 1∧H[c]?=some (.cells (aE eB l'))∧off+l.length≤l'.length∧(l'.drop off).take l.length=l
theorem Bs.sl (H:af)(k:SK)(l:List Nat):Bs H (.sl k (l.map eB)) l:=.inl ⟨k,rfl⟩
theorem Bs.ms {H:af}{c:Nat}{l:List Nat}(h:H[c]?=some (.cells (aE eB l))):Bs H (.ax c 0 l.length 1) l:=.inr ⟨c,0,l,rfl,h,by omega,by simp⟩
theorem Bs.ext {H H':af}{t:T}{l:List Nat}(h:Bs H t l)(hx:Ext H H'):Bs H' t l:=by
 rcases h with h|⟨c,off,l',h1,h2,h3⟩
 ·exact .inl h
 ·exact .inr ⟨c,off,l',h1,hx.get h2,h3⟩
theorem Bs.len {H:af}{t:T}{l:List Nat}(h:Bs H t l):∀Hx,iH Hx .sl t=some l.length:=fun Hx=>by
 rcases h with⟨k,rfl⟩|⟨c,off,l',rfl,_,_⟩
 ·simp[iH]
 ·rfl
theorem Bs.at {H:af}{t:T}{l:List Nat}(h:Bs H t l){i x:Nat}(hx:l[i]?=some x):∃p,dw 1 i t=some p∧nC H 1 p=some [.int .u8 (x:Nat)]:=by
 rcases h with⟨k,rfl⟩|⟨c,off,l',rfl,h2,h4,h3⟩
 ·exact⟨_,gC (e:=eB) (n:=1) (fun _=>rfl) (by decide) (k:=k) hx,rfl⟩
 ·have hi:=(List.getElem?_eq_some_iff.1 hx).1
  have jk:l'[off+i]?=some x:=by
   rw[←h3,List.getElem?_take_of_lt hi,List.getElem?_drop]at hx
   exact hx
  refine⟨.ptr c (off+i*1),by rw[fL,if_pos hi,if_neg (by decide)],?_⟩
  have:=gb (enc:=eB) (n:=1) (fun _=>rfl) jk 0 1 (by decide)
  rw[u5,h2,show off+i*1=(off+i)*1+0 by omega,this]
  rfl
theorem Bs.QN {H:af}{t:T}{l:List Nat}(h:Bs H t l):bA H 1 t=some (l.map eB):=by
 rcases h with⟨k,rfl⟩|⟨c,off,l',rfl,h2,h4,h3⟩
 ·simp -implicitDefEqProofs only[bA,all_map (enc:=eB) (n:=1) (fun _=>rfl) l,if_true]
 ·have:=Cw (enc:=eB) (n:=1) (fun _=>rfl) h2 off l.length h4
  rw[h3,Nat.mul_one]at this
  exact this
theorem US {t:T}{l:List Nat}{H:af}(ht:Bs H t l)(hb:dG l)(hl:l.length≤4294967296):W env (.call 46 [.int .u32 0,t]) H (fun o H'=>Ext H H'∧o=.val (.int .u32 (iM l:Nat))):=by
 refine W.bU rfl rfl rfl ?_
 simp -implicitDefEqProofs only[Oa,op,ef,cl,sq,reduceIte,j4,j5,j6,j7,j8,j9,y1,y2,y3,S1]
 refine ae _ _ _ _ _ _ _ _ (G2 _) ?_
 rintro u H1⟨gz,hu⟩
 cases hu
 have gz:Ext H H1:=gz
 have n0:=Mq (a:=0) (by decide)
 have z:[T.int .u32 0,T.int .u32 0,T.int .u32 0,T.int .u32 0,T.int .u32 0,T.int .u32 0,T.int .u32 0,T.int .u32 0,T.int .u32 0,T.int .u32 0,T.int .u32 0,T.int .u32 0,T.int .u32 0,T.int .u32 0,T.int .u32 0,T.int .u32 0]=eC 0:=rfl
 obtain⟨H2,CA⟩:∃H2,H2=H1++[B.cells (eC 16)]:=⟨_,rfl⟩
 have v9:Ext H H2:=by rw[CA];exact gz.app _
 have d2:H2[H1.length]?=some (.cells (eC 16)):=by rw[CA];exact aO rfl
 have t1:(eC 16).length=16:=rfl
 have t6:nV (H1++[B.cells (eC 0)]) H1.length (eC 16) 0 (some (.cells (eC 0)))=some H2:=by
  rw[iq,if_pos (by decide),pj,CA];rfl
 have u0:Lr UnOp.xor (T.int .u32 0)=some (.int .u32 4294967295):=rfl
 have hlen:=ht.len
 simp -implicitDefEqProofs only[op,ef,cl,sq,reduceIte,j4,j5,j6,j7,j8,j9,y1,y2,y3,S1,z,S2,t1,t6,u0,hlen]
 refine W.eZ 0 [(5,_),(12,_),(13,_)] (fun (i:Nat) R H'=>H'=H2∧R 6=.int .u32 (sY 4294967295 (l.take i):Nat)∧R 14=.int .i64 i∧i≤l.length) (fun i=>l.length-i) 0
  (fun R H'=>H'=H2∧R 6=.int .u32 (sY 4294967295 l:Nat)) ⟨rfl,rfl,rfl,Nat.zero_le _⟩ ?_ ?_
 ·rintro i R H3⟨rfl,g6,C8,hi⟩
  by_cases aw:i<l.length
  rotate_left
  ·have lu:i=l.length:=by omega
   subst lu
   rw[List.take_length]at g6
   simp -implicitDefEqProofs only[aq,ah,op,ef,cl,sq,reduceIte,j4,j5,j6,j7,j8,j9,y1,y2,y3,S1,List.length_map,g6,C8,aw,cS]
  obtain⟨c,hc⟩:=cw aw
  have acH:c<256:=hb c (List.mem_of_getElem? hc)
  obtain⟨p,ic,lp⟩:=(ht.ext v9).at hc
  have mR:=aC (show i<9223372036854775807 by omega)
  obtain⟨w,hw⟩:∃w,w=sY 4294967295 (l.take i):=⟨_,rfl⟩
  have Cf:w<4294967296:=by rw[hw];exact vK _ (by decide) (hb.take i)
  rw[←hw]at g6
  have x1:=AX (a:=w) (b:=c) Cf (by omega)
  have w1:=wrap32 (n:=c) (by omega)
  obtain⟨a,ha⟩:∃a,a=w ^^^ c:=⟨_,rfl⟩
  have Nx:a<4294967296:=by rw[ha];exact Nat.xor_lt_two_pow (n:=32) Cf (by omega)
  have kE:=mm 4 Nx
  rw[←ha]at x1
  have s1:=Mp a
  have m1:=G0 Nx
  have k1:a%16<16:=Nat.mod_lt _ (by decide)
  have g1:=AY k1
  have x2:=AX (a:=a/16) (b:=eb 4 (a%16)) (by omega) (mm 4 (by omega))
  rw[Mr]at x2
  have s2:=Mp (eb 4 a)
  have m2:=G0 kE
  have k2:eb 4 a%16<16:=Nat.mod_lt _ (by decide)
  have g2:=AY k2
  have x3:=AX (a:=eb 4 a/16) (b:=eb 4 (eb 4 a%16)) (by omega) (mm 4 (by omega))
  rw[Mr]at x3
  simp -implicitDefEqProofs only[aq,ah,op,ef,cl,sq,reduceIte,j4,j5,j6,j7,j8,j9,y1,y2,y3,S1,List.length_map,g6,C8,aw,aa,ic,lp,w1,x1,s1,m1,k1,d2,g1,x2,s2,m2,k2,g2,x3,mR]
  refine⟨i+1,by omega,?_,rfl,aw⟩
  rw[fW hc,Cy,←hw]
  unfold KL
  rw[←ha,show(8:Nat)=4+4 from rfl,xR]
 rintro R H3⟨rfl,g6⟩
 have Cf:sY 4294967295 l<4294967296:=vK _ (by decide) hb
 have u1:Lr UnOp.xor (T.int .u32 (sY 4294967295 l:Nat))=some (.int .u32 (iM l:Nat)):=by
  have:=Mq Cf
  simp -implicitDefEqProofs only[Lr]
  rw[this];rfl
 simp -implicitDefEqProofs only[aq,ah,op,ef,cl,sq,reduceIte,j4,j5,j6,j7,j8,j9,y1,y2,y3,S1,g6,u1]
 exact v9
theorem G3 {t:T}{l:List Nat}{H:af}(ht:Bs H t l)(hb:dG l)(hl:l.length≤4294967296):W env (.call 14 [t]) H (fun o H'=>Ext H H'∧o=.val (.int .u32 (iM l:Nat))):=by
 refine W.bU rfl rfl rfl ?_
 simp -implicitDefEqProofs only[NU,op,ef,cl,sq,reduceIte,j4,j5,j6,j7,j8,j9,y1,y2,y3,S1]
 refine ae _ _ _ _ _ _ _ _ (US ht hb hl) ?_
 rintro u H1⟨gz,hu⟩
 cases hu
 simp -implicitDefEqProofs only[op,ef,cl,sq,reduceIte,j4,j5,j6,j7,j8,j9,y1,y2,y3,S1]
 exact gz
theorem UT (k:SK)(l:List Nat)(hb:dG l)(hl:l.length≤4294967296)(H:af):W env (.call 14 [.sl k (l.map eB)]) H (fun o H'=>Ext H H'∧o=.val (.int .u32 (iM l:Nat))):=G3 (Bs.sl H k l) hb hl
structure Kp (n0:Nat)(C:Nat→Prop)(H H':af):Prop where
 len:H.length≤H'.length
 get:∀b x,H[b]?=some x→(∀e,x≠.tok e)→¬C b→H'[b]?=some x
 ext:∀H0:af,H0.length≤n0→Ext H0 H→Ext H0 H'
theorem Kp.rfl' {n0:Nat}{C:Nat→Prop}{H:af}:Kp n0 C H H:=⟨Nat.le_refl _,fun _ _ h _ _=>h,fun _ _ h=>h⟩
theorem Kp.trans {n0:Nat}{C:Nat→Prop}{H H' wC:af}(h:Kp n0 C H H')(h':Kp n0 C H' wC):Kp n0 C H wC :=
 ⟨Nat.le_trans h.len h'.len,fun b x hx ht hc=>h'.get b x (h.get b x hx ht hc) ht hc,fun H0 h0 hx=>h'.ext H0 h0 (h.ext H0 h0 hx)⟩
theorem Kp.set {n0 c:Nat}{C:Nat→Prop}{H H':af}(h:Kp n0 C H H')(hc:C c)(h0:n0≤c)(x:B):Kp n0 C H (H'.set c x) :=
 ⟨by simpa using h.len,fun b y hy ht hb=>by rw[bj (fun e=>hb (by subst e;exact hc))];exact h.get b y hy ht hb,fun H0 hl hx=>(h.ext H0 hl hx).set (by omega) x⟩
theorem UU {n0:Nat}{H:af}{k:SK}(bs new:List Nat)(hk:mO n0 H k)(jC:n0≤H.length)(hl:bs.length+new.length≤4294967296) :
  ∃k' H',gX H 1 k (bs.map eB) (new.map eB)=some (.sl k' ((bs++new).map eB),H')∧mO n0 H' k'∧(∀C,Kp n0 C H H')∧(iD k bs→iD k' (bs++new)):=by
 cases new with
 | nil=>exact⟨k,H,by simp[gX],hk,fun C=>Kp.rfl',fun h=>by rw[List.append_nil];exact h⟩
 | cons c new =>
  obtain⟨k',H',h1,h2,h3⟩:=lJ (bytes:=1) (bs.map eB) ((c :: new).map eB) hk jC (by simp) (iY (by simp -implicitDefEqProofs only[List.length_map];omega))
  refine⟨k',H',?_,h2,fun C=>⟨h3.len,fun b x hx ht _=>h3.cells hk hx ht,h3.ext⟩,fun _ e=>absurd e (vt h1 (by simp))⟩
  rw[h1,List.map_append]
  have:((c :: new).map eB).map (fun c=>c.map T.erase)=(c :: new).map eB:=by rw[List.map_map];rfl
  rw[this]
theorem G4 (l:List Nat):(l.map eB).all (fun c=>c.length==1)=true:=all_map (enc:=eB) (n:=1) (fun _=>rfl) l
theorem UW (s:ByteArray):(s.data.toList.map fun c=>[T.int .u8 c.toNat])=(tL s).map eB:=by unfold tL eB;rw[List.map_map];rfl
theorem elS (s:ByteArray):∀Hx,bA Hx 1 (T.str s)=some ((tL s).map eB):=fun Hx=>by rw[←UW];rfl
theorem AZ:∀(n v m:Nat),m<n→(dC n v)[n-(m+1)]?=some (v/256^m%256)
 | 0,v,m,h=>by omega
 | n+1,v,m,h=>by
  by_cases e:m=n
  ·subst e;simp[dC]
  ·have e1:n+1-(m+1)=(n-(m+1))+1:=by omega
   rw[e1]
   show(dC n v)[n-(m+1)]?=_
   exact AZ n v m (by omega)
theorem G5 {n v m:Nat}(h:m<n):(dC n v).take (n-m)=(dC n v).take (n-(m+1))++[v/256^m%256]:=by
 have e:n-m=n-(m+1)+1:=by omega
 rw[e,fW (AZ n v m h)]
theorem aaU (m:Nat):2^(8*m)=256^m:=by rw[Nat.pow_mul]
theorem aaV {m:Nat}(v:Nat)(h:m≤7):(v:Int).fdiv (2^(min ((8*m:Nat):Int).toNat IntKind.u64.bits))=((v/256^m:Nat):Int):=by
 have e:min ((8*m:Nat):Int).toNat IntKind.u64.bits=8*m:=by
  show min (8*m) 64=8*m
  omega
 rw[e,Wz,aaU]
structure PW (n0:Nat)(H:af)(c:Nat)(out:List Nat):Prop where
 at_:∃k,H[c]?=some (.cells [.int .i64 2147483647,.sl k (out.map eB),.int .i64 0])∧mO n0 H k∧iD k out
 lo:n0≤c
theorem PW.ext {n0:Nat}{H H':af}{c:Nat}{out:List Nat}(h:PW n0 H c out)(hx:Ext H H'):PW n0 H' c out:=by
 obtain⟨⟨k,h1,h2,h4⟩,h3⟩:=h
 exact⟨⟨k,hx.get h1,h2.ext hx,h4⟩,h3⟩
def Ms (n0:Nat)(c:Nat)(out:List Nat)(H:af):Out→af→Prop:=fun o H'=>o=.val (.bJ [])∧PW n0 H' c out∧Kp n0 (fun b=>b=c) H H'
theorem rR {n0:Nat}{H:af}{c:Nat}{out:List Nat}(h:PW n0 H c out)(n:Nat)(hn:out.length+n≤2147483647):W env (.call 72 [.ptr c 0,.int .i64 n]) H (oL (.bool true) H):=by
 obtain⟨⟨k,h1,h2,h4⟩,h3⟩:=h
 refine W.bU rfl rfl rfl ?_
 have w0:IntKind.i64.wrap (2147483647-(out.length:Int))=((2147483647-out.length:Nat):Int):=by rw[wrap64 (by omega)];omega
 have w1:decide ((n:Int)>((2147483647-out.length:Nat):Int))=false:=by simp;omega
 simp -implicitDefEqProofs only[Oz,op,ef,cl,sq,reduceIte,j4,j5,j6,j7,j8,j9,y1,y2,y3,S1,h1,List.length_map,w0,w1]
theorem UX (H:af):W env (.call 29 [.int .i64 2147483647]) H (fun o H'=>Ext H H'∧o=.val (.ptr H.length 0)∧PW H.length H' H.length []):=by
 refine W.bU rfl rfl rfl ?_
 have e:(if (0:Int)>2147483647 then(0:Int)else 2147483647)=2147483647:=by decide
 simp -implicitDefEqProofs only[N2,op,ef,cl,sq,reduceIte,j4,j5,j6,j7,j8,j9,y1,y2,y3,S1,e]
 exact⟨Ext.rfl'.app _,⟨.nil,aO rfl,l4 _ _,fun _=>rfl⟩,Nat.le_refl _⟩
theorem xU {n0:Nat}{H:af}{c:Nat}{out:List Nat}(h:PW n0 H c out)(jC:n0≤H.length)(v n:Nat)(hn:n≤8)(hl:out.length+n≤4294967296) :
  W env (.call 73 [.ptr c 0,.int .u64 v,.int .i64 n]) H (Ms n0 c (out++dC n v) H):=by
 refine W.bU rfl rfl rfl ?_
 have w0:IntKind.i64.wrap ((n:Int)-1)=(n:Int)-1:=wrap64 (by omega)
 simp -implicitDefEqProofs only[OA,op,ef,cl,sq,reduceIte,j4,j5,j6,j7,j8,j9,y1,y2,y3,S1,w0]
 refine W.eZ 0 [(0,_),(1,_)] (fun (m:Nat) R H'=>At H' (fun H'=>PW n0 H' c (out++(dC n v).take (n-m))∧n0≤H'.length∧Kp n0 (fun b=>b=c) H H')∧R 6=.int .i64 ((m:Int)-1)∧m≤n) (fun m=>m) n
  (fun R H'=>At H' (fun H'=>PW n0 H' c (out++dC n v)∧Kp n0 (fun b=>b=c) H H')) ⟨.i ⟨by rw[Nat.sub_self,List.take_zero,List.append_nil];exact h,jC,Kp.rfl'⟩,rfl,Nat.le_refl _⟩ ?_ ?_
 ·rintro m R H1⟨⟨hp,BC,su⟩,g6,hm⟩
  cases m with
  | zero =>
   have e:decide ((((0:Nat):Int)-1)≥0)=false:=by decide
   rw[Nat.sub_zero,List.take_of_length_le (by rw[bl];omega)]at hp
   simp -implicitDefEqProofs only[aq,ah,op,ef,cl,sq,reduceIte,j4,j5,j6,j7,j8,j9,y1,y2,y3,S1,g6,e,cS]
   exact .i ⟨hp,su⟩
  | succ m =>
   obtain⟨⟨k,d,hk,pq⟩,kx⟩:=hp
   have e7:(((m+1:Nat):Int)-1)=((m:Nat):Int):=by omega
   have e:decide (((m:Nat):Int)≥0)=true:=by simp
   have w8:IntKind.i64.wrap (8*((m:Nat):Int))=((8*m:Nat):Int):=by rw[wrap64 (by omega)];simp
   have s8:=aaV (m:=m) v (by omega)
   have n8:¬(((8*m:Nat):Int)<0):=by omega
   have w1:IntKind.i64.wrap ((m:Int)-1)=(m:Int)-1:=wrap64 (by omega)
   obtain⟨k2,H2,ha,zR,nA,G6⟩:=UU (out++(dC n v).take (n-(m+1))) [v/256^m%256] hk BC (by simp -implicitDefEqProofs only[List.length_append,List.length_take,bl,List.length_cons,List.length_nil];omega)
   rw[List.append_assoc,←G5 (show m<n by omega)]at ha G6
   have hB:=G4 (out++(dC n v).take (n-(m+1)))
   have BA:gX H1 1 k ((out++(dC n v).take (n-(m+1))).map eB) [[.int .u8 ((v/256^m%256:Nat):Int)]]=some (.sl k2 ((out++(dC n v).take (n-m)).map eB),H2):=ha
   rw[e7]at g6
   have m8:=nn (v/256^m)
   have d2:=(nA fun _=>False).get c _ d (by simp) (fun h=>h)
   have l2:=aY d2
   simp -implicitDefEqProofs only[aq,ah,op,ef,cl,sq,reduceIte,j4,j5,j6,j7,j8,j9,y1,y2,y3,S1,g6,e,w8,n8,s8,m8,hB,BA,w1,d,d2,l2]
   exact⟨m,by omega,.i ⟨⟨⟨k2,bX l2,zR.set d2 (by simp) _,G6 pq⟩,kx⟩,by have:=(nA fun _=>False).len;simp;omega,(su.trans (nA _)).set rfl kx _⟩,rfl,by omega⟩
 rintro R H1⟨hp,su⟩
 simp -implicitDefEqProofs only[aq,ah,op,ef,cl,sq,reduceIte,j4,j5,j6,j7,j8,j9,y1,y2,y3,S1]
 exact⟨rfl,hp,su⟩
theorem u30 {n0:Nat}{H:af}{c:Nat}{out:List Nat}(h:PW n0 H c out)(jC:n0≤H.length)(v:Nat)(hv:v<4294967296)(hl:out.length+4≤2147483647) :
  W env (.call 30 [.ptr c 0,.int .u32 v]) H (Ms n0 c (out++dC 4 v) H):=by
 refine W.bU rfl rfl rfl ?_
 have w0:=gP (n:=v) (by omega)
 simp -implicitDefEqProofs only[N3,op,ef,cl,sq,reduceIte,j4,j5,j6,j7,j8,j9,y1,y2,y3,S1]
 refine ae _ _ _ _ _ _ _ _ (rR h 4 hl) ?_
 rintro u H1⟨hu,rfl⟩
 cases hu
 simp -implicitDefEqProofs only[op,ef,cl,sq,reduceIte,j4,j5,j6,j7,j8,j9,y1,y2,y3,S1,w0]
 refine ae _ _ _ _ _ _ _ _ (xU h jC v 4 (by decide) (by omega)) ?_
 rintro u H1⟨hu,h1⟩
 cases hu
 simp -implicitDefEqProofs only[op,ef,cl,sq,reduceIte,j4,j5,j6,j7,j8,j9,y1,y2,y3,S1]
 exact⟨rfl,h1⟩
theorem u31 {n0:Nat}{H:af}{c:Nat}{out:List Nat}(h:PW n0 H c out)(jC:n0≤H.length)(v:Nat)(hv:v<256)(hl:out.length+1≤2147483647) :
  W env (.call 31 [.ptr c 0,.int .u8 v]) H (Ms n0 c (out++dC 1 v) H):=by
 refine W.bU rfl rfl rfl ?_
 have w0:=gP (n:=v) (by omega)
 simp -implicitDefEqProofs only[N4,op,ef,cl,sq,reduceIte,j4,j5,j6,j7,j8,j9,y1,y2,y3,S1]
 refine ae _ _ _ _ _ _ _ _ (rR h 1 hl) ?_
 rintro u H1⟨hu,rfl⟩
 cases hu
 simp -implicitDefEqProofs only[op,ef,cl,sq,reduceIte,j4,j5,j6,j7,j8,j9,y1,y2,y3,S1,w0]
 refine ae _ _ _ _ _ _ _ _ (xU h jC v 1 (by decide) (by omega)) ?_
 rintro u H1⟨hu,h1⟩
 cases hu
 simp -implicitDefEqProofs only[op,ef,cl,sq,reduceIte,j4,j5,j6,j7,j8,j9,y1,y2,y3,S1]
 exact⟨rfl,h1⟩
theorem u32 {n0:Nat}{H:af}{c:Nat}{out:List Nat}(h:PW n0 H c out)(jC:n0≤H.length)(v:Nat)(hl:out.length+8≤2147483647) :
  W env (.call 32 [.ptr c 0,.int .u64 v]) H (Ms n0 c (out++dC 8 v) H):=by
 refine W.bU rfl rfl rfl ?_
 simp -implicitDefEqProofs only[N5,op,ef,cl,sq,reduceIte,j4,j5,j6,j7,j8,j9,y1,y2,y3,S1]
 refine ae _ _ _ _ _ _ _ _ (rR h 8 hl) ?_
 rintro u H1⟨hu,rfl⟩
 cases hu
 simp -implicitDefEqProofs only[op,ef,cl,sq,reduceIte,j4,j5,j6,j7,j8,j9,y1,y2,y3,S1]
 refine ae _ _ _ _ _ _ _ _ (xU h jC v 8 (by decide) (by omega)) ?_
 rintro u H1⟨hu,h1⟩
 cases hu
 simp -implicitDefEqProofs only[op,ef,cl,sq,reduceIte,j4,j5,j6,j7,j8,j9,y1,y2,y3,S1]
 exact⟨rfl,h1⟩
theorem vL {n0:Nat}{H:af}{c:Nat}{out:List Nat}(h:PW n0 H c out)(jC:n0≤H.length)(s:ByteArray)(hl:out.length+(4+s.size)≤2147483647) :
  W env (.call 33 [.ptr c 0,.str s]) H (Ms n0 c (out++eT s) H):=by
 refine W.bU rfl rfl rfl ?_
 have w0:=gP (n:=s.size) (by omega)
 have w4:IntKind.i64.wrap (4+(s.size:Int))=((4+s.size:Nat):Int):=by rw[wrap64 (by omega)];simp
 simp -implicitDefEqProofs only[N6,op,ef,cl,sq,reduceIte,j4,j5,j6,j7,j8,j9,y1,y2,y3,S1,w4]
 refine ae _ _ _ _ _ _ _ _ (rR h (4+s.size) hl) ?_
 rintro u H1⟨hu,rfl⟩
 cases hu
 simp -implicitDefEqProofs only[op,ef,cl,sq,reduceIte,j4,j5,j6,j7,j8,j9,y1,y2,y3,S1,w0]
 refine ae _ _ _ _ _ _ _ _ (xU h jC s.size 4 (by decide) (by omega)) ?_
 rintro u H1⟨hu,⟨⟨k,d,hk,pq⟩,kx⟩,su⟩
 cases hu
 obtain⟨k2,H2,ha,zR,nA,G6⟩:=UU (out++dC 4 s.size) (tL s) hk (Nat.le_trans jC su.len) (by simp -implicitDefEqProofs only[List.length_append,bl,rQ];omega)
 rw[List.append_assoc]at ha G6
 have hB:=G4 (out++dC 4 s.size)
 have hs:=elS s
 have d2:=(nA fun _=>False).get c _ d (by simp) (fun h=>h)
 have l2:=aY d2
 simp -implicitDefEqProofs only[op,ef,cl,sq,reduceIte,j4,j5,j6,j7,j8,j9,y1,y2,y3,S1,d,hB,hs,ha,d2,l2]
 exact⟨rfl,⟨⟨k2,bX l2,zR.set d2 (by simp) _,G6 pq⟩,kx⟩,(su.trans (nA _)).set rfl kx _⟩
def A0 (l:List ByteArray):List Nat:=dC 4 l.length++l.flatMap eT
theorem A1 (l:List ByteArray):(A0 l).length=4+(l.flatMap eT).length:=by simp[A0,bl]
theorem mo {α:Type}{e:α→List Nat}{l:List α}{i:Nat}{x:α}(h:l[i]?=some x):(l.take (i+1)).flatMap e=(l.take i).flatMap e++e x:=by
 rw[fW h,List.flatMap_append];simp
theorem mq {α:Type}{e:α→List Nat}(l:List α)(i:Nat):((l.take i).flatMap e).length≤(l.flatMap e).length:=by
 have h:l.flatMap e=(l.take i).flatMap e++(l.drop i).flatMap e:=by rw[←List.flatMap_append,List.take_append_drop]
 rw[h,List.length_append];omega
theorem KP {n0:Nat}{H:af}{c:Nat}{out:List Nat}(h:PW n0 H c out)(jC:n0≤H.length)(kl:SK)(l:List ByteArray)(hl:out.length+(A0 l).length≤2147483647)(qR:l.length<4294967296) :
  W env (.call 34 [.ptr c 0,.sl kl (l.map eS)]) H (Ms n0 c (out++A0 l) H):=by
 rw[A1]at hl
 refine W.bU rfl rfl rfl ?_
 simp -implicitDefEqProofs only[N7,op,ef,cl,sq,reduceIte,j4,j5,j6,j7,j8,j9,y1,y2,y3,S1]
 refine W.eZ 0 [(0,_),(1,_),(9,_),(10,_)] (fun (i:Nat) R H'=>H'=H∧R 4=.int .i64 ((4+((l.take i).flatMap eT).length:Nat):Int)∧R 11=.int .i64 i∧i≤l.length) (fun i=>l.length-i) 0
  (fun R H'=>H'=H∧R 4=.int .i64 ((4+(l.flatMap eT).length:Nat):Int)) ⟨rfl,rfl,rfl,Nat.zero_le _⟩ ?_ ?_
 ·rintro i R H1⟨rfl,g4,Ii,hi⟩
  by_cases aw:i<l.length
  rotate_left
  ·have lu:i=l.length:=by omega
   subst lu
   rw[List.take_length]at g4
   simp -implicitDefEqProofs only[aq,ah,op,ef,cl,sq,reduceIte,j4,j5,j6,j7,j8,j9,y1,y2,y3,S1,List.length_map,g4,Ii,aw,cS]
  obtain⟨s,hs⟩:=cw aw
  have is:=gC (e:=eS) (n:=1) (fun _=>rfl) (by decide) (k:=kl) hs
  have mR:=aC (show i<9223372036854775807 by omega)
  have hf:=mo (e:=eT) hs
  have hle:=mq (e:=eT) l (i+1)
  have yV:((l.take (i+1)).flatMap eT).length=((l.take i).flatMap eT).length+(4+s.size):=by rw[hf,List.length_append,iz]
  have w4:IntKind.i64.wrap (4+(s.size:Int))=((4+s.size:Nat):Int):=by rw[wrap64 (by omega)];simp
  have w5:IntKind.i64.wrap (((4+((l.take i).flatMap eT).length:Nat):Int)+((4+s.size:Nat):Int))=((4+((l.take (i+1)).flatMap eT).length:Nat):Int):=by rw[wrap64 (by omega),yV];omega
  simp -implicitDefEqProofs only[aq,ah,op,ef,cl,sq,reduceIte,j4,j5,j6,j7,j8,j9,y1,y2,y3,S1,List.length_map,g4,Ii,aw,aa,is,eS,eY,w4,w5,mR]
  exact⟨i+1,by omega,rfl,rfl,aw⟩
 rintro R H1⟨rfl,g4⟩
 have w0:=gP (n:=l.length) (by omega)
 simp -implicitDefEqProofs only[aq,ah,op,ef,cl,sq,reduceIte,j4,j5,j6,j7,j8,j9,y1,y2,y3,S1,g4]
 refine ae _ _ _ _ _ _ _ _ (rR h (4+(l.flatMap eT).length) hl) ?_
 rintro u H2⟨hu,rfl⟩
 cases hu
 simp -implicitDefEqProofs only[op,ef,cl,sq,reduceIte,j4,j5,j6,j7,j8,j9,y1,y2,y3,S1,List.length_map,w0]
 refine ae _ _ _ _ _ _ _ _ (xU h jC l.length 4 (by decide) (by omega)) ?_
 rintro u H3⟨hu,hp,su⟩
 cases hu
 simp -implicitDefEqProofs only[op,ef,cl,sq,reduceIte,j4,j5,j6,j7,j8,j9,y1,y2,y3,S1,List.length_map]
 refine W.eZ 2 [(0,_),(30,_),(31,_)] (fun (i:Nat) R H'=>At H' (fun H'=>PW n0 H' c (out++dC 4 l.length++(l.take i).flatMap eT)∧n0≤H'.length∧Kp n0 (fun b=>b=c) H2 H')∧R 32=.int .i64 i∧i≤l.length) (fun i=>l.length-i) 0
  (fun R H'=>At H' (fun H'=>PW n0 H' c (out++A0 l)∧Kp n0 (fun b=>b=c) H2 H')) ⟨.i ⟨by simpa using hp,Nat.le_trans jC su.len,su⟩,rfl,Nat.zero_le _⟩ ?_ ?_
 ·rintro i R H4⟨⟨hp,BC,su⟩,Im,hi⟩
  by_cases aw:i<l.length
  rotate_left
  ·have lu:i=l.length:=by omega
   subst lu
   rw[List.take_length,List.append_assoc]at hp
   simp -implicitDefEqProofs only[aq,ah,op,ef,cl,sq,reduceIte,j4,j5,j6,j7,j8,j9,y1,y2,y3,S1,List.length_map,Im,aw,cS]
   exact .i ⟨hp,su⟩
  obtain⟨s,hs⟩:=cw aw
  have is:=gC (e:=eS) (n:=1) (fun _=>rfl) (by decide) (k:=kl) hs
  have mR:=aC (show i<9223372036854775807 by omega)
  have hf:=mo (e:=eT) hs
  have hle:=mq (e:=eT) l (i+1)
  have yV:((l.take (i+1)).flatMap eT).length=((l.take i).flatMap eT).length+(4+s.size):=by rw[hf,List.length_append,iz]
  simp -implicitDefEqProofs only[aq,ah,op,ef,cl,sq,reduceIte,j4,j5,j6,j7,j8,j9,y1,y2,y3,S1,List.length_map,Im,aw,aa,is,eS,eY]
  refine ae _ _ _ _ _ _ _ _ (vL hp BC s (by simp -implicitDefEqProofs only[List.length_append,bl];omega)) ?_
  rintro u H5⟨hu,hp5,UY⟩
  cases hu
  rw[List.append_assoc,←hf]at hp5
  simp -implicitDefEqProofs only[op,ef,cl,sq,reduceIte,j4,j5,j6,j7,j8,j9,y1,y2,y3,S1,Im,mR]
  exact⟨i+1,by omega,.i ⟨hp5,Nat.le_trans BC UY.len,su.trans UY⟩,rfl,aw⟩
 rintro R H4⟨hp,su⟩
 simp -implicitDefEqProofs only[aq,ah,op,ef,cl,sq,reduceIte,j4,j5,j6,j7,j8,j9,y1,y2,y3,S1]
 exact⟨rfl,hp,su⟩
theorem ux {H:af}{bytes:Nat}(new:List (List T))(hr:cU new.length bytes=true)(he:∀c∈new,c.map T.erase=c):∃k' H',gX H bytes .full [] new=some (.sl k' new,H')∧Ext H H'∧mO H.length H' k'∧k'≠.nil:=by
 cases new with
 | nil=>exact⟨.full,H,by simp[gX],Ext.rfl',.inr (.inl rfl),by simp⟩
 | cons c new =>
  refine⟨.own H.length (c :: new).length,H++[.tok (c :: new).length],?_,Ext.rfl'.app _,.inr (.inr ⟨_,_,rfl,Nat.le_refl _,aO rfl⟩),by simp⟩
  unfold gX
  simp -implicitDefEqProofs only[List.length_nil,Nat.zero_add,hr,if_true,List.nil_append]
  have e:(c :: new).map (fun x=>x.map T.erase)=c :: new:=(List.map_congr_left he).trans (List.map_id _)
  rw[e]
def lP (t:T)(l:List Nat):Prop:=∀k,t=.sl k (l.map eB)→iD k l
theorem KQ (l:List Nat):(l.map eB).flatten=aE eB l:=by simp[aE,List.flatMap]
theorem xV {t:T}{l:List Nat}{H:af}(ht:Bs H t l)(hk:lP t l)(h0:l≠[])(hl:l.length≤4294967296):W env (.call 74 [t]) H (fun o H'=>Ext H H'∧∃c,H.length≤c∧o=.val (.ax c 0 l.length 1)∧H'[c]?=some (.cells (aE eB l))):=by
 have xW:=ht.QN
 have gI:dn .slice t (.sl .nil [])=some false:=by
  rcases ht with⟨k,rfl⟩|⟨c,off,l',rfl,_⟩
  ·have bL:=hk k rfl
   cases k with
   | nil=>exact absurd (bL rfl) h0
   | arg=>cases l with
    | nil=>exact absurd rfl h0
    | cons a l=>rfl
   | full=>rfl
   | own t e=>rfl
  ·rfl
 have ha:jA H 1 1 (.sl .full []) (l.map eB)=some (.ax H.length 0 l.length 1,H++[.cells (aE eB l)]):=by
  cases l with
  | nil=>exact absurd rfl h0
  | cons a l =>
   have hr:cU (0+(a :: l).length) 1=true:=iY (by omega)
   have e:(([]:List (List T)).length+((a :: l).map eB).length)=0+(a :: l).length:=by simp
   rw[←KQ]
   simp -implicitDefEqProofs only[List.map_cons,jA]at e ⊢
   rw[e,if_pos ⟨hr,trivial⟩]
   simp
 refine W.bU rfl rfl rfl ?_
 have sm:uF (.sl .full [])=.sl .full []:=rfl
 simp -implicitDefEqProofs only[xz,op,ef,cl,sq,reduceIte,j4,j5,j6,j7,j8,j9,y1,y2,y3,S1,gI,xW,sm,ha]
 exact⟨Ext.rfl'.app _,H.length,Nat.le_refl _,rfl,aO rfl⟩
theorem G7 {t:T}{l:List Nat}{H:af}(ht:Bs H t l)(hk:lP t l)(hl:l.length≤4294967296):W env (.call 74 [t]) H (fun o H'=>Ext H H'∧∃k',o=.val (.sl k' (l.map eB))):=by
 by_cases h0:l=[]
 ·subst h0
  have xW:=ht.QN
  have ha:jA H 1 1 (.sl .full []) []=some (.sl .full [],H):=rfl
  have sm:uF (.sl .full [])=.sl .full []:=rfl
  rw[List.map_nil]at xW
  refine W.bU rfl rfl rfl ?_
  rcases ht with⟨k,rfl⟩|⟨c,off,l',rfl,_⟩
  ·cases k with
   | nil =>
    have e0:dn .slice (.sl .nil []) (.sl .nil [])=some true:=rfl
    simp -implicitDefEqProofs only[xz,op,ef,cl,sq,reduceIte,j4,j5,j6,j7,j8,j9,y1,y2,y3,S1,List.map_nil,e0,Option.map_some]
    exact⟨Ext.rfl',.nil,rfl⟩
   | arg =>
    have e0:dn .slice (.sl .arg []) (.sl .nil [])=none:=rfl
    simp -implicitDefEqProofs only[xz,op,ef,cl,sq,reduceIte,j4,j5,j6,j7,j8,j9,y1,y2,y3,S1,List.map_nil,e0,Option.map_none]
    intro t
    cases t
    ·simp -implicitDefEqProofs only[op,ef,cl,sq,reduceIte,j4,j5,j6,j7,j8,j9,y1,y2,y3,S1]
     simp -implicitDefEqProofs only[op,ef,cl,sq,reduceIte,j4,j5,j6,j7,j8,j9,y1,y2,y3,S1,sm,ha]
     exact⟨Ext.rfl',.full,rfl⟩
    ·simp -implicitDefEqProofs only[op,ef,cl,sq,reduceIte,j4,j5,j6,j7,j8,j9,y1,y2,y3,S1]
     exact⟨Ext.rfl',.nil,rfl⟩
   | full =>
    have e0:dn .slice (.sl .full []) (.sl .nil [])=some false:=rfl
    simp -implicitDefEqProofs only[xz,op,ef,cl,sq,reduceIte,j4,j5,j6,j7,j8,j9,y1,y2,y3,S1,List.map_nil,e0,Option.map_some,sm,ha]
    exact⟨Ext.rfl',.full,rfl⟩
   | own t e =>
    have e0:dn .slice (.sl (.own t e) []) (.sl .nil [])=some false:=rfl
    simp -implicitDefEqProofs only[xz,op,ef,cl,sq,reduceIte,j4,j5,j6,j7,j8,j9,y1,y2,y3,S1,List.map_nil,e0,Option.map_some,sm,ha]
    exact⟨Ext.rfl',.full,rfl⟩
  ·have e0:dn .slice (.ax c off 0 1) (.sl .nil [])=some false:=rfl
   have xW:bA H 1 (.ax c off 0 1)=some []:=xW
   simp -implicitDefEqProofs only[xz,op,ef,cl,sq,reduceIte,j4,j5,j6,j7,j8,j9,y1,y2,y3,S1,List.length_nil,e0,Option.map_some,xW,sm,ha]
   exact⟨Ext.rfl',.full,rfl⟩
 ·exact W.uG (enc:=eB) (n:=1) (l:=l) (fun _=>rfl) (W.use (xV ht hk h0 hl) fun o H' ⟨hx,c,hc,ho,hd⟩=>⟨c,ho,hd,hx.set hc _,.arg,rfl⟩)
theorem Pw {n0:Nat}{H:af}{c:Nat}{out:List Nat}(h:PW n0 H c out)(h0:out≠[])(hl:out.length≤2147483647):W env (.call 35 [.ptr c 0]) H (fun o H'=>Ext H H'∧∃d,H.length≤d∧o=.val (.bJ [.ax d 0 out.length 1,.int .i64 0])∧H'[d]?=some (.cells (aE eB out))):=by
 obtain⟨⟨k,h1,h2,h4⟩,h3⟩:=h
 refine W.bU rfl rfl rfl ?_
 simp -implicitDefEqProofs only[N8,op,ef,cl,sq,reduceIte,j4,j5,j6,j7,j8,j9,y1,y2,y3,S1,h1]
 refine ae _ _ _ _ _ _ _ _ (xV (Bs.sl H k out) (fun k' e=>by
  have:k=k':=by injection e
  subst this;exact h4) h0 (by omega)) ?_
 rintro u H1⟨hx,d,hd,hu,hc⟩
 cases hu
 simp -implicitDefEqProofs only[op,ef,cl,sq,reduceIte,j4,j5,j6,j7,j8,j9,y1,y2,y3,S1]
 exact⟨hx,d,hd,rfl,hc⟩
theorem Px (n m:Nat):IntKind.u8.wrap ((n:Int).fdiv (2^m))=((n/2^m%256:Nat):Int):=by rw[Wz,nn]
theorem s24 (n:Nat):IntKind.u8.wrap ((n:Int).fdiv (2^(min (24:Int).toNat IntKind.u32.bits)))=((n/16777216%256:Nat):Int):=Px n 24
theorem s16 (n:Nat):IntKind.u8.wrap ((n:Int).fdiv (2^(min (16:Int).toNat IntKind.u32.bits)))=((n/65536%256:Nat):Int):=Px n 16
theorem s08 (n:Nat):IntKind.u8.wrap ((n:Int).fdiv (2^(min (8:Int).toNat IntKind.u32.bits)))=((n/256%256:Nat):Int):=Px n 8
theorem nm4 (n:Nat):(dC 4 n).map eB=[[T.int .u8 ((n/16777216%256:Nat):Int)],[T.int .u8 ((n/65536%256:Nat):Int)],[T.int .u8 ((n/256%256:Nat):Int)],[T.int .u8 ((n%256:Nat):Int)]]:=by
 simp[dC,eB]
theorem G8 {t:T}{l:List Nat}{H:af}(ht:Bs H t l)(hb:dG l)(hl:l.length≤4294967296):W env (.call 36 [t]) H (fun o H'=>Ext H H'∧o=.val (.sl .full ((dC 4 (iM l)).map eB))):=by
 refine W.bU rfl rfl rfl ?_
 simp -implicitDefEqProofs only[N9,op,ef,cl,sq,reduceIte,j4,j5,j6,j7,j8,j9,y1,y2,y3,S1]
 refine ae _ _ _ _ _ _ _ _ (G3 ht hb hl) ?_
 rintro u H1⟨gz,hu⟩
 cases hu
 have a1:=s24 (iM l)
 have a2:=s16 (iM l)
 have a3:=s08 (iM l)
 have a4:=nn (iM l)
 rw[nm4]
 simp -implicitDefEqProofs only[op,ef,cl,sq,reduceIte,j4,j5,j6,j7,j8,j9,y1,y2,y3,S1,a1,a2,a3,a4]
 exact gz
def sz (x:Nm):List Nat:=eT x.1++dC 8 x.2
def kR (x:Kd):List Nat:=eT x.key++(dC 8 x.id++(eT x.value++A0 x.keys))
def body (gen:Nat)(L:List Nm)(K:List Kd):List Nat:=dC 4 1918987632++(dC 1 1++(dC 8 gen++(dC 4 L.length++(L.flatMap sz++(dC 4 K.length++K.flatMap kR)))))
def whole (b:List Nat):List Nat:=b++dC 4 (iM b)
theorem KR (l:List ByteArray):dG (A0 l):=(fc _ _).app fun x hx=>by
 obtain⟨s,_,h⟩:=List.mem_flatMap.1 hx;exact vI s x h
theorem KS (x:Nm):dG (sz x):=(vI _).app (fc _ _)
theorem KU (x:Kd):dG (kR x):=(vI _).app ((fc _ _).app ((vI _).app (KR _)))
theorem xX {α:Type}{e:α→List Nat}(h:∀x,dG (e x))(l:List α):dG (l.flatMap e):=fun x hx=>by
 obtain⟨s,_,h'⟩:=List.mem_flatMap.1 hx;exact h s x h'
theorem jK (gen:Nat)(L:List Nm)(K:List Kd):dG (body gen L K) :=
 (fc _ _).app ((fc _ _).app ((fc _ _).app ((fc _ _).app ((xX KS _).app ((fc _ _).app (xX KU _))))))
theorem oD (gen:Nat)(L:List Nm)(K:List Kd):(body gen L K).length=21+(L.flatMap sz).length+(K.flatMap kR).length:=by
 simp -implicitDefEqProofs only[body,List.length_append,bl];omega
theorem Ms.go {H0 H H':af}{c:Nat}{out:List Nat}{u:Out}(hx:Ext H0 H)(h:Ms H0.length c out H u H'):u=.val (.bJ [])∧PW H0.length H' c out∧Ext H0 H' :=
 ⟨h.1,h.2.1,h.2.2.ext H0 (Nat.le_refl _) hx⟩
def Py (H:af)(l:List Nat):Out→af→Prop:=fun o H'=>Ext H H'∧∃c,H.length≤c∧o=.val (.bJ [.ax c 0 l.length 1,.int .i64 0])∧H'[c]?=some (.cells (aE eB l))
set_option maxHeartbeats 4000000 in
theorem rS {b:Bk}{a:Ab}{F:Nat→Prop}{m:Nat}{H:af}(h:gO H b a F m)(hm:m≤8000000)(Nc:∀k n,a.l k=some n→a.has (k,n)=true){N:List Nm}(hN:Names a N){ls:List ByteArray}(hL:cX a ls)(gen:Int)(hg:1≤gen∧gen<9223372036854775808)
  (a9:(body gen.toNat (ls.map (gh a)) (N.map (bT a))).length≤2147483647) :
  W env (.call 10 [.int .i64 gen,.ptr b.s 0]) H (Py H (whole (body gen.toNat (ls.map (gh a)) (N.map (bT a))))):=by
 obtain⟨g,rfl⟩:∃g:Nat,gen=(g:Int):=⟨gen.toNat,by omega⟩
 rw[Int.toNat_natCast]at a9 ⊢
 have kE:=oD g (ls.map (gh a)) (N.map (bT a))
 have e0:dn .ptr (.ptr b.s 0) .bR=some false:=rfl
 have e1:¬((g:Int)<1):=by omega
 have wg:=gP (n:=g) (by omega)
 obtain⟨L,Nz⟩:∃L,L=ls.map (gh a):=⟨_,rfl⟩
 obtain⟨K,UZ⟩:∃K,K=N.map (bT a):=⟨_,rfl⟩
 rw[←Nz,←UZ]at kE a9 ⊢
 refine W.bU rfl rfl rfl ?_
 simp -implicitDefEqProofs only[NT,op,ef,cl,sq,reduceIte,j4,j5,j6,j7,j8,j9,y1,y2,y3,S1,e0,e1]
 refine ae _ _ _ _ _ _ _ _ (UX _) ?_
 rintro u H1⟨gz,hu,p1⟩
 cases hu
 have gz:Ext H H1:=gz
 simp -implicitDefEqProofs only[op,ef,cl,sq,reduceIte,j4,j5,j6,j7,j8,j9,y1,y2,y3,S1]
 refine ae _ _ _ _ _ _ _ _ (u30 p1 gz.len 1918987632 (by decide) (by simp)) ?_
 intro u H2 hq
 obtain⟨hu,p2,v9⟩:=hq.go gz
 cases hu
 simp -implicitDefEqProofs only[op,ef,cl,sq,reduceIte,j4,j5,j6,j7,j8,j9,y1,y2,y3,S1]
 refine ae _ _ _ _ _ _ _ _ (u31 p2 v9.len 1 (by decide) (by simp[bl])) ?_
 intro u H3 hq
 obtain⟨hu,p3,sn⟩:=hq.go v9
 cases hu
 simp -implicitDefEqProofs only[op,ef,cl,sq,reduceIte,j4,j5,j6,j7,j8,j9,y1,y2,y3,S1,wg]
 refine ae _ _ _ _ _ _ _ _ (u32 p3 sn.len g (by simp[bl])) ?_
 intro u H4 hq
 obtain⟨hu,p4,um⟩:=hq.go sn
 cases hu
 simp -implicitDefEqProofs only[op,ef,cl,sq,reduceIte,j4,j5,j6,j7,j8,j9,y1,y2,y3,S1]
 refine ae _ _ _ _ _ _ _ _ (AV (h.ext um) hm Nc) ?_
 rintro u H5⟨pE,kL,ls',_,hL',hlen,hu⟩
 cases hu
 have pE:Ext H4 H5:=pE
 have QN:=hL'.uniq hL
 subst QN
 rw[←Nz]
 have QO:L.length≤8000000:=by rw[Nz,List.length_map];omega
 have p5:=p4.ext pE
 have U0:=um.trans pE
 have wL:=wrap32 (n:=L.length) (by omega)
 obtain⟨o4,ho4⟩:∃o4,o4=dC 4 1918987632++(dC 1 1++dC 8 g):=⟨_,rfl⟩
 have eo4:[]++dC 4 1918987632++dC 1 1++dC 8 g=o4:=by rw[ho4];simp -implicitDefEqProofs only[List.nil_append,List.append_assoc]
 rw[eo4]at p5
 have lo4:o4.length=13:=by rw[ho4];simp -implicitDefEqProofs only[List.length_append,bl]
 simp -implicitDefEqProofs only[op,ef,cl,sq,reduceIte,j4,j5,j6,j7,j8,j9,y1,y2,y3,S1,List.length_map,wL]
 refine ae _ _ _ _ _ _ _ _ (u30 p5 U0.len L.length (by omega) (by omega)) ?_
 intro u H6 hq
 obtain⟨hu,p6,sy⟩:=hq.go U0
 cases hu
 have hc6:=p6.lo
 simp -implicitDefEqProofs only[op,ef,cl,sq,reduceIte,j4,j5,j6,j7,j8,j9,y1,y2,y3,S1,List.length_map]
 refine W.eZ 0 [(1,_),(6,_),(37,_),(38,_)] (fun (i:Nat) R H'=>At H' (fun H'=>PW H.length H' H.length (o4++dC 4 L.length++(L.take i).flatMap sz)∧Ext H H')∧R 39=.int .i64 i∧i≤L.length) (fun i=>L.length-i) 0
  (fun R H'=>At H' (fun H'=>PW H.length H' H.length (o4++dC 4 L.length++L.flatMap sz)∧Ext H H')) ⟨.i ⟨by simpa using p6,sy⟩,rfl,Nat.zero_le _⟩ ?_ ?_
 ·rintro i R H7⟨⟨p7,pX⟩,g39,hi⟩
  by_cases aw:i<L.length
  rotate_left
  ·have lu:i=L.length:=by omega
   subst lu
   rw[List.take_length]at p7
   simp -implicitDefEqProofs only[aq,ah,op,ef,cl,sq,reduceIte,j4,j5,j6,j7,j8,j9,y1,y2,y3,S1,g39,aw,cS]
   exact .i ⟨p7,pX⟩
  obtain⟨x,hx⟩:=cw aw
  have ix:=gC (e:=eW) (n:=2) (fun _=>rfl) (by decide) (k:=kL) hx
  have mR:=aC (show i<9223372036854775807 by omega)
  have U1:∀Hx,nC Hx 2 (.dk (eW x))=some (eW x):=fun _=>rfl
  have hf:=mo (e:=sz) hx
  have hle:=mq (e:=sz) L (i+1)
  have yV:((L.take (i+1)).flatMap sz).length=((L.take i).flatMap sz).length+(4+x.1.size+8):=by
   rw[hf,List.length_append]
   show _+(eT x.1++dC 8 x.2).length=_
   rw[List.length_append,iz,bl]
  obtain⟨H8,G9⟩:∃H8,H8=H7++[B.cells (eW x)]:=⟨_,rfl⟩
  have sB:Ext H7 H8:=⟨_,G9⟩
  have d8:H8[H7.length]?=some (.cells (eW x)):=by rw[G9];exact aO rfl
  have bK:H7.length≠H.length:=by
   obtain⟨⟨_,d,_⟩,_⟩:=p7;have:=aY d;omega
  have p8:=p7.ext sB
  have Ha:=pX.trans sB
  simp -implicitDefEqProofs only[eW]at G9 d8 U1 ix
  simp -implicitDefEqProofs only[aq,ah,op,ef,cl,sq,reduceIte,j4,j5,j6,j7,j8,j9,y1,y2,y3,S1,g39,aw,aa,eW,ix,U1,S2]
  rw[←G9]
  refine ae _ _ _ _ _ _ _ _ (vL p8 Ha.len x.1 (by simp -implicitDefEqProofs only[List.length_append,bl];omega)) ?_
  intro u H9 hq
  have d9:=hq.2.2.get _ _ d8 (by simp) bK
  obtain⟨hu,p9,CB⟩:=hq.go Ha
  cases hu
  simp -implicitDefEqProofs only[op,ef,cl,sq,reduceIte,j4,j5,j6,j7,j8,j9,y1,y2,y3,S1,d9]
  refine ae _ _ _ _ _ _ _ _ (u32 p9 CB.len x.2 (by simp -implicitDefEqProofs only[List.length_append,bl,iz];omega)) ?_
  intro u vM hq
  obtain⟨hu,Ip,jL⟩:=hq.go CB
  cases hu
  rw[List.append_assoc,List.append_assoc]at Ip
  have aaZ:PW H.length vM H.length (o4++dC 4 L.length++(L.take (i+1)).flatMap sz):=by
   rw[hf,show sz x=eT x.1++dC 8 x.2 from rfl]
   simpa only[List.append_assoc]using Ip
  simp -implicitDefEqProofs only[op,ef,cl,sq,reduceIte,j4,j5,j6,j7,j8,j9,y1,y2,y3,S1,g39,mR]
  exact⟨i+1,by omega,.i ⟨aaZ,jL⟩,rfl,aw⟩
 rintro R H7⟨p7,pX⟩
 simp -implicitDefEqProofs only[aq,ah,op,ef,cl,sq,reduceIte,j4,j5,j6,j7,j8,j9,y1,y2,y3,S1]
 refine ae _ _ _ _ _ _ _ _ (AQ (h.ext pX) hm) ?_
 rintro u H8⟨sB,kK,N',_,hN',acJ,hu⟩
 cases hu
 have sB:Ext H7 H8:=sB
 have eN:=hN'.uniq hN
 subst eN
 have eKK:N'.map (Uz a)=K.map ki:=by rw[UZ,List.map_map];rfl
 rw[eKK]
 have hKl:K.length≤8000000:=by rw[UZ,List.length_map];omega
 have Pz:∀x∈K,x.keys.length≤1024:=fun x hx=>by
  rw[UZ]at hx
  obtain⟨n,_,rfl⟩:=List.mem_map.1 hx
  exact h.keys n
 have afx:∀x∈K,x.kk=.arg:=fun x hx=>by
  rw[UZ]at hx
  obtain⟨n,_,rfl⟩:=List.mem_map.1 hx
  rfl
 have p8:=p7.ext sB
 have Ha:=pX.trans sB
 have wK:=wrap32 (n:=K.length) (by omega)
 simp -implicitDefEqProofs only[op,ef,cl,sq,reduceIte,j4,j5,j6,j7,j8,j9,y1,y2,y3,S1,List.length_map,wK]
 refine ae _ _ _ _ _ _ _ _ (u30 p8 Ha.len K.length (by omega) (by simp -implicitDefEqProofs only[List.length_append,bl];omega)) ?_
 intro u H9 hq
 obtain⟨hu,p9,CB⟩:=hq.go Ha
 cases hu
 obtain⟨o9,ho9⟩:∃o9,o9=o4++dC 4 L.length++L.flatMap sz++dC 4 K.length:=⟨_,rfl⟩
 rw[←ho9]at p9
 have lo9:o9.length=21+(L.flatMap sz).length:=by rw[ho9];simp -implicitDefEqProofs only[List.length_append,bl];omega
 simp -implicitDefEqProofs only[op,ef,cl,sq,reduceIte,j4,j5,j6,j7,j8,j9,y1,y2,y3,S1,List.length_map]
 refine W.eZ 2 [(6,_),(59,_),(60,_)] (fun (i:Nat) R H'=>At H' (fun H'=>PW H.length H' H.length (o9++(K.take i).flatMap kR)∧Ext H H')∧R 61=.int .i64 i∧i≤K.length) (fun i=>K.length-i) 0
  (fun R H'=>At H' (fun H'=>PW H.length H' H.length (o9++K.flatMap kR)∧Ext H H')) ⟨.i ⟨by simpa using p9,CB⟩,rfl,Nat.zero_le _⟩ ?_ ?_
 ·rintro i R vM⟨⟨Ip,jL⟩,g61,hi⟩
  by_cases aw:i<K.length
  rotate_left
  ·have lu:i=K.length:=by omega
   subst lu
   rw[List.take_length]at Ip
   simp -implicitDefEqProofs only[aq,ah,op,ef,cl,sq,reduceIte,j4,j5,j6,j7,j8,j9,y1,y2,y3,S1,g61,aw,cS]
   exact .i ⟨Ip,jL⟩
  obtain⟨x,hx⟩:=cw aw
  have hxm:=List.mem_of_getElem? hx
  have ix:=gC (e:=ki) (n:=5) (fun _=>rfl) (by decide) (k:=kK) hx
  have mR:=aC (show i<9223372036854775807 by omega)
  have U1:∀Hx,nC Hx 5 (.dk (ki x))=some (ki x):=fun _=>rfl
  have hf:=mo (e:=kR) hx
  have hle:=mq (e:=kR) K (i+1)
  have yV:((K.take (i+1)).flatMap kR).length=((K.take i).flatMap kR).length+(4+x.key.size+8+(4+x.value.size)+(A0 x.keys).length):=by
   rw[hf,List.length_append]
   show _+(eT x.key++(dC 8 x.id++(eT x.value++A0 x.keys))).length=_
   simp -implicitDefEqProofs only[List.length_append,iz,bl];omega
  obtain⟨A2,KV⟩:∃A2,A2=vM++[B.cells (ki x)]:=⟨_,rfl⟩
  have mE:Ext vM A2:=⟨_,KV⟩
  have d11:A2[vM.length]?=some (.cells (ki x)):=by rw[KV];exact aO rfl
  have bK:vM.length≠H.length:=by
   obtain⟨⟨_,d,_⟩,_⟩:=Ip;have:=aY d;omega
  have p11:=Ip.ext mE
  have Mt:=jL.trans mE
  simp -implicitDefEqProofs only[ki]at KV d11 U1 ix
  simp -implicitDefEqProofs only[aq,ah,op,ef,cl,sq,reduceIte,j4,j5,j6,j7,j8,j9,y1,y2,y3,S1,g61,aw,aa,ki,ix,U1,S2]
  rw[←KV]
  refine ae _ _ _ _ _ _ _ _ (vL p11 Mt.len x.key (by simp -implicitDefEqProofs only[List.length_append];omega)) ?_
  intro u yk hq
  have d12:=hq.2.2.get _ _ d11 (by simp) bK
  obtain⟨hu,p12,kr⟩:=hq.go Mt
  cases hu
  simp -implicitDefEqProofs only[op,ef,cl,sq,reduceIte,j4,j5,j6,j7,j8,j9,y1,y2,y3,S1,d12]
  refine ae _ _ _ _ _ _ _ _ (u32 p12 kr.len x.id (by simp -implicitDefEqProofs only[List.length_append,iz];omega)) ?_
  intro u yl hq
  have d13:=hq.2.2.get _ _ d12 (by simp) bK
  obtain⟨hu,p13,mF⟩:=hq.go kr
  cases hu
  simp -implicitDefEqProofs only[op,ef,cl,sq,reduceIte,j4,j5,j6,j7,j8,j9,y1,y2,y3,S1,d13]
  refine ae _ _ _ _ _ _ _ _ (vL p13 mF.len x.value (by simp -implicitDefEqProofs only[List.length_append,iz,bl];omega)) ?_
  intro u C9 hq
  have d14:=hq.2.2.get _ _ d13 (by simp) bK
  obtain⟨hu,p14,oE⟩:=hq.go mF
  cases hu
  simp -implicitDefEqProofs only[op,ef,cl,sq,reduceIte,j4,j5,j6,j7,j8,j9,y1,y2,y3,S1,d14]
  refine ae _ _ _ _ _ _ _ _ (KP p14 oE.len x.kk x.keys (by simp -implicitDefEqProofs only[List.length_append,iz,bl];omega) (by have:=Pz x hxm;omega)) ?_
  intro u U2 hq
  obtain⟨hu,p15,Hc⟩:=hq.go oE
  cases hu
  have aa2:PW H.length U2 H.length (o9++(K.take (i+1)).flatMap kR):=by
   rw[hf,show kR x=eT x.key++(dC 8 x.id++(eT x.value++A0 x.keys)) from rfl]
   simpa only[List.append_assoc]using p15
  simp -implicitDefEqProofs only[op,ef,cl,sq,reduceIte,j4,j5,j6,j7,j8,j9,y1,y2,y3,S1,g61,mR]
  exact⟨i+1,by omega,.i ⟨aa2,Hc⟩,rfl,aw⟩
 rintro R vM⟨Ip,jL⟩
 have U3:o9++K.flatMap kR=body g L K:=by rw[ho9,ho4];unfold body;simp -implicitDefEqProofs only[List.append_assoc]
 rw[U3]at Ip
 have XI:=jK g L K
 have HW:body g L K≠[]:=fun e=>by rw[e]at kE;simp at kE;omega
 generalize body g L K=bd at *
 simp -implicitDefEqProofs only[aq,ah,op,ef,cl,sq,reduceIte,j4,j5,j6,j7,j8,j9,y1,y2,y3,S1]
 refine ae _ _ _ _ _ _ _ _ (Pw Ip HW a9) ?_
 rintro u A2⟨mE,d,hd,hu,hc⟩
 cases hu
 have mE:Ext vM A2:=mE
 simp -implicitDefEqProofs only[op,ef,cl,sq,reduceIte,j4,j5,j6,j7,j8,j9,y1,y2,y3,S1]
 refine ae _ _ _ _ _ _ _ _ (G8 (Bs.ms hc) XI (by omega)) ?_
 rintro u yk⟨kr,hu⟩
 cases hu
 have kr:Ext A2 yk:=kr
 have Mu:Ext H yk:=(jL.trans mE).trans kr
 have hdH:H.length≤d:=Nat.le_trans jL.len hd
 obtain⟨t',yl,ha,hm,dD⟩:=l6 (enc:=eB) (n:=1) (n0:=H.length) (fun _=>rfl) (H:=yk) (t:=.ax d 0 bd.length 1) (l:=bd) (bytes:=1) (dC 4 (iM bd)) (.inr ⟨d,rfl,kr.get hc,hdH⟩) Mu.len (by intro h;have:=congrArg List.length h;rw[bl]at this;cases this) (iY (by rw[bl];omega))
 have sm:uF (.ax d 0 bd.length 1)=.ax d 0 bd.length 1:=rfl
 have hB2:=G4 (dC 4 (iM bd))
 obtain⟨d2,rfl,cr,oK⟩:∃d2,t'=.ax d2 0 (whole bd).length 1∧H.length≤d2∧yl[d2]?=some (.cells (aE eB (whole bd))):=by
  rcases hm with⟨h,_⟩|⟨c5,h1,h2,h3⟩
  ·have:=congrArg List.length h;rw[List.length_append,bl]at this;simp at this
  ·exact⟨c5,h1,h3,h2⟩
 simp -implicitDefEqProofs only[op,ef,cl,sq,reduceIte,j4,j5,j6,j7,j8,j9,y1,y2,y3,S1,hB2,sm,ha]
 exact⟨dD.ext H (Nat.le_refl _) Mu,d2,cr,rfl,oK⟩
theorem vN {b:Bk}{a:Ab}{F:Nat→Prop}{m:Nat}{H:af}(h:gO H b a F m)(hm:m≤8000000)(Nc:∀k n,a.l k=some n→a.has (k,n)=true){N:List Nm}(hN:Names a N){ls:List ByteArray}(hL:cX a ls)(gen:Int)(hg:1≤gen∧gen<9223372036854775808)
  (a9:(body gen.toNat (ls.map (gh a)) (N.map (bT a))).length≤2147483647) :
  W env (.call 10 [.int .i64 gen,.ptr b.s 0]) H (fun o H'=>Ext H H'∧∃k,k≠.nil∧o=.val (.bJ [.sl k ((whole (body gen.toNat (ls.map (gh a)) (N.map (bT a)))).map eB),.int .i64 0])):=by
 refine W.qa _ (rS h hm Nc hN hL gen hg a9) fun o H' ⟨hx,c,hc,ho,hd⟩=>⟨_,c,_,ho,⟨0,_,1,List.mem_cons_self⟩,hd,hx.set hc _,.arg,by simp,?_⟩
 generalize whole (body gen.toNat (ls.map (gh a)) (N.map (bT a)))=l at *
 have h1:0+l.length*1≤(aE eB l).length:=by rw[da (n:=1) fun _=>rfl];omega
 simp -implicitDefEqProofs only[Bm,List.map_cons,List.map_nil,Go.Rmp.uG,h1,and_self,if_true,ve (n:=1) (enc:=eB) (fun _=>rfl)]
end Go.Proofs.YtdcpehdijdllpaaGreat.St
end
