/- Part of a proof of a law of this seat: the machine of plain values, its simulation, and the contracts of the functions that the law reaches. Conditions: none beyond the given row. -/
import Derived.Test.YtodegnhallgnkaaM2
import Derived.Sort.AssemblyPlain
open Int renaming reduceLT → j2, reduceLE → j3, reduceBEq → j4, reduceBNe → j5, reduceEq → j6
open Nat renaming reduceAdd → j7, reduceLeDiff → j8, reduceLT → j9, reduceEqDiff → y1
set_option linter.unusedSimpArgs false
set_option linter.unusedVariables false
set_option linter.unnecessarySimpa false
set_option maxHeartbeats 4000000
section
namespace Go.Proofs.Ytodegnhallgnkaa.St
open Go.Rmp Go.Proofs.Ytodegnhallgnkaa.Ir
set_option maxRecDepth 10000
theorem Hv (es:List (Nm×T))(c mb:Nat)(H:ae)(jj:(es.map (·.1)).Nodup)(iz:es.length≤8000000)(hc:H[c]?=some (.cells [.map mb]))(hm:H[mb]?=some (.map (bo kN es))) :
  W env (.call 50 [.fn 52 [.ptr c 0]]) H (K2 eN 2 es H):=by
 refine W.cJ rfl rfl rfl ?_
 simp -implicitDefEqProofs only[GL,op,ef,cl,sq,reduceIte,j2,j3,j4,j5,j6,j7,j8,j9,y1,S1]
 refine af _ _ _ _ _ _ _ _ (K3 es c mb H jj iz hc hm) ?_
 rintro u H1⟨hx,t,dD,hu,h1,h2⟩
 cases hu
 simp -implicitDefEqProofs only[op,ef,cl,sq,reduceIte,j2,j3,j4,j5,j6,j7,j8,j9,y1,S1]
 exact⟨hx,_,dD,rfl,h1,h2⟩
theorem mV {α:Type}[Inhabited α]{d:Array α}{i:Nat}(h:i<d.size):d.toList[i]?=some d[i]!:=by
 rw[Array.getElem?_toList,Array.getElem?_eq_getElem h,getElem!_pos d i h]
theorem A3 {α:Type}[Inhabited α](d:Array α)(i j:Nat):(Go.Sort.swp d i j).toList=(d.toList.set i d[j]!).set j d[i]!:=by
 simp[Go.Sort.swp,Array.toList_setIfInBounds]
theorem swp_size {α:Type}[Inhabited α](d:Array α)(i j:Nat):(Go.Sort.swp d i j).size=d.size:=by simp[Go.Sort.swp]
def aH (a b:Nm):Bool:=decide (cL a b<0)
def PU (c:Nat)(d':Array Nm)(H:ae):Out→ae→Prop:=fun o H'=>o=.val (.bE [])∧H'[c]?=some (.cells (aJ eN d'.toList))∧bO (fun x=>x=c) H H'
theorem qO {Hx:ae}{c:Nat}(d:Array Nm){i j:Nat}(hi:i<d.size)(hj:j<d.size) :
  xo Hx c [.str d[j]!.1,.int .u64 d[j]!.2] (i*2) (some (.cells (aJ eN d.toList)))=some (Hx.set c (.cells (aJ eN (d.toList.set i d[j]!)))) ∧
  ∀Hy,xo Hy c [.str d[i]!.1,.int .u64 d[i]!.2] (j*2) (some (.cells (aJ eN (d.toList.set i d[j]!))))=some (Hy.set c (.cells (aJ eN (Go.Sort.swp d i j).toList))):=by
 have g1:=jr (enc:=eN) (n:=2) (y:=d[j]!) (fun _=>rfl) (mV hi) Hx c (eN d[j]!) 0 (by simp[eN]) (by simp[eN])
 obtain⟨z,hz⟩:=cF (l:=d.toList.set i d[j]!) (i:=j) (by simpa using hj)
 have g2:=fun Hy=>jr (enc:=eN) (n:=2) (y:=d[i]!) (fun _=>rfl) hz Hy c (eN d[i]!) 0 (by simp[eN]) (by simp[eN])
 refine⟨by simpa[eN]using g1,fun Hy=>?_⟩
 rw[A3]
 simpa[eN]using g2 Hy
theorem A4 {d:Array Nm}{i:Nat}(h:i<d.size):mE 2 (i*2) (some (.cells (aJ eN d.toList)))=some [.str d[i]!.1,.int .u64 d[i]!.2]:=by
 have:=g9 (enc:=eN) (n:=2) (fun _=>rfl) (mV h) 0 2 (by decide)
 simpa[eN]using this
open Go.Sort in
theorem K5 (c:Nat)(d:Array Nm)(a b:Nat)(H:ae)(hc:H[c]?=some (.cells (aJ eN d.toList)))(hb:b≤d.size)(oM:a≤b)(hs:d.size<4611686018427387903) :
  W env (.call 80 [.aE c 0 d.size 2,.int .i64 a,.int .i64 b,.fn 40 []]) H (PU c (insertionSort aH d a b) H):=by
 refine W.cJ rfl rfl rfl ?_
 have wa:=aF (show a<9223372036854775807 by omega)
 simp -implicitDefEqProofs only[Dp,op,ef,cl,sq,reduceIte,j2,j3,j4,j5,j6,j7,j8,j9,y1,S1,wa]
 refine W.cZ (fun (i:Nat) R H'=>At H' (fun H'=>∃di:Array Nm,H'[c]?=some (.cells (aJ eN di.toList))∧di.size=d.size∧insOuter aH a b i di=insertionSort aH d a b∧bO (fun x=>x=c) H H')∧R 0=.aE c 0 d.size 2∧R 1=.int .i64 a∧R 2=.int .i64 b∧R 3=.fn 40 []∧R 8=.int .i64 i∧a+1≤i) (fun i=>b-i) (a+1) ⟨.i ⟨d,hc,rfl,rfl,bO.refl _ _⟩,rfl,rfl,rfl,rfl,rfl,Nat.le_refl _⟩ ?_
 rintro i R H1⟨⟨di,hd,bn,Hw,aG⟩,h0,h1,h2,h3,h8,qK⟩
 by_cases au:i<b
 ·have wi:=aF (show i<9223372036854775807 by omega)
  simp -implicitDefEqProofs only[op,ef,cl,sq,reduceIte,j2,j3,j4,j5,j6,j7,j8,j9,y1,S1,h0,h1,h2,h3,h8,au]
  refine W.eZ 2 (fun (j:Nat) R H'=>At H' (fun H'=>∃dj:Array Nm,H'[c]?=some (.cells (aJ eN dj.toList))∧dj.size=d.size∧insInner aH a j dj=insInner aH a i di∧bO (fun x=>x=c) H H')∧R 0=.aE c 0 d.size 2∧R 1=.int .i64 a∧R 2=.int .i64 b∧R 3=.fn 40 []∧R 8=.int .i64 i∧R 9=.int .i64 j∧j≤i) (fun j=>j) i
   (fun R H'=>At H' (fun H'=>∃dj:Array Nm,H'[c]?=some (.cells (aJ eN dj.toList))∧dj.size=d.size∧dj=insInner aH a i di∧bO (fun x=>x=c) H H')∧R 0=.aE c 0 d.size 2∧R 1=.int .i64 a∧R 2=.int .i64 b∧R 3=.fn 40 []∧R 8=.int .i64 i) ?_ ?_ ?_
  ·refine⟨.i ⟨di,hd,bn,rfl,aG⟩,?_,?_,?_,?_,?_,?_,Nat.le_refl _⟩
   all_goals (simp -implicitDefEqProofs only[op,ef,cl,sq,reduceIte,j2,j3,j4,j5,j6,j7,j8,j9,y1,S1,h0,h1,h2,h3,h8])
  ·rintro j R H2⟨⟨dj,cw,xC,A5,o3⟩,q0,q1,q2,q3,q8,q9,Ma⟩
   by_cases PW:a<j
   ·obtain⟨j',rfl⟩:∃j',j=j'+1:=⟨j-1,by omega⟩
    have wp:IntKind.i64.wrap (((j'+1:Nat):Int)-1)=(j':Int):=by rw[wrap64 (by omega)];omega
    have j1:j'+1<d.size:=by omega
    have j0:j'<d.size:=by omega
    have i1:ew 2 (j'+1) (.aE c 0 d.size 2)=some (.ptr c ((j'+1)*2)):=by rw[ie];simp[j1]
    have i0:ew 2 j' (.aE c 0 d.size 2)=some (.ptr c (j'*2)):=by rw[ie];simp[j0]
    have v1:=A4 (d:=dj) (i:=j'+1) (by omega)
    have v0:=A4 (d:=dj) (i:=j') (by omega)
    simp -implicitDefEqProofs only[op,ef,cl,sq,reduceIte,j2,j3,j4,j5,j6,j7,j8,j9,y1,S1,q0,q1,q2,q3,q8,q9,PW,aa,i1,i0,wp,cw,v1,v0]
    refine iW _ _ _ _ _ _ _ (by simp -implicitDefEqProofs only[op,ef,cl,sq,reduceIte,j2,j3,j4,j5,j6,j7,j8,j9,y1,S1]) ?_
    simp -implicitDefEqProofs only[op,ef,cl,sq,reduceIte,j2,j3,j4,j5,j6,j7,j8,j9,y1,S1,bK,q0,q1,q2,q3,q8,q9,List.append_nil]
    refine af _ _ _ _ _ _ _ _ (bC dj[j'+1]! dj[j']! _) ?_
    rintro u H3⟨hu,hx⟩
    cases hu
    have hx:Ext H2 H3:=hx
    have vV:=hx.get cw
    obtain⟨s1,s2⟩:=qO (Hx:=H3) (c:=c) dj (i:=j'+1) (j:=j') (by omega) (by omega)
    have K6:bO (fun x=>x=c) H H3:=o3.trans (aK (F:=fun _=>False) hx) (fun _ h=>h.elim)
    have Ry:aH dj[j'+1]! dj[j']! = decide (cL dj[j'+1]! dj[j']!<0):=rfl
    by_cases mM:cL dj[j'+1]! dj[j']!<0
    ·simp -implicitDefEqProofs only[op,ef,cl,sq,reduceIte,j2,j3,j4,j5,j6,j7,j8,j9,y1,S1,q0,q1,q2,q3,q8,q9,mM,aa,i1,i0,wp,vV,v1,v0,s1,S2,s2,a6 vV]
     exact⟨j',by omega,.i ⟨swp dj (j'+1) j',cK (by rw[List.length_set];exact a6 vV),by rw[swp_size];exact xC,by rw[←A5];conv=>{ rhs;rw[insInner,if_pos (by simp -implicitDefEqProofs only[Bool.and_eq_true,decide_eq_true_eq,Ry];exact⟨PW,mM⟩)] },(K6.set (.inl rfl) _).set (.inl rfl) _⟩,rfl,by omega⟩
    ·simp -implicitDefEqProofs only[op,ef,cl,sq,reduceIte,j2,j3,j4,j5,j6,j7,j8,j9,y1,S1,q0,q1,q2,q3,q8,q9,mM]
     exact .i ⟨dj,vV,xC,by rw[←A5,insInner,Ry];simp[mM],K6⟩
   ·simp -implicitDefEqProofs only[op,ef,cl,sq,reduceIte,j2,j3,j4,j5,j6,j7,j8,j9,y1,S1,q0,q1,q2,q3,q8,q9,PW]
    refine .i ⟨dj,cw,xC,?_,o3⟩
    rw[←A5]
    cases j with
    | zero=>rfl
    | succ j=>rw[insInner,if_neg (by simp -implicitDefEqProofs only[Bool.and_eq_true,decide_eq_true_eq];omega)]
  ·rintro R H2⟨⟨dj,cw,xC,A5,o3⟩,q0,q1,q2,q3,q8⟩
   simp -implicitDefEqProofs only[op,ef,cl,sq,reduceIte,j2,j3,j4,j5,j6,j7,j8,j9,y1,S1,q0,q1,q2,q3,q8,wi]
   refine⟨i+1,by omega,.i ⟨dj,cw,xC,?_,o3⟩,rfl,by omega⟩
   rw[←Hw,A5]
   conv=>rhs;rw[insOuter,if_pos au]
 ·simp -implicitDefEqProofs only[op,ef,cl,sq,reduceIte,j2,j3,j4,j5,j6,j7,j8,j9,y1,S1,h0,h1,h2,h3,h8,au]
  rw[insOuter,if_neg au]at Hw
  subst Hw
  exact⟨rfl,hd,aG⟩
theorem DA {β:Type}{K:Option β→Prop}{A:Array UInt8}{n:Nat}(hn:n<A.size)(f:UInt8→β)(h:∀c,K (some (f c))):K (Option.map f A[n]?):=by rw[Array.getElem?_eq_getElem hn];exact h _
theorem PX (n:Nat)(hn:n<256)(H:ae):W env (.call 70 [.int .u64 n]) H (fun o H'=>H'=H∧∃m:Nat,o=.val (.int .i64 m)):=by
 refine W.cJ rfl rfl rfl ?_
 simp -implicitDefEqProofs only[Dn,op,ef,cl,sq,reduceIte,j2,j3,j4,j5,j6,j7,j8,j9,y1,S1]
 refine af _ _ _ _ _ _ _ (fun o H'=>H'=H∧∃m:Nat,o=.val (.int .i64 m)) ?_ ?_
 ·refine W.cJ rfl rfl rfl ?_
  have h1:¬(4294967296≤n):=by omega
  have h2:¬(65536≤n):=by omega
  have h3:¬(256≤n):=by omega
  have Hz:=vP hn
  simp -implicitDefEqProofs only[xr,op,ef,cl,sq,reduceIte,j2,j3,j4,j5,j6,j7,j8,j9,y1,S1,h1,h2,h3,Hz,aa]
  refine DA (K:=gC env _ _ _ _ _ _ _ _) (by show n<256;exact hn) _ fun ch=>?_
  have DB:ch.toNat<256:=ch.toNat_lt
  have wc:IntKind.i64.wrap ((ch.toNat:Nat):Int)=((ch.toNat:Nat):Int):=wrap64 (by omega)
  have UE:IntKind.i64.wrap (0+((ch.toNat:Nat):Int))=((ch.toNat:Nat):Int):=by rw[wrap64 (by omega)];omega
  simp -implicitDefEqProofs only[op,ef,cl,sq,reduceIte,j2,j3,j4,j5,j6,j7,j8,j9,y1,S1,wc,UE]
  exact⟨ch.toNat,rfl⟩
 ·rintro u H'⟨rfl,m,hu⟩
  cases hu
  simp -implicitDefEqProofs only[op,ef,cl,sq,reduceIte,j2,j3,j4,j5,j6,j7,j8,j9,y1,S1]
  exact⟨m,rfl⟩
set_option maxHeartbeats 8000000
theorem wA {a b:Nat}(h:a+b<9223372036854775808):IntKind.i64.wrap ((a:Int)+(b:Int))=((a+b:Nat):Int):=by rw[wrap64 (by omega)];omega
theorem bm {a:Nat}(h:a+1<9223372036854775808):IntKind.i64.wrap ((a:Int)+1)=((a+1:Nat):Int):=by rw[wrap64 (by omega)];omega
theorem wS {a b:Nat}(h:b≤a∧a<9223372036854775808):IntKind.i64.wrap ((a:Int)-(b:Int))=((a-b:Nat):Int):=by rw[wrap64 (by omega)];omega
theorem bj {a:Nat}(h:1≤a∧a<9223372036854775808):IntKind.i64.wrap ((a:Int)-1)=((a-1:Nat):Int):=by rw[wrap64 (by omega)];omega
theorem wM {a:Nat}(h:2*a<9223372036854775808):IntKind.i64.wrap (2*(a:Int))=((2*a:Nat):Int):=by rw[wrap64 (by omega)];omega
section
variable {c n i j:Nat} {d:Array Nm}
theorem aw (h:i<n):ew 2 i (.aE c 0 n 2)=some (.ptr c (i*2)):=by rw[ie];simp[h]
theorem oA {l:List Nm}:(aJ eN l).length=l.length*2:=by rw[cO (n:=2) (fun _=>rfl)]
theorem ax (h:i<d.size):(i*2+2≤(aJ eN d.toList).length)=True:=by rw[oA];simp;omega
theorem ay (h:i<d.size):List.take 2 (List.drop (i*2) (aJ eN d.toList))=[.str d[i]!.1,.int .u64 d[i]!.2]:=by
 have:=A4 h
 rw[n9,if_pos (by rw[oA];simp;omega)]at this
 exact Option.some.inj this
theorem aA {x:Nm}(h:i<d.size):(i*2+2≤(aJ eN (d.toList.set j x)).length)=True:=by rw[oA];simp;omega
theorem aB (h:i<d.size)(h':j<d.size):(List.take (i*2) (aJ eN d.toList)++[.str d[j]!.1,.int .u64 d[j]!.2])++List.drop (i*2+2) (aJ eN d.toList)=aJ eN (d.toList.set i d[j]!):=by
 have:=(qO (Hx:=[.cells []]) (c:=0) d h h').1
 rw[oa,if_pos (by rw[oA];simp;omega)]at this
 simpa using this
theorem aC (h:i<d.size)(h':j<d.size):(List.take (j*2) (aJ eN (d.toList.set i d[j]!))++[.str d[i]!.1,.int .u64 d[i]!.2])++List.drop (j*2+2) (aJ eN (d.toList.set i d[j]!))=aJ eN (Go.Sort.swp d i j).toList:=by
 have:=(qO (Hx:=[.cells []]) (c:=0) d h h').2 [.cells []]
 rw[oa,if_pos (by rw[oA];simp;omega)]at this
 simpa using this
end
theorem eb {p:Prop}[Decidable p](h:p):decide p=true:=decide_eq_true h
theorem dQ {p:Prop}[Decidable p](h:¬p):decide p=false:=decide_eq_false h
theorem lh {a b:Bool}(h:a=true)(h':b=true):(a&&b)=true:=by rw[h,h'];rfl
theorem gq {a b:Bool}(h:a=false):¬((a&&b)=true):=by rw[h];simp
theorem hO {a b:Bool}(h:b=false):¬((a&&b)=true):=by rw[h];simp
theorem pY {a:Bool}(h:a=true):¬((!a)=true):=by rw[h];simp
theorem jT {a:Bool}(h:a=false):(!a)=true:=by rw[h];rfl
def SC (c n:Nat)(H:ae)(P:Array Nm→Prop)(H':ae):Prop:=∃d:Array Nm,H'[c]?=some (.cells (aJ eN d.toList))∧d.size=n∧P d∧bO (fun x=>x=c) H H'
theorem SC.swp {c n:Nat}{H H1:ae}{P:Array Nm→Prop}{y x:B}{d':Array Nm}(hd:H1[c]?=some y)(hs:d'.size=n)(hP:P d')(hf:bO (fun x=>x=c) H H1):SC c n H P ((H1.set c x).set c (.cells (aJ eN d'.toList))) :=
 ⟨d',cK (by rw[List.length_set];exact a6 hd),hs,hP,(hf.set (.inl rfl) _).set (.inl rfl) _⟩
def uy (c n:Nat)(d':Array Nm)(H:ae):Out→ae→Prop:=fun o H'=>o=.val (.bE [])∧SC c n H (fun x=>x=d') H'
open Go.Sort in
theorem K7 (c n:Nat)(d:Array Nm)(a b:Nat)(H:ae)(hn:d.size=n)(hc:H[c]?=some (.cells (aJ eN d.toList)))(hb:b≤n)(oM:a<b)(hs:n<4611686018427387903) :
  W env (.call 84 [.aE c 0 n 2,.int .i64 a,.int .i64 b,.fn 40 []]) H (uy c n (reverseRange d a b) H):=by
 refine W.cJ rfl rfl rfl ?_
 simp -implicitDefEqProofs (maxSteps:=1000000) (disch:=omega) only[G7,op,ef,cl,sq,reduceIte,j2,j3,j4,j5,j6,j7,j8,j9,y1,S1,bj]
 refine W.cZ (fun (i:Nat) R H'=>At H' (fun H'=>∃j,R 9=.int .i64 (j:Nat)∧i+j=a+b-1∧a≤i∧SC c n H (fun di=>reverseLoop i j di=reverseRange d a b) H')∧R 0=.aE c 0 n 2∧R 8=.int .i64 i) (fun i=>a+b-i) a ⟨.i ⟨b-1,rfl,by omega,Nat.le_refl _,d,hc,hn,rfl,bO.refl _ _⟩,rfl,rfl⟩ ?_
 rintro i R H1⟨⟨j,h9,oL,K8,di,hd,bn,HA,aG⟩,h0,h8⟩
 have lc:=a6 hd
 by_cases au:i<j
 ·simp -implicitDefEqProofs (maxSteps:=1000000) (disch:=omega) only[aa,aw,ax,ay,aA,aB,aC,wA,bm,wS,bj,wM,S2,op,ef,cl,sq,reduceIte,j2,j3,j4,j5,j6,j7,j8,j9,y1,S1,h0,h8,h9,au,hd,lc]
  exact⟨i+1,by omega,.i ⟨j-1,rfl,by omega,by omega,.swp hd (by rw[swp_size];exact bn) (by rw[←HA];conv=>{ rhs;rw[reverseLoop,if_pos au] }) aG⟩,rfl⟩
 ·simp -implicitDefEqProofs only[op,ef,cl,sq,reduceIte,j2,j3,j4,j5,j6,j7,j8,j9,y1,S1,h0,h8,h9,au]
  rw[reverseLoop,if_neg au]at HA
  exact⟨rfl,di,hd,bn,HA,aG⟩
set_option maxHeartbeats 8000000
open Go.Sort in
theorem A6 (c n:Nat)(d:Array Nm)(lo hi first:Nat)(H:ae)(hn:d.size=n)(hc:H[c]?=some (.cells (aJ eN d.toList)))(hb:first+hi≤n)(pf:lo≤n)(hs:n<2305843009213693951) :
  W env (.call 99 [.aE c 0 n 2,.int .i64 lo,.int .i64 hi,.int .i64 first,.fn 40 []]) H (uy c n (siftDown aH hi first lo d) H):=by
 refine W.cJ rfl rfl rfl ?_
 simp -implicitDefEqProofs only[Hc,op,ef,cl,sq,reduceIte,j2,j3,j4,j5,j6,j7,j8,j9,y1,S1]
 refine W.cZ (fun (r:Nat) R H'=>At H' (fun H'=>SC c n H (fun di=>siftDown aH hi first r di=siftDown aH hi first lo d) H')∧R 0=.aE c 0 n 2∧R 2=.int .i64 hi∧R 3=.int .i64 first∧R 4=.fn 40 []∧R 10=.int .i64 r∧r≤n) (fun r=>hi-r) lo ⟨.i ⟨d,hc,hn,rfl,bO.refl _ _⟩,rfl,rfl,rfl,rfl,rfl,pf⟩ ?_
 rintro r R H1⟨⟨di,hd,bn,hP,aG⟩,h0,h2,h3,h4,aU,hr⟩
 have lc:=a6 hd
 by_cases fN:2*r+1≥hi
 ·simp -implicitDefEqProofs (maxSteps:=1000000) (disch:=omega) only[aa,aw,ax,ay,aA,aB,aC,wA,bm,wS,bj,wM,S2,op,ef,cl,sq,reduceIte,j2,j3,j4,j5,j6,j7,j8,j9,y1,S1,h0,h2,h3,h4,aU,fN]
  rw[siftDown,dif_pos fN]at hP
  exact⟨rfl,di,hd,bn,hP,aG⟩
 by_cases fj:2*r+1+1<hi
 ·simp -implicitDefEqProofs (maxSteps:=1000000) (disch:=omega) only[aa,aw,ax,ay,aA,aB,aC,wA,bm,wS,bj,wM,S2,op,ef,cl,sq,reduceIte,j2,j3,j4,j5,j6,j7,j8,j9,y1,S1,h0,h2,h3,h4,aU,fN,fj,hd,lc]
  refine iW _ _ _ _ _ _ _ (by simp -implicitDefEqProofs (maxSteps:=1000000) (disch:=omega) only[aa,aw,ax,ay,aA,aB,aC,wA,bm,wS,bj,wM,S2,op,ef,cl,sq,reduceIte,j2,j3,j4,j5,j6,j7,j8,j9,y1,S1,h0,h2,h3,h4,aU,fN,fj,hd,lc]) ?_
  simp -implicitDefEqProofs (maxSteps:=1000000) (disch:=omega) only[aa,aw,ax,ay,aA,aB,aC,wA,bm,wS,bj,wM,S2,op,ef,cl,sq,reduceIte,j2,j3,j4,j5,j6,j7,j8,j9,y1,S1,bK,h0,h2,h3,h4,aU,fN,fj,hd,lc,List.append_nil]
  refine af _ _ _ _ _ _ _ _ (bC di[first+(2*r+1)]! di[first+(2*r+1)+1]! _) ?_
  rintro u H2⟨hu,hx⟩
  cases hu
  have hx:Ext H1 H2:=hx
  have hd:=hx.get hd
  have lc:=a6 hd
  have aG:=aG.trans (aK (F:=fun _=>False) hx) (fun _ h=>h.elim)
  have gu:aH di[first+(2*r+1)]! di[first+(2*r+1)+1]! = decide (cL di[first+(2*r+1)]! di[first+(2*r+1)+1]!<0):=rfl
  by_cases c1:cL di[first+(2*r+1)]! di[first+(2*r+1)+1]!<0
  ·simp -implicitDefEqProofs (maxSteps:=1000000) (disch:=omega) only[aa,aw,ax,ay,aA,aB,aC,wA,bm,wS,bj,wM,S2,op,ef,cl,sq,reduceIte,j2,j3,j4,j5,j6,j7,j8,j9,y1,S1,h0,h2,h3,h4,aU,fN,fj,hd,lc,c1]
   refine iW _ _ _ _ _ _ _ (by simp -implicitDefEqProofs (maxSteps:=1000000) (disch:=omega) only[aa,aw,ax,ay,aA,aB,aC,wA,bm,wS,bj,wM,S2,op,ef,cl,sq,reduceIte,j2,j3,j4,j5,j6,j7,j8,j9,y1,S1,h0,h2,h3,h4,aU,fN,fj,hd,lc]) ?_
   simp -implicitDefEqProofs (maxSteps:=1000000) (disch:=omega) only[aa,aw,ax,ay,aA,aB,aC,wA,bm,wS,bj,wM,S2,op,ef,cl,sq,reduceIte,j2,j3,j4,j5,j6,j7,j8,j9,y1,S1,bK,h0,h2,h3,h4,aU,fN,fj,hd,lc,List.append_nil]
   refine af _ _ _ _ _ _ _ _ (bC di[first+r]! di[first+(2*r+1+1)]! _) ?_
   rintro u H3⟨hu,hx⟩
   cases hu
   have hx:Ext H2 H3:=hx
   have hd:=hx.get hd
   have lc:=a6 hd
   have aG:=aG.trans (aK (F:=fun _=>False) hx) (fun _ h=>h.elim)
   have ET:aH di[first+r]! di[first+(2*r+1+1)]! = decide (cL di[first+r]! di[first+(2*r+1+1)]!<0):=rfl
   by_cases c2:cL di[first+r]! di[first+(2*r+1+1)]!<0
   ·simp -implicitDefEqProofs (maxSteps:=1000000) (disch:=omega) only[aa,aw,ax,ay,aA,aB,aC,wA,bm,wS,bj,wM,S2,op,ef,cl,sq,reduceIte,j2,j3,j4,j5,j6,j7,j8,j9,y1,S1,h0,h2,h3,h4,aU,fN,fj,hd,lc,c2]
    refine⟨2*r+1+1,by omega,.i (.swp hd (by rw[swp_size];exact bn) ?_ aG),rfl,by omega⟩
    rw[←hP]
    conv=>{ rhs;rw[siftDown,dif_neg fN,if_pos (lh (eb fj) (gu.trans (eb c1))),if_neg (pY (ET.trans (eb c2))),dif_pos fj] }
   ·simp -implicitDefEqProofs (maxSteps:=1000000) (disch:=omega) only[aa,aw,ax,ay,aA,aB,aC,wA,bm,wS,bj,wM,S2,op,ef,cl,sq,reduceIte,j2,j3,j4,j5,j6,j7,j8,j9,y1,S1,h0,h2,h3,h4,aU,fN,fj,hd,lc,c2]
    rw[siftDown,dif_neg fN,if_pos (lh (eb fj) (gu.trans (eb c1))),if_pos (jT (ET.trans (dQ c2)))]at hP
    exact⟨rfl,di,hd,bn,hP,aG⟩
  ·simp -implicitDefEqProofs (maxSteps:=1000000) (disch:=omega) only[aa,aw,ax,ay,aA,aB,aC,wA,bm,wS,bj,wM,S2,op,ef,cl,sq,reduceIte,j2,j3,j4,j5,j6,j7,j8,j9,y1,S1,h0,h2,h3,h4,aU,fN,fj,hd,lc,c1]
   refine iW _ _ _ _ _ _ _ (by simp -implicitDefEqProofs (maxSteps:=1000000) (disch:=omega) only[aa,aw,ax,ay,aA,aB,aC,wA,bm,wS,bj,wM,S2,op,ef,cl,sq,reduceIte,j2,j3,j4,j5,j6,j7,j8,j9,y1,S1,h0,h2,h3,h4,aU,fN,fj,hd,lc]) ?_
   simp -implicitDefEqProofs (maxSteps:=1000000) (disch:=omega) only[aa,aw,ax,ay,aA,aB,aC,wA,bm,wS,bj,wM,S2,op,ef,cl,sq,reduceIte,j2,j3,j4,j5,j6,j7,j8,j9,y1,S1,bK,h0,h2,h3,h4,aU,fN,fj,hd,lc,List.append_nil]
   refine af _ _ _ _ _ _ _ _ (bC di[first+r]! di[first+(2*r+1)]! _) ?_
   rintro u H3⟨hu,hx⟩
   cases hu
   have hx:Ext H2 H3:=hx
   have hd:=hx.get hd
   have lc:=a6 hd
   have aG:=aG.trans (aK (F:=fun _=>False) hx) (fun _ h=>h.elim)
   have ET:aH di[first+r]! di[first+(2*r+1)]! = decide (cL di[first+r]! di[first+(2*r+1)]!<0):=rfl
   by_cases c2:cL di[first+r]! di[first+(2*r+1)]!<0
   ·simp -implicitDefEqProofs (maxSteps:=1000000) (disch:=omega) only[aa,aw,ax,ay,aA,aB,aC,wA,bm,wS,bj,wM,S2,op,ef,cl,sq,reduceIte,j2,j3,j4,j5,j6,j7,j8,j9,y1,S1,h0,h2,h3,h4,aU,fN,fj,hd,lc,c2]
    refine⟨2*r+1,by omega,.i (.swp hd (by rw[swp_size];exact bn) ?_ aG),rfl,by omega⟩
    rw[←hP]
    conv=>{ rhs;rw[siftDown,dif_neg fN,if_neg (hO (gu.trans (dQ c1))),if_neg (pY (ET.trans (eb c2)))] }
   ·simp -implicitDefEqProofs (maxSteps:=1000000) (disch:=omega) only[aa,aw,ax,ay,aA,aB,aC,wA,bm,wS,bj,wM,S2,op,ef,cl,sq,reduceIte,j2,j3,j4,j5,j6,j7,j8,j9,y1,S1,h0,h2,h3,h4,aU,fN,fj,hd,lc,c2]
    rw[siftDown,dif_neg fN,if_neg (hO (gu.trans (dQ c1))),if_pos (jT (ET.trans (dQ c2)))]at hP
    exact⟨rfl,di,hd,bn,hP,aG⟩
 ·simp -implicitDefEqProofs (maxSteps:=1000000) (disch:=omega) only[aa,aw,ax,ay,aA,aB,aC,wA,bm,wS,bj,wM,S2,op,ef,cl,sq,reduceIte,j2,j3,j4,j5,j6,j7,j8,j9,y1,S1,h0,h2,h3,h4,aU,fN,fj,hd,lc]
  simp -implicitDefEqProofs only[op,ef,cl,sq,reduceIte,j2,j3,j4,j5,j6,j7,j8,j9,y1,S1]
  simp -implicitDefEqProofs (maxSteps:=1000000) (disch:=omega) only[aa,aw,ax,ay,aA,aB,aC,wA,bm,wS,bj,wM,S2,op,ef,cl,sq,reduceIte,j2,j3,j4,j5,j6,j7,j8,j9,y1,S1,h0,h2,h3,h4,aU,fN,fj,hd,lc]
  refine iW _ _ _ _ _ _ _ (by simp -implicitDefEqProofs (maxSteps:=1000000) (disch:=omega) only[aa,aw,ax,ay,aA,aB,aC,wA,bm,wS,bj,wM,S2,op,ef,cl,sq,reduceIte,j2,j3,j4,j5,j6,j7,j8,j9,y1,S1,h0,h2,h3,h4,aU,fN,fj,hd,lc]) ?_
  simp -implicitDefEqProofs (maxSteps:=1000000) (disch:=omega) only[aa,aw,ax,ay,aA,aB,aC,wA,bm,wS,bj,wM,S2,op,ef,cl,sq,reduceIte,j2,j3,j4,j5,j6,j7,j8,j9,y1,S1,bK,h0,h2,h3,h4,aU,fN,fj,hd,lc,List.append_nil]
  refine af _ _ _ _ _ _ _ _ (bC di[first+r]! di[first+(2*r+1)]! _) ?_
  rintro u H3⟨hu,hx⟩
  cases hu
  have hx:Ext H1 H3:=hx
  have hd:=hx.get hd
  have lc:=a6 hd
  have aG:=aG.trans (aK (F:=fun _=>False) hx) (fun _ h=>h.elim)
  have ET:aH di[first+r]! di[first+(2*r+1)]! = decide (cL di[first+r]! di[first+(2*r+1)]!<0):=rfl
  by_cases c2:cL di[first+r]! di[first+(2*r+1)]!<0
  ·simp -implicitDefEqProofs (maxSteps:=1000000) (disch:=omega) only[aa,aw,ax,ay,aA,aB,aC,wA,bm,wS,bj,wM,S2,op,ef,cl,sq,reduceIte,j2,j3,j4,j5,j6,j7,j8,j9,y1,S1,h0,h2,h3,h4,aU,fN,fj,hd,lc,c2]
   refine⟨2*r+1,by omega,.i (.swp hd (by rw[swp_size];exact bn) ?_ aG),rfl,by omega⟩
   rw[←hP]
   conv=>{ rhs;rw[siftDown,dif_neg fN,if_neg (gq (dQ fj)),if_neg (pY (ET.trans (eb c2)))] }
  ·simp -implicitDefEqProofs (maxSteps:=1000000) (disch:=omega) only[aa,aw,ax,ay,aA,aB,aC,wA,bm,wS,bj,wM,S2,op,ef,cl,sq,reduceIte,j2,j3,j4,j5,j6,j7,j8,j9,y1,S1,h0,h2,h3,h4,aU,fN,fj,hd,lc,c2]
   rw[siftDown,dif_neg fN,if_neg (gq (dQ fj)),if_pos (jT (ET.trans (dQ c2)))]at hP
   exact⟨rfl,di,hd,bn,hP,aG⟩
set_option maxHeartbeats 8000000
theorem UF {a:Nat}(h:a<9223372036854775808):IntKind.i64.wrap ((a:Int).tdiv 2)=((a/2:Nat):Int):=by rw[Int.tdiv_eq_ediv_of_nonneg (by omega),wrap64 (by omega)];omega
theorem Rz {a:Nat}(h:a<9223372036854775808):IntKind.i64.wrap ((a:Int)-1)=(a:Int)-1:=wrap64 (by omega)
theorem K9 {a:Nat}:(((a:Nat):Int)≥0)=True:=by simp
open Go.Sort in
theorem HB (c n:Nat)(d:Array Nm)(a b:Nat)(H:ae)(hn:d.size=n)(hc:H[c]?=some (.cells (aJ eN d.toList)))(hb:b≤n)(oM:a<b)(hs:n<2305843009213693951) :
  W env (.call 81 [.aE c 0 n 2,.int .i64 a,.int .i64 b,.fn 40 []]) H (uy c n (heapSort aH d a b) H):=by
 refine W.cJ rfl rfl rfl ?_
 simp -implicitDefEqProofs (maxSteps:=1000000) (disch:=omega) only[G5,aa,aw,ax,ay,aA,aB,aC,wA,bm,wS,bj,wM,S2,op,ef,cl,sq,reduceIte,j2,j3,j4,j5,j6,j7,j8,j9,y1,S1,UF]
 refine W.eZ 0 (fun (k:Nat) R H'=>At H' (fun H'=>SC c n H (fun di=>heapBuild aH (b-a) a k di=heapBuild aH (b-a) a ((b-a-1)/2+1) d) H')∧R 0=.aE c 0 n 2∧R 3=.fn 40 []∧R 8=.int .i64 a∧R 9=.int .i64 0∧R 10=.int .i64 (b-a:Nat)∧R 11=.int .i64 ((k:Int)-1)∧k≤b-a) (fun k=>k) ((b-a-1)/2+1)
  (fun R H'=>At H' (fun H'=>SC c n H (fun di=>di=heapBuild aH (b-a) a ((b-a-1)/2+1) d) H')∧R 0=.aE c 0 n 2∧R 3=.fn 40 []∧R 8=.int .i64 a∧R 9=.int .i64 0∧R 10=.int .i64 (b-a:Nat))
  ⟨.i ⟨d,hc,hn,rfl,bO.refl _ _⟩,rfl,rfl,rfl,rfl,rfl,by simp[iq],by omega⟩ ?_ ?_
 ·rintro k R H1⟨⟨di,hd,bn,hP,aG⟩,h0,h3,h8,h9,aU,bD,hk⟩
  cases k with
  | zero =>
   rw[show(((0:Nat):Int)-1)=-1 from rfl]at bD
   simp -implicitDefEqProofs (maxSteps:=1000000) (disch:=omega) only[aa,aw,ax,ay,aA,aB,aC,wA,bm,wS,bj,wM,S2,op,ef,cl,sq,reduceIte,j2,j3,j4,j5,j6,j7,j8,j9,y1,S1,h0,h3,h8,h9,aU,bD]
   exact .i ⟨di,hd,bn,hP,aG⟩
  | succ k =>
   rw[show(((k+1:Nat):Int)-1)=(k:Int) by omega]at bD
   simp -implicitDefEqProofs (maxSteps:=1000000) (disch:=omega) only[aa,aw,ax,ay,aA,aB,aC,wA,bm,wS,bj,wM,S2,op,ef,cl,sq,reduceIte,j2,j3,j4,j5,j6,j7,j8,j9,y1,S1,h0,h3,h8,h9,aU,bD,K9]
   refine af _ _ _ _ _ _ _ _ (A6 c n di k (b-a) a _ bn hd (by omega) (by omega) hs) ?_
   rintro u H2⟨hu,d2,cw,oN,rfl,jA⟩
   cases hu
   simp -implicitDefEqProofs (maxSteps:=1000000) (disch:=omega) only[Rz,op,ef,cl,sq,reduceIte,j2,j3,j4,j5,j6,j7,j8,j9,y1,S1,h0,h3,h8,h9,aU,bD]
   exact⟨k,by omega,.i ⟨_,cw,oN,hP,aG.trans jA fun _ h=>.inl h⟩,rfl,by omega⟩
 ·rintro R H1⟨⟨di,hd,bn,hP,aG⟩,h0,h3,h8,h9,aU⟩
  simp -implicitDefEqProofs (maxSteps:=1000000) (disch:=omega) only[aa,aw,ax,ay,aA,aB,aC,wA,bm,wS,bj,wM,S2,op,ef,cl,sq,reduceIte,j2,j3,j4,j5,j6,j7,j8,j9,y1,S1,h0,h3,h8,h9,aU]
  refine W.cZ (fun (k:Nat) R H'=>At H' (fun H'=>SC c n H (fun di=>heapPop aH a k di=heapSort aH d a b) H')∧R 0=.aE c 0 n 2∧R 3=.fn 40 []∧R 8=.int .i64 a∧R 9=.int .i64 0∧R 10=.int .i64 (b-a:Nat)∧R 12=.int .i64 ((k:Int)-1)∧k≤b-a) (fun k=>k) (b-a) ⟨.i ⟨di,hd,bn,by rw[hP];rfl,aG⟩,?_,?_,?_,?_,?_,?_,Nat.le_refl _⟩ ?_
  ·simp -implicitDefEqProofs only[op,ef,cl,sq,reduceIte,j2,j3,j4,j5,j6,j7,j8,j9,y1,S1,h0]
  ·simp -implicitDefEqProofs only[op,ef,cl,sq,reduceIte,j2,j3,j4,j5,j6,j7,j8,j9,y1,S1,h3]
  ·simp -implicitDefEqProofs only[op,ef,cl,sq,reduceIte,j2,j3,j4,j5,j6,j7,j8,j9,y1,S1,h8]
  ·simp -implicitDefEqProofs only[op,ef,cl,sq,reduceIte,j2,j3,j4,j5,j6,j7,j8,j9,y1,S1,h9]
  ·simp -implicitDefEqProofs only[op,ef,cl,sq,reduceIte,j2,j3,j4,j5,j6,j7,j8,j9,y1,S1,aU]
  ·simp -implicitDefEqProofs only[op,ef,cl,sq,reduceIte,j2,j3,j4,j5,j6,j7,j8,j9,y1,S1];omega
  rintro k R H1⟨⟨di,hd,bn,hP,aG⟩,h0,h3,h8,h9,aU,aQ,hk⟩
  have lc:=a6 hd
  cases k with
  | zero =>
   rw[show(((0:Nat):Int)-1)=-1 from rfl]at aQ
   simp -implicitDefEqProofs (maxSteps:=1000000) (disch:=omega) only[aa,aw,ax,ay,aA,aB,aC,wA,bm,wS,bj,wM,S2,op,ef,cl,sq,reduceIte,j2,j3,j4,j5,j6,j7,j8,j9,y1,S1,h0,h3,h8,h9,aU,aQ]
   exact⟨rfl,di,hd,bn,hP,aG⟩
  | succ k =>
   rw[show(((k+1:Nat):Int)-1)=(k:Int) by omega]at aQ
   simp -implicitDefEqProofs (maxSteps:=1000000) (disch:=omega) only[aa,aw,ax,ay,aA,aB,aC,wA,bm,wS,bj,wM,S2,op,ef,cl,sq,reduceIte,j2,j3,j4,j5,j6,j7,j8,j9,y1,S1,h0,h3,h8,h9,aU,aQ,K9,hd,lc]
   obtain⟨d1,py,I4,rfl,xD⟩:=SC.swp (n:=n) (P:=fun x=>x=swp di a (a+k)) (x:=.cells (aJ eN (di.toList.set a di[a+k]!))) hd (by rw[Go.Sort.swp_size];exact bn) rfl aG
   refine af _ _ _ _ _ _ _ _ (A6 c n _ 0 k a _ I4 py (by omega) (by omega) hs) ?_
   rintro u H2⟨hu,d2,cw,oN,rfl,jA⟩
   cases hu
   simp -implicitDefEqProofs (maxSteps:=1000000) (disch:=omega) only[Rz,op,ef,cl,sq,reduceIte,j2,j3,j4,j5,j6,j7,j8,j9,y1,S1,h0,h3,h8,h9,aU,aQ]
   exact⟨k,by omega,.i ⟨_,cw,oN,hP,xD.trans jA fun _ h=>.inl h⟩,rfl,by omega⟩
set_option maxHeartbeats 8000000
def PY (p:Nat)(r:Nat×Nat×Nat)(H:ae):Out→ae→Prop:=fun o H'=>o=.val (.bE [.int .i64 r.1,.int .i64 r.2.1])∧H'[p]?=some (.cells [.int .i64 r.2.2])∧bO (fun x=>x=p) H H'
open Go.Sort in
theorem uz (c n p sw:Nat)(d:Array Nm)(a b:Nat)(H:ae)(hn:d.size=n)(hc:H[c]?=some (.cells (aJ eN d.toList)))(hp:H[p]?=some (.cells [.int .i64 sw]))(ha:a<n)(hb:b<n)(hs:n<2305843009213693951)(PZ:sw<1000) :
  W env (.call 107 [.aE c 0 n 2,.int .i64 a,.int .i64 b,.ptr p 0,.fn 40 []]) H (PY p (order2 aH d a b sw) H):=by
 refine W.cJ rfl rfl rfl ?_
 have hd:=hc
 have aG:=bO.refl (fun x=>x=p) H
 simp -implicitDefEqProofs (maxSteps:=1000000) (disch:=omega) only[AQ,aa,aw,ax,ay,aA,aB,aC,wA,bm,wS,bj,wM,S2,op,ef,cl,sq,reduceIte,j2,j3,j4,j5,j6,j7,j8,j9,y1,S1,hd]
 refine iW _ _ _ _ _ _ _ (by simp -implicitDefEqProofs (maxSteps:=1000000) (disch:=omega) only[aa,aw,ax,ay,aA,aB,aC,wA,bm,wS,bj,wM,S2,op,ef,cl,sq,reduceIte,j2,j3,j4,j5,j6,j7,j8,j9,y1,S1,hd]) ?_
 simp -implicitDefEqProofs (maxSteps:=1000000) (disch:=omega) only[aa,aw,ax,ay,aA,aB,aC,wA,bm,wS,bj,wM,S2,op,ef,cl,sq,reduceIte,j2,j3,j4,j5,j6,j7,j8,j9,y1,S1,bK,hd,List.append_nil]
 refine af _ _ _ _ _ _ _ _ (bC d[b]! d[a]! _) ?_
 rintro u H1⟨hu,hx⟩
 cases hu
 have hx:Ext H H1:=hx
 have hd:=hx.get hd
 have lc:=a6 hd
 have aG:=aG.trans (aK (F:=fun _=>False) hx) (fun _ h=>h.elim)
 have rH:=hx.get hp
 have lp:=a6 rH
 have gu:aH d[b]! d[a]! = decide (cL d[b]! d[a]!<0):=rfl
 by_cases c1:cL d[b]! d[a]!<0
 ·simp -implicitDefEqProofs (maxSteps:=1000000) (disch:=omega) only[aa,aw,ax,ay,aA,aB,aC,wA,bm,wS,bj,wM,S2,op,ef,cl,sq,reduceIte,j2,j3,j4,j5,j6,j7,j8,j9,y1,S1,hd,c1,rH,lp]
  refine⟨?_,?_,?_⟩
  ·rw[order2,if_pos (gu.trans (eb c1))]
  ·rw[order2,if_pos (gu.trans (eb c1))];exact cK lp
  ·exact aG.set (.inl rfl) _
 ·simp -implicitDefEqProofs (maxSteps:=1000000) (disch:=omega) only[aa,aw,ax,ay,aA,aB,aC,wA,bm,wS,bj,wM,S2,op,ef,cl,sq,reduceIte,j2,j3,j4,j5,j6,j7,j8,j9,y1,S1,hd,c1,rH,lp]
  refine⟨?_,?_,?_⟩
  ·rw[order2,if_neg (by rw[gu,dQ c1];simp)]
  ·rw[order2,if_neg (by rw[gu,dQ c1];simp)];exact rH
  ·exact aG
theorem uA (d:Array Nm){n a b sw:Nat}(ha:a<n)(hb:b<n):(Go.Sort.order2 aH d a b sw).1<n∧(Go.Sort.order2 aH d a b sw).2.1<n∧(Go.Sort.order2 aH d a b sw).2.2≤sw+1:=by
 unfold Go.Sort.order2
 split
 ·exact⟨hb,ha,Nat.le_refl _⟩
 ·exact⟨ha,hb,Nat.le_succ _⟩
def La (p:Nat)(r:Nat×Nat)(H:ae):Out→ae→Prop:=fun o H'=>o=.val (.int .i64 r.1)∧H'[p]?=some (.cells [.int .i64 r.2])∧bO (fun x=>x=p) H H'
open Go.Sort in
theorem uB (c n p sw:Nat)(d:Array Nm)(a b e:Nat)(H:ae)(hn:d.size=n)(hc:H[c]?=some (.cells (aJ eN d.toList)))(hp:H[p]?=some (.cells [.int .i64 sw]))(xE:¬c=p)(ha:a<n)(hb:b<n)(he:e<n)(hs:n<2305843009213693951)(PZ:sw<900) :
  W env (.call 103 [.aE c 0 n 2,.int .i64 a,.int .i64 b,.int .i64 e,.ptr p 0,.fn 40 []]) H (fun o H'=>La p (median aH d a b e sw) H o H'∧(median aH d a b e sw).1<n∧(median aH d a b e sw).2≤sw+3):=by
 refine W.cJ rfl rfl rfl ?_
 simp -implicitDefEqProofs only[AP,op,ef,cl,sq,reduceIte,j2,j3,j4,j5,j6,j7,j8,j9,y1,S1]
 refine af _ _ _ _ _ _ _ _ (uz c n p sw d a b _ hn hc hp ha hb hs (by omega)) ?_
 rintro u H1⟨hu,rH,xD⟩
 cases hu
 have kK:=xD.get hc xE
 obtain⟨r1,IJ⟩:∃r,r=order2 aH d a b sw:=⟨_,rfl⟩
 obtain⟨q1,q2,q3⟩:=uA d (sw:=sw) ha hb
 rw[←IJ]at q1 q2 q3 rH ⊢
 simp -implicitDefEqProofs only[op,ef,cl,sq,reduceIte,j2,j3,j4,j5,j6,j7,j8,j9,y1,S1]
 refine af _ _ _ _ _ _ _ _ (uz c n p r1.2.2 d r1.2.1 e _ hn kK rH q2 he hs (by omega)) ?_
 rintro u H2⟨hu,zf,jA⟩
 cases hu
 have oS:=jA.get kK xE
 obtain⟨r2,FR⟩:∃r,r=order2 aH d r1.2.1 e r1.2.2:=⟨_,rfl⟩
 obtain⟨q4,q5,q6⟩:=uA d (sw:=r1.2.2) q2 he
 rw[←FR]at q4 q5 q6 zf ⊢
 simp -implicitDefEqProofs only[op,ef,cl,sq,reduceIte,j2,j3,j4,j5,j6,j7,j8,j9,y1,S1]
 refine af _ _ _ _ _ _ _ _ (uz c n p r2.2.2 d r1.1 r2.1 _ hn oS zf q1 q4 hs (by omega)) ?_
 rintro u H3⟨hu,MI,uC⟩
 cases hu
 obtain⟨q7,q8,q9⟩:=uA d (sw:=r2.2.2) q1 q4
 have e:median aH d a b e sw=((order2 aH d r1.1 r2.1 r2.2.2).2.1,(order2 aH d r1.1 r2.1 r2.2.2).2.2):=by rw[median,←IJ,←FR]
 rw[e]
 simp -implicitDefEqProofs only[op,ef,cl,sq,reduceIte,j2,j3,j4,j5,j6,j7,j8,j9,y1,S1]
 exact⟨⟨rfl,MI,(xD.trans jA fun _ h=>.inl h).trans uC fun _ h=>.inl h⟩,q8,by omega⟩
open Go.Sort in
theorem uD (c n p sw:Nat)(d:Array Nm)(a:Nat)(H:ae)(hn:d.size=n)(hc:H[c]?=some (.cells (aJ eN d.toList)))(hp:H[p]?=some (.cells [.int .i64 sw]))(xE:¬c=p)(ha:1≤a)(LY:a+1<n)(hs:n<2305843009213693951)(PZ:sw<900) :
  W env (.call 102 [.aE c 0 n 2,.int .i64 a,.ptr p 0,.fn 40 []]) H (fun o H'=>La p (medianAdjacent aH d a sw) H o H'∧(medianAdjacent aH d a sw).1<n∧(medianAdjacent aH d a sw).2≤sw+3):=by
 refine W.cJ rfl rfl rfl ?_
 simp -implicitDefEqProofs (maxSteps:=1000000) (disch:=omega) only[AO,aa,aw,ax,ay,aA,aB,aC,wA,bm,wS,bj,wM,S2,op,ef,cl,sq,reduceIte,j2,j3,j4,j5,j6,j7,j8,j9,y1,S1]
 refine af _ _ _ _ _ _ _ _ (uB c n p sw d (a-1) a (a+1) _ hn hc hp xE (by omega) (by omega) LY hs PZ) ?_
 rintro u H1⟨⟨hu,rH,xD⟩,q1,q2⟩
 cases hu
 simp -implicitDefEqProofs only[op,ef,cl,sq,reduceIte,j2,j3,j4,j5,j6,j7,j8,j9,y1,S1]
 exact⟨⟨rfl,rH,xD⟩,q1,q2⟩
theorem I5 {a:Nat}(h:a<9223372036854775808):IntKind.i64.wrap ((a:Int).tdiv 4)=((a/4:Nat):Int):=by rw[Int.tdiv_eq_ediv_of_nonneg (by omega),wrap64 (by omega)];omega
theorem RA {a:Nat}(h:a<9223372036854775808):IntKind.i64.wrap ((a:Int)*1)=((a*1:Nat):Int):=by rw[wrap64 (by omega)];omega
theorem I6 {a:Nat}(h:a*2<9223372036854775808):IntKind.i64.wrap ((a:Int)*2)=((a*2:Nat):Int):=by rw[wrap64 (by omega)];omega
theorem RB {a:Nat}(h:a*3<9223372036854775808):IntKind.i64.wrap ((a:Int)*3)=((a*3:Nat):Int):=by rw[wrap64 (by omega)];omega
def mq:Go.Sort.Hint→Int
 | .unknown=>0
 | .increasing=>1
 | .decreasing=>2
open Go.Sort in
theorem A7 (c n:Nat)(d:Array Nm)(a b:Nat)(H:ae)(hn:d.size=n)(hc:H[c]?=some (.cells (aJ eN d.toList)))(hb:b≤n)(oM:a+12<b)(hs:n<1305843009213693951) :
  W env (.call 83 [.aE c 0 n 2,.int .i64 a,.int .i64 b,.fn 40 []]) H (fun o H'=>o=.val (.bE [.int .i64 (choosePivot aH d a b).1,.int .i64 (mq (choosePivot aH d a b).2)])∧Ext H H'):=by
 refine W.cJ rfl rfl rfl ?_
 have h8:8≤b-a:=by omega
 have lc:=a6 hc
 have xE:¬c=H.length:=by omega
 have mM:(H++[B.cells [T.int IntKind.i64 0]])[c]?=some (.cells (aJ eN d.toList)):=by rw[aM lc];exact hc
 have RC:(H++[B.cells [T.int IntKind.i64 0]])[H.length]?=some (.cells [.int .i64 ((0:Nat):Int)]):=aZ rfl
 have fin:∀H2:ae,bO (fun x=>x=H.length) (H++[B.cells [T.int IntKind.i64 0]]) H2→Ext H H2:=fun H2 hf=>qN fun x y hx=>hf.get (by rw[aM (a6 hx)];exact hx) (by have:=a6 hx;omega)
 by_cases DC:50≤b-a
 ·simp -implicitDefEqProofs (maxSteps:=1000000) (disch:=omega) only[Dq,aa,aw,ax,ay,aA,aB,aC,wA,bm,wS,bj,wM,S2,op,ef,cl,sq,reduceIte,j2,j3,j4,j5,j6,j7,j8,j9,y1,S1,I5,RA,I6,RB,h8,DC]
  refine af _ _ _ _ _ _ _ _ (uD c n H.length 0 d _ _ hn mM RC xE (by omega) (by omega) (by omega) (by omega)) ?_
  rintro u H1⟨⟨hu,rH,xD⟩,q1,q2⟩
  cases hu
  obtain⟨ri,vU⟩:∃r,r=medianAdjacent aH d (a+(b-a)/4*1) 0:=⟨_,rfl⟩
  rw[←vU]at q1 q2 rH ⊢
  have kK:=xD.get mM xE
  simp -implicitDefEqProofs only[op,ef,cl,sq,reduceIte,j2,j3,j4,j5,j6,j7,j8,j9,y1,S1]
  refine af _ _ _ _ _ _ _ _ (uD c n H.length ri.2 d _ _ hn kK rH xE (by omega) (by omega) (by omega) (by omega)) ?_
  rintro u H2⟨⟨hu,zf,jA⟩,q3,q4⟩
  cases hu
  obtain⟨rj,RD⟩:∃r,r=medianAdjacent aH d (a+(b-a)/4*2) ri.2:=⟨_,rfl⟩
  rw[←RD]at q3 q4 zf ⊢
  have oS:=jA.get kK xE
  simp -implicitDefEqProofs only[op,ef,cl,sq,reduceIte,j2,j3,j4,j5,j6,j7,j8,j9,y1,S1]
  refine af _ _ _ _ _ _ _ _ (uD c n H.length rj.2 d _ _ hn oS zf xE (by omega) (by omega) (by omega) (by omega)) ?_
  rintro u H3⟨⟨hu,MI,uC⟩,q5,q6⟩
  cases hu
  obtain⟨rk,RE⟩:∃r,r=medianAdjacent aH d (a+(b-a)/4*3) rj.2:=⟨_,rfl⟩
  rw[←RE]at q5 q6 MI ⊢
  have P0:=uC.get oS xE
  simp -implicitDefEqProofs only[op,ef,cl,sq,reduceIte,j2,j3,j4,j5,j6,j7,j8,j9,y1,S1]
  refine af _ _ _ _ _ _ _ _ (uB c n H.length rk.2 d ri.1 rj.1 rk.1 _ hn P0 MI xE q1 q3 q5 (by omega) (by omega)) ?_
  rintro u H4⟨⟨hu,DD,Lb⟩,q7,q8⟩
  cases hu
  have e:choosePivot aH d a b=((median aH d ri.1 rj.1 rk.1 rk.2).1,if (median aH d ri.1 rj.1 rk.1 rk.2).2=0 then .increasing else if (median aH d ri.1 rj.1 rk.1 rk.2).2=12 then .decreasing else .unknown):=by
   simp -implicitDefEqProofs only[choosePivot,ge_iff_le,if_pos h8,if_pos DC,←vU,←RD,←RE]
  rw[e]
  have hx:=fin _ (((xD.trans jA fun _ h=>.inl h).trans uC fun _ h=>.inl h).trans Lb fun _ h=>.inl h)
  generalize median aH d ri.1 rj.1 rk.1 rk.2=r at *
  obtain⟨m,sw⟩:=r
  simp only at DD ⊢
  by_cases s0:sw=0
  ·subst s0
   have e0:(((0:Nat):Int)==0)=true:=rfl
   simp -implicitDefEqProofs only[op,ef,cl,sq,reduceIte,j2,j3,j4,j5,j6,j7,j8,j9,y1,S1,DD,e0]
   exact⟨rfl,hx⟩
  have e0:(((sw:Nat):Int)==0)=false:=by simp;omega
  by_cases s1:sw=12
  ·subst s1
   have e1:(((12:Nat):Int)==12)=true:=rfl
   simp -implicitDefEqProofs only[op,ef,cl,sq,reduceIte,j2,j3,j4,j5,j6,j7,j8,j9,y1,S1,DD,e0,e1]
   exact⟨rfl,hx⟩
  have e1:(((sw:Nat):Int)==12)=false:=by simp;omega
  simp -implicitDefEqProofs only[op,ef,cl,sq,reduceIte,j2,j3,j4,j5,j6,j7,j8,j9,y1,S1,DD,e0,e1,s0,s1]
  exact⟨rfl,hx⟩
 ·simp -implicitDefEqProofs (maxSteps:=1000000) (disch:=omega) only[Dq,aa,aw,ax,ay,aA,aB,aC,wA,bm,wS,bj,wM,S2,op,ef,cl,sq,reduceIte,j2,j3,j4,j5,j6,j7,j8,j9,y1,S1,I5,RA,I6,RB,h8,DC]
  refine af _ _ _ _ _ _ _ _ (uB c n H.length 0 d _ _ _ _ hn mM RC xE (by omega) (by omega) (by omega) (by omega) (by omega)) ?_
  rintro u H4⟨⟨hu,DD,Lb⟩,q7,q8⟩
  cases hu
  have e:choosePivot aH d a b=((median aH d (a+(b-a)/4*1) (a+(b-a)/4*2) (a+(b-a)/4*3) 0).1,if (median aH d (a+(b-a)/4*1) (a+(b-a)/4*2) (a+(b-a)/4*3) 0).2=0 then .increasing else if (median aH d (a+(b-a)/4*1) (a+(b-a)/4*2) (a+(b-a)/4*3) 0).2=12 then .decreasing else .unknown):=by
   simp -implicitDefEqProofs only[choosePivot,ge_iff_le,if_pos h8,if_neg DC]
  rw[e]
  have hx:=fin _ Lb
  generalize median aH d (a+(b-a)/4*1) (a+(b-a)/4*2) (a+(b-a)/4*3) 0=r at *
  obtain⟨m,sw⟩:=r
  simp only at DD ⊢
  by_cases s0:sw=0
  ·subst s0
   have e0:(((0:Nat):Int)==0)=true:=rfl
   simp -implicitDefEqProofs only[op,ef,cl,sq,reduceIte,j2,j3,j4,j5,j6,j7,j8,j9,y1,S1,DD,e0]
   exact⟨rfl,hx⟩
  have e0:(((sw:Nat):Int)==0)=false:=by simp;omega
  by_cases s1:sw=12
  ·subst s1
   have e1:(((12:Nat):Int)==12)=true:=rfl
   simp -implicitDefEqProofs only[op,ef,cl,sq,reduceIte,j2,j3,j4,j5,j6,j7,j8,j9,y1,S1,DD,e0,e1]
   exact⟨rfl,hx⟩
  have e1:(((sw:Nat):Int)==12)=false:=by simp;omega
  simp -implicitDefEqProofs only[op,ef,cl,sq,reduceIte,j2,j3,j4,j5,j6,j7,j8,j9,y1,S1,DD,e0,e1,s0,s1]
  exact⟨rfl,hx⟩
set_option maxHeartbeats 8000000
open Go.Sort (bitsLen)
theorem A8 {n k:Nat}(h:2^k≤n):(n/2^k).log2+k=n.log2:=by
 have h0:0<2^k:=Nat.two_pow_pos k
 have hn:n≠0:=by omega
 have hq:n/2^k≠0:=by have:=Nat.div_pos h h0;omega
 have h1:=Nat.log2_self_le hq
 have h2:=Nat.lt_log2_self (n:=n/2^k)
 refine((Nat.log2_eq_iff hn).2 ⟨?_,?_⟩).symm
 ·rw[Nat.pow_add];exact(Nat.le_div_iff_mul_le h0).1 h1
 ·rw[show(n/2^k).log2+k+1=((n/2^k).log2+1)+k by omega,Nat.pow_add];exact(Nat.div_lt_iff_lt_mul h0).1 h2
theorem sY {n k:Nat}(h:2^k≤n):bitsLen (n/2^k)+k=bitsLen n:=by
 have h0:0<2^k:=Nat.two_pow_pos k
 have hq:n/2^k≠0:=by have:=Nat.div_pos h h0;omega
 have:=A8 h
 unfold bitsLen
 rw[if_neg hq,if_neg (by omega)]
 omega
theorem qP {n k:Nat}(h:n<2^k):bitsLen n≤k:=by
 unfold bitsLen
 split
 ·omega
 ·rename_i h0;have:=(Nat.log2_lt h0).2 h;omega
def RF:Array UInt8:=#[0,1,2,2,3,3,3,3,4,4,4,4,4,4,4,4,5,5,5,5,5,5,5,5,5,5,5,5,5,5,5,5,6,6,6,6,6,6,6,6,6,6,6,6,6,6,6,6,6,6,6,6,6,6,6,6,6,6,6,6,6,6,6,6,7,7,7,7,7,7,7,7,7,7,7,7,7,7,7,7,7,7,7,7,7,7,7,7,7,7,7,7,7,7,7,7,7,7,7,7,7,7,7,7,7,7,7,7,7,7,7,7,7,7,7,7,7,7,7,7,7,7,7,7,7,7,7,7,8,8,8,8,8,8,8,8,8,8,8,8,8,8,8,8,8,8,8,8,8,8,8,8,8,8,8,8,8,8,8,8,8,8,8,8,8,8,8,8,8,8,8,8,8,8,8,8,8,8,8,8,8,8,8,8,8,8,8,8,8,8,8,8,8,8,8,8,8,8,8,8,8,8,8,8,8,8,8,8,8,8,8,8,8,8,8,8,8,8,8,8,8,8,8,8,8,8,8,8,8,8,8,8,8,8,8,8,8,8,8,8,8,8,8,8,8,8,8,8,8,8,8,8,8,8,8,8]
def P1:Bool:=(List.range 256).all fun n=>match RF[n]? with|some c=>c.toNat==bitsLen n|none=>false
theorem DE:P1=true:=by decide +kernel
theorem uE {β:Type}{K:Option β→Prop}{n:Nat}(hn:n<256)(f:UInt8→β)(h:∀c:UInt8,c.toNat=bitsLen n→K (some (f c))):K (Option.map f RF[n]?):=by
 have:=List.all_eq_true.1 DE n (List.mem_range.2 hn)
 split at this
 ·rename_i c hc
  rw[hc];exact h c (by simpa using this)
 ·cases this
theorem Ld (n:Nat)(hn:n<16777216)(H:ae):W env (.call 89 [.int .u64 n]) H (fun o H'=>o=.val (.int .i64 (bitsLen n))∧H'=H):=by
 refine W.cJ rfl rfl rfl ?_
 have h1:¬(4294967296≤n):=by omega
 have fin:∀(m k:Nat),m<256→k≤16→IntKind.i64.wrap ((k:Int)+((bitsLen m:Nat):Int))=((bitsLen m+k:Nat):Int):=fun m k hm hk=>by
  have:=qP (n:=m) (k:=8) hm
  rw[wrap64 (by omega)];omega
 by_cases h2:65536≤n
 ·have UG:(n:Int).fdiv (2^(min (16:Int).toNat IntKind.u64.bits))=((n/65536:Nat):Int):=by
   show(n:Int).fdiv 65536=_
   rw[Int.fdiv_eq_ediv_of_nonneg _ (by decide)];omega
  have h3:¬(256≤n/65536):=by omega
  have Hz:=vP (n:=n/65536) (by omega)
  have UH:IntKind.i64.wrap (0+16)=16:=by decide
  have:=fin (n/65536) 16 (by omega) (by omega)
  rw[show bitsLen (n/65536)+16=bitsLen n from sY (k:=16) h2]at this
  simp -implicitDefEqProofs only[xr,op,ef,cl,sq,reduceIte,j2,j3,j4,j5,j6,j7,j8,j9,y1,S1,h1,h2,UG,h3,Hz,UH,aa]
  refine uE (K:=gC env _ _ _ _ _ _ _ _) (by omega) _ fun ch DB=>?_
  have wc:IntKind.i64.wrap ((ch.toNat:Nat):Int)=((ch.toNat:Nat):Int):=wrap64 (by have:=ch.toNat_lt;omega)
  rw[DB]at wc
  simp -implicitDefEqProofs only[op,ef,cl,sq,reduceIte,j2,j3,j4,j5,j6,j7,j8,j9,y1,S1,DB,wc]
  exact congrArg (fun x=>Out.val (.int .i64 x)) this
 by_cases h3:256≤n
 ·have e8:(n:Int).fdiv (2^(min (8:Int).toNat IntKind.u64.bits))=((n/256:Nat):Int):=by
   show(n:Int).fdiv 256=_
   rw[Int.fdiv_eq_ediv_of_nonneg _ (by decide)];omega
  have Hz:=vP (n:=n/256) (by omega)
  have UI:IntKind.i64.wrap (0+8)=8:=by decide
  have:=fin (n/256) 8 (by omega) (by omega)
  rw[show bitsLen (n/256)+8=bitsLen n from sY (k:=8) h3]at this
  simp -implicitDefEqProofs only[xr,op,ef,cl,sq,reduceIte,j2,j3,j4,j5,j6,j7,j8,j9,y1,S1,h1,h2,e8,h3,Hz,UI,aa]
  refine uE (K:=gC env _ _ _ _ _ _ _ _) (by omega) _ fun ch DB=>?_
  have wc:IntKind.i64.wrap ((ch.toNat:Nat):Int)=((ch.toNat:Nat):Int):=wrap64 (by have:=ch.toNat_lt;omega)
  rw[DB]at wc
  simp -implicitDefEqProofs only[op,ef,cl,sq,reduceIte,j2,j3,j4,j5,j6,j7,j8,j9,y1,S1,DB,wc]
  exact congrArg (fun x=>Out.val (.int .i64 x)) this
 ·have Hz:=vP (n:=n) (by omega)
  have:=fin n 0 (by omega) (by omega)
  simp -implicitDefEqProofs only[xr,op,ef,cl,sq,reduceIte,j2,j3,j4,j5,j6,j7,j8,j9,y1,S1,h1,h2,h3,Hz,aa]
  refine uE (K:=gC env _ _ _ _ _ _ _ _) (by omega) _ fun ch DB=>?_
  have wc:IntKind.i64.wrap ((ch.toNat:Nat):Int)=((ch.toNat:Nat):Int):=wrap64 (by have:=ch.toNat_lt;omega)
  rw[DB]at wc
  simp -implicitDefEqProofs only[op,ef,cl,sq,reduceIte,j2,j3,j4,j5,j6,j7,j8,j9,y1,S1,DB,wc]
  exact congrArg (fun x=>Out.val (.int .i64 x)) this
theorem EU (n:Nat)(hn:n<16777216)(H:ae):W env (.call 70 [.int .u64 n]) H (fun o H'=>o=.val (.int .i64 (bitsLen n))∧H'=H):=by
 refine W.cJ rfl rfl rfl ?_
 simp -implicitDefEqProofs only[Dn,op,ef,cl,sq,reduceIte,j2,j3,j4,j5,j6,j7,j8,j9,y1,S1]
 refine af _ _ _ _ _ _ _ _ (Ld n hn _) ?_
 rintro u H1⟨hu,rfl⟩
 cases hu
 simp -implicitDefEqProofs only[op,ef,cl,sq,reduceIte,j2,j3,j4,j5,j6,j7,j8,j9,y1,S1]
theorem HC (n:Nat)(hn:n<16777216)(H:ae):W env (.call 100 [.int .i64 n]) H (fun o H'=>o=.val (.int .u64 ((1 <<< bitsLen n:Nat):Int))∧H'=H):=by
 refine W.cJ rfl rfl rfl ?_
 have wu:=pU (n:=n) (by omega)
 simp -implicitDefEqProofs only[AM,op,ef,cl,sq,reduceIte,j2,j3,j4,j5,j6,j7,j8,j9,y1,S1,wu]
 refine af _ _ _ _ _ _ _ _ (EU n hn _) ?_
 rintro u H1⟨hu,rfl⟩
 cases hu
 have hb:=qP (n:=n) (k:=24) hn
 have n0:¬(((bitsLen n:Nat):Int)<0):=by omega
 have e:IntKind.u64.wrap (1*2^(min ((bitsLen n:Nat):Int).toNat IntKind.u64.bits))=((1 <<< bitsLen n:Nat):Int):=by
  rw[Int.toNat_natCast,Nat.min_eq_left (by show bitsLen n≤64;omega),Nat.one_shiftLeft,Int.one_mul]
  have:(2:Nat)^bitsLen n≤2^24:=Nat.pow_le_pow_right (by decide) hb
  have h2:((2:Int)^bitsLen n)=((2^bitsLen n:Nat):Int):=by simp
  rw[h2]
  exact pU (by omega)
 simp -implicitDefEqProofs only[op,ef,cl,sq,reduceIte,j2,j3,j4,j5,j6,j7,j8,j9,y1,S1,n0,e]
set_option maxHeartbeats 8000000
open Go.Sort (bitsLen)
theorem EV (x:Int):IntKind.u64.wrap x=x%18446744073709551616:=by
 unfold IntKind.wrap
 simp -implicitDefEqProofs only[IntKind.signed,IntKind.bits]
 simp
theorem DF (r:UInt64):IntKind.u64.wrap ((r.toNat:Int)*2^(min (13:Int).toNat IntKind.u64.bits))=((r <<< 13).toNat:Int):=by
 rw[EV,UInt64.toNat_shiftLeft,Nat.shiftLeft_eq]
 show(r.toNat:Int)*8192%_=((r.toNat*8192%18446744073709551616:Nat):Int)
 omega
theorem DG (r:UInt64):IntKind.u64.wrap ((r.toNat:Int)*2^(min (17:Int).toNat IntKind.u64.bits))=((r <<< 17).toNat:Int):=by
 rw[EV,UInt64.toNat_shiftLeft,Nat.shiftLeft_eq]
 show(r.toNat:Int)*131072%_=((r.toNat*131072%18446744073709551616:Nat):Int)
 omega
theorem HD (r:UInt64):(r.toNat:Int).fdiv (2^(min (7:Int).toNat IntKind.u64.bits))=((r >>> 7).toNat:Int):=by
 rw[UInt64.toNat_shiftRight,Nat.shiftRight_eq_div_pow]
 show(r.toNat:Int).fdiv 128=((r.toNat/128:Nat):Int)
 rw[Int.fdiv_eq_ediv_of_nonneg _ (by decide)];omega
theorem Lf (r:UInt64):BitVec.ofInt IntKind.u64.bits (r.toNat:Int)=r.toBitVec:=by
 apply BitVec.eq_of_toNat_eq
 rw[BitVec.toNat_ofInt]
 have:=r.toNat_lt
 show((r.toNat:Int)%18446744073709551616).toNat=r.toNat
 omega
theorem Lg (r s:UInt64):IntKind.u64.wrap ((BitVec.ofInt IntKind.u64.bits (r.toNat:Int) ^^^ BitVec.ofInt IntKind.u64.bits (s.toNat:Int)).toNat:Int)=((r ^^^ s).toNat:Int):=by
 refine Eq.trans ?_ (pU (r ^^^ s).toNat_lt)
 rw[Lf,Lf]
 rfl
theorem EW (r:UInt64)(k:Nat)(hk:k<18446744073709551616):IntKind.u64.wrap ((BitVec.ofInt IntKind.u64.bits (r.toNat:Int) &&& BitVec.ofInt IntKind.u64.bits (k:Int)).toNat:Int)=((r.toNat &&& k:Nat):Int):=by
 have h:(BitVec.ofInt IntKind.u64.bits (r.toNat:Int) &&& BitVec.ofInt IntKind.u64.bits (k:Int)).toNat=r.toNat &&& k:=by
  rw[BitVec.toNat_and,BitVec.toNat_ofInt,BitVec.toNat_ofInt]
  have:=r.toNat_lt
  have e1:((r.toNat:Int)%((2^IntKind.u64.bits:Nat):Int)).toNat=r.toNat:=by
   show((r.toNat:Int)%18446744073709551616).toNat=r.toNat
   omega
  have e2:((k:Int)%((2^IntKind.u64.bits:Nat):Int)).toNat=k:=by
   show((k:Int)%18446744073709551616).toNat=k
   omega
  rw[e1,e2]
 rw[h]
 exact pU (Nat.lt_of_le_of_lt Nat.and_le_right hk)
theorem Lh (p:Nat)(r:UInt64)(H:ae)(hp:H[p]?=some (.cells [.int .u64 r.toNat])) :
  W env (.call 101 [.ptr p 0]) H (fun o H'=>o=.val (.int .u64 (Go.Sort.xorNext r).toNat)∧H'[p]?=some (.cells [.int .u64 (Go.Sort.xorNext r).toNat])∧bO (fun x=>x=p) H H'):=by
 refine W.cJ rfl rfl rfl ?_
 have lp:=a6 hp
 have UJ:¬((13:Int)<0):=by decide
 have n7:¬((7:Int)<0):=by decide
 have UK:¬((17:Int)<0):=by decide
 simp -implicitDefEqProofs only[DF,DG,HD,Lg,AN,op,ef,cl,sq,reduceIte,j2,j3,j4,j5,j6,j7,j8,j9,y1,S1,hp,lp,S2,UJ,n7,UK]
 exact⟨rfl,rfl,(((bO.refl (fun x=>x=p) _).set (.inl rfl) _).set (.inl rfl) _).set (.inl rfl) _⟩
theorem A9 {n:Nat}(h:n≠0):1 <<< bitsLen n≤2*n:=by
 rw[Nat.one_shiftLeft,bitsLen,if_neg h,Nat.pow_succ]
 have:=Nat.log2_self_le h
 omega
def EX (a len md:Nat)(d:Array Nm):Nat→UInt64×Array Nm
 | 0=>(UInt64.ofNat len,d)
 | j+1=>Go.Sort.breakStep a len md (EX a len md d j) (a+len/4*2-1+j)
theorem RG {a:Nat}(h:1≤a∧a<18446744073709551616):IntKind.u64.wrap ((a:Int)-1)=((a-1:Nat):Int):=by rw[fY (by omega)];omega
theorem wN {a:Nat}(h:a<9223372036854775808):IntKind.i64.wrap (a:Int)=(a:Int):=wrap64 (by omega)
open Go.Sort in
theorem DH (c n:Nat)(d:Array Nm)(a b:Nat)(H:ae)(hn:d.size=n)(hc:H[c]?=some (.cells (aJ eN d.toList)))(hb:b≤n)(oM:a+12<b)(hs:n<16777216) :
  W env (.call 82 [.aE c 0 n 2,.int .i64 a,.int .i64 b,.fn 40 []]) H (uy c n (breakPatterns d a b) H):=by
 refine W.cJ rfl rfl rfl ?_
 have h8:8≤b-a:=by omega
 have lc:=a6 hc
 obtain⟨len,hlen⟩:∃len,len=b-a:=⟨_,rfl⟩
 have wl:IntKind.u64.wrap ((len:Nat):Int)=(len:Int):=pU (by omega)
 rw[←hlen]at h8
 simp -implicitDefEqProofs (maxSteps:=1000000) (disch:=omega) only[G6,aa,aw,ax,ay,aA,aB,aC,wA,bm,wS,bj,wM,S2,op,ef,cl,sq,reduceIte,j2,j3,j4,j5,j6,j7,j8,j9,y1,S1,I5,I6,←hlen,wl,h8]
 refine af _ _ _ _ _ _ _ _ (HC len (by omega) _) ?_
 rintro u H1⟨hu,rfl⟩
 cases hu
 obtain⟨md,RH⟩:∃md,md=1 <<< bitsLen len:=⟨_,rfl⟩
 have FQ:=A9 (n:=len) (by omega)
 have I3:1≤1 <<< bitsLen len:=by rw[Nat.one_shiftLeft];exact Nat.one_le_two_pow
 rw[←RH]at I3 FQ ⊢
 have hq:len/4*2≤len:=by omega
 obtain⟨ix,uQ⟩:∃ix,ix=a+len/4*2-1:=⟨_,rfl⟩
 have ud:breakPatterns d a b=(EX a len md d 3).2:=by
  simp -implicitDefEqProofs only[breakPatterns,←hlen,ge_iff_le,if_pos h8,EX,←RH,Nat.add_zero]
 simp -implicitDefEqProofs (maxSteps:=1000000) (disch:=omega) only[aa,aw,ax,ay,aA,aB,aC,wA,bm,wS,bj,wM,S2,op,ef,cl,sq,reduceIte,j2,j3,j4,j5,j6,j7,j8,j9,y1,S1,I5,I6,←uQ]
 have kK:(H++[B.cells [T.int IntKind.u64 len]])[c]?=some (.cells (aJ eN d.toList)):=by rw[aM lc];exact hc
 have rH:(H++[B.cells [T.int IntKind.u64 len]])[H.length]?=some (.cells [.int .u64 (UInt64.ofNat len).toNat]):=by
  rw[aZ rfl,UInt64.toNat_ofNat_of_lt' (by show len<18446744073709551616;omega)]
 refine W.cZ (fun (j:Nat) R H'=>At H' (fun H'=>∃d':Array Nm,H'[c]?=some (.cells (aJ eN d'.toList))∧d'.size=n∧d'=(EX a len md d j).2∧H'[H.length]?=some (.cells [.int .u64 (EX a len md d j).1.toNat])∧bO (fun x=>x=c∨x=H.length) (H++[B.cells [T.int IntKind.u64 len]]) H')∧R 0=.aE c 0 n 2∧R 1=.int .i64 a∧R 8=.int .i64 len∧R 9=.ptr H.length 0∧R 10=.int .u64 md∧R 11=.int .i64 (ix+j:Nat)∧j≤3) (fun j=>3-j) 0 ⟨.i ⟨d,kK,hn,rfl,rH,bO.refl _ _⟩,rfl,rfl,rfl,rfl,rfl,rfl,by omega⟩ ?_
 rintro j R H1⟨⟨di,hd,bn,RJ,hp,aG⟩,h0,h1,MJ,h9,aU,bD,hj⟩
 by_cases VQ:j<3
 ·have hle:ix+j≤a+len/4*2+1:=by omega
  simp -implicitDefEqProofs (maxSteps:=1000000) (disch:=omega) only[aa,aw,ax,ay,aA,aB,aC,wA,bm,wS,bj,wM,S2,op,ef,cl,sq,reduceIte,j2,j3,j4,j5,j6,j7,j8,j9,y1,S1,I5,I6,h0,h1,MJ,h9,aU,bD,hle]
  refine af _ _ _ _ _ _ _ _ (Lh H.length _ _ hp) ?_
  rintro u H2⟨hu,zf,jA⟩
  cases hu
  have hd:=jA.get hd (by omega)
  have MK:=a6 hd
  obtain⟨r,hr⟩:∃r,r=xorNext (EX a len md d j).1:=⟨_,rfl⟩
  rw[←hr]at zf ⊢
  obtain⟨ot,ML⟩:∃ot,ot=r.toNat &&& (md-1):=⟨_,rfl⟩
  have VT:ot≤md-1:=by rw[ML];exact Nat.and_le_right
  have bZ:EX a len md d (j+1)=(r,swp di (ix+j) (a+if ot≥len then ot-len else ot)):=by
   simp -implicitDefEqProofs only[EX,breakStep,←hr,←RJ,←ML,←uQ]
  have ba:¬(c=H.length):=by omega
  by_cases fN:len≤ot
  ·rw[if_pos fN]at bZ
   simp -implicitDefEqProofs (maxSteps:=1000000) (disch:=omega) only[aa,aw,ax,ay,aA,aB,aC,wA,bm,wS,bj,wM,S2,op,ef,cl,sq,reduceIte,j2,j3,j4,j5,j6,j7,j8,j9,y1,S1,RG,EW,wN,←ML,h0,h1,MJ,h9,aU,bD,fN,hd,MK]
   refine⟨j+1,by omega,.i ⟨swp di (ix+j) (a+(ot-len)),cK (by rw[List.length_set];exact MK),by rw[swp_size];exact bn,by rw[bZ],?_,((aG.trans jA fun x h=>.inl (.inr h)).set (.inl (.inl rfl)) _).set (.inl (.inl rfl)) _⟩,rfl,by omega⟩
   rw[bN ba,bN ba,zf,bZ]
  ·rw[if_neg fN]at bZ
   simp -implicitDefEqProofs (maxSteps:=1000000) (disch:=omega) only[aa,aw,ax,ay,aA,aB,aC,wA,bm,wS,bj,wM,S2,op,ef,cl,sq,reduceIte,j2,j3,j4,j5,j6,j7,j8,j9,y1,S1,RG,EW,wN,←ML,h0,h1,MJ,h9,aU,bD,fN,hd,MK]
   refine⟨j+1,by omega,.i ⟨swp di (ix+j) (a+ot),cK (by rw[List.length_set];exact MK),by rw[swp_size];exact bn,by rw[bZ],?_,((aG.trans jA fun x h=>.inl (.inr h)).set (.inl (.inl rfl)) _).set (.inl (.inl rfl)) _⟩,rfl,by omega⟩
   rw[bN ba,bN ba,zf,bZ]
 ·have vT:j=3:=by omega
  subst vT
  have hle:¬(ix+3≤a+len/4*2+1):=by omega
  simp -implicitDefEqProofs (maxSteps:=1000000) (disch:=omega) only[aa,aw,ax,ay,aA,aB,aC,wA,bm,wS,bj,wM,S2,op,ef,cl,sq,reduceIte,j2,j3,j4,j5,j6,j7,j8,j9,y1,S1,I5,I6,h0,h1,MJ,h9,aU,bD,hle]
  exact⟨rfl,di,hd,bn,by rw[ud,RJ],(aK (F:=fun x=>x=c) (H:=H) (H':=H++[B.cells [T.int IntKind.u64 len]]) ⟨_,rfl⟩).trans aG fun x h=>h.elim .inl fun e=>.inr (by omega)⟩
set_option maxHeartbeats 8000000
open Go.Sort in
theorem jc {p:Nm→Bool}{d:Array Nm}{i k:Nat}(h:1≤i):scanDown p d i k=if (decide (i≤k)&&p d[k]!)=true then scanDown p d i (k-1)else k:=by
 cases k with
 | zero=>rw[scanDown,if_neg (gq (dQ (by omega)))]
 | succ k=>rw[scanDown];rfl
open Go.Sort in
theorem HE {a i j si sj:Nat}{d:Array Nm}(hi:si=scanUp (fun x=>!aH d[a]! x) d j i)(hj:sj=scanDown (fun x=>aH d[a]! x) d si j):partEqLoop aH a i j d=if si>sj then(si,d)else if (sj-1)+1-(si+1)<j+1-i then partEqLoop aH a (si+1) (sj-1) (swp d si sj)else(si,d):=by
 subst hi;subst hj
 rw[partEqLoop]
 rfl
open Go.Sort in
theorem Li (c n:Nat)(d:Array Nm)(a b pv:Nat)(H:ae)(hn:d.size=n)(hc:H[c]?=some (.cells (aJ eN d.toList)))(hb:b≤n)(oM:a<b)(qM:pv<n)(hs:n<2305843009213693951) :
  W env (.call 86 [.aE c 0 n 2,.int .i64 a,.int .i64 b,.int .i64 pv,.fn 40 []]) H (fun o H'=>o=.val (.int .i64 (partitionEqual aH d a b pv).1)∧SC c n H (fun x=>x=(partitionEqual aH d a b pv).2) H'):=by
 refine W.cJ rfl rfl rfl ?_
 have hd:=hc
 have lc:=a6 hd
 simp -implicitDefEqProofs (maxSteps:=1000000) (disch:=omega) only[G9,aa,aw,ax,ay,aA,aB,aC,wA,bm,wS,bj,wM,S2,op,ef,cl,sq,reduceIte,j2,j3,j4,j5,j6,j7,j8,j9,y1,S1,hd,lc]
 obtain⟨d1,py,I4,e1,xD⟩:=SC.swp (n:=n) (P:=fun x=>x=swp d a pv) (x:=.cells (aJ eN (d.toList.set a d[pv]!))) hd (by rw[Go.Sort.swp_size];exact hn) rfl (bO.refl (fun x=>x=c) H)
 subst e1
 generalize ((H.set c (.cells (aJ eN (d.toList.set a d[pv]!)))).set c (.cells (aJ eN (swp d a pv).toList)))=H1 at *
 refine W.eZ 0 (fun (q:Nat×Nat) R H'=>At H' (fun H'=>SC c n H (fun di=>partEqLoop aH a q.1 q.2 di=partitionEqual aH d a b pv) H')∧R 0=.aE c 0 n 2∧R 1=.int .i64 a∧R 4=.fn 40 []∧R 11=.int .i64 q.1∧R 12=.int .i64 q.2∧a<q.1∧q.2<n∧q.1≤n) (fun q=>q.2+1-q.1) (a+1,b-1)
  (fun R H'=>At H' (fun H'=>SC c n H (fun di=>di=(partitionEqual aH d a b pv).2) H')∧R 11=.int .i64 (partitionEqual aH d a b pv).1) ⟨.i ⟨_,py,I4,rfl,xD⟩,rfl,rfl,rfl,rfl,rfl,by omega,by simp only;omega,by simp only;omega⟩ ?_ ?_
 ·rintro⟨i,j⟩ R H1 ⟨⟨di,hd,bn,hP,aG⟩,h0,h1,h4,bD,aQ,K8,w7,ib⟩
  simp only at hP bD aQ K8 w7 ib ⊢
  simp -implicitDefEqProofs only[op,ef,cl,sq,reduceIte,j2,j3,j4,j5,j6,j7,j8,j9,y1,S1,h0,h1,h4,bD,aQ]
  obtain⟨si,xF⟩:∃si,si=scanUp (fun x=>!aH di[a]! x) di j i:=⟨_,rfl⟩
  refine W.eZ 2 (fun (k:Nat) R H'=>At H' (fun H'=>H'[c]?=some (.cells (aJ eN di.toList))∧bO (fun x=>x=c) H H')∧R 0=.aE c 0 n 2∧R 1=.int .i64 a∧R 4=.fn 40 []∧R 11=.int .i64 k∧R 12=.int .i64 j∧i≤k∧k≤n∧scanUp (fun x=>!aH di[a]! x) di j k=si) (fun k=>j+1-k) i
   (fun R H'=>At H' (fun H'=>H'[c]?=some (.cells (aJ eN di.toList))∧bO (fun x=>x=c) H H')∧R 0=.aE c 0 n 2∧R 1=.int .i64 a∧R 4=.fn 40 []∧R 11=.int .i64 si∧R 12=.int .i64 j∧i≤si∧si≤n) ⟨.i ⟨hd,aG⟩,h0,h1,h4,bD,aQ,Nat.le_refl _,ib,xF.symm⟩ ?_ ?_
  ·rintro k R H2⟨⟨hd,aG⟩,h0,h1,h4,bD,aQ,Ba,AY,hk⟩
   have lc:=a6 hd
   by_cases iA:k≤j
   ·simp -implicitDefEqProofs (maxSteps:=1000000) (disch:=omega) only[aa,aw,ax,ay,aA,aB,aC,wA,bm,wS,bj,wM,S2,op,ef,cl,sq,reduceIte,j2,j3,j4,j5,j6,j7,j8,j9,y1,S1,h0,h1,h4,bD,aQ,iA,hd,lc]
    refine iW _ _ _ _ _ _ _ (by simp -implicitDefEqProofs (maxSteps:=1000000) (disch:=omega) only[aa,aw,ax,ay,aA,aB,aC,wA,bm,wS,bj,wM,S2,op,ef,cl,sq,reduceIte,j2,j3,j4,j5,j6,j7,j8,j9,y1,S1,h0,h1,h4,bD,aQ,iA,hd,lc]) ?_
    simp -implicitDefEqProofs (maxSteps:=1000000) (disch:=omega) only[aa,aw,ax,ay,aA,aB,aC,wA,bm,wS,bj,wM,S2,op,ef,cl,sq,reduceIte,j2,j3,j4,j5,j6,j7,j8,j9,y1,S1,bK,h0,h1,h4,bD,aQ,iA,hd,lc,List.append_nil]
    refine af _ _ _ _ _ _ _ _ (bC di[a]! di[k]! _) ?_
    rintro u H3⟨hu,hx⟩
    cases hu
    have hx:Ext H2 H3:=hx
    have hd:=hx.get hd
    have lc:=a6 hd
    have aG:=aG.trans (aK (F:=fun _=>False) hx) (fun _ h=>h.elim)
    have gu:aH di[a]! di[k]! = decide (cL di[a]! di[k]!<0):=rfl
    by_cases c1:cL di[a]! di[k]!<0
    ·simp -implicitDefEqProofs (maxSteps:=1000000) (disch:=omega) only[aa,aw,ax,ay,aA,aB,aC,wA,bm,wS,bj,wM,S2,op,ef,cl,sq,reduceIte,j2,j3,j4,j5,j6,j7,j8,j9,y1,S1,h0,h1,h4,bD,aQ,iA,c1]
     rw[scanUp,if_neg (hO (by rw[gu,eb c1];rfl))]at hk
     subst hk
     exact⟨.i ⟨hd,aG⟩,rfl,Ba,AY⟩
    ·simp -implicitDefEqProofs (maxSteps:=1000000) (disch:=omega) only[aa,aw,ax,ay,aA,aB,aC,wA,bm,wS,bj,wM,S2,op,ef,cl,sq,reduceIte,j2,j3,j4,j5,j6,j7,j8,j9,y1,S1,h0,h1,h4,bD,aQ,iA,c1]
     rw[scanUp,if_pos (lh (eb iA) (jT (gu.trans (dQ c1))))]at hk
     exact⟨k+1,by omega,.i ⟨hd,aG⟩,rfl,by omega,by omega,hk⟩
   ·simp -implicitDefEqProofs (maxSteps:=1000000) (disch:=omega) only[op,ef,cl,sq,reduceIte,j2,j3,j4,j5,j6,j7,j8,j9,y1,S1,h0,h1,h4,bD,aQ,iA]
    simp -implicitDefEqProofs only[op,ef,cl,sq,reduceIte,j2,j3,j4,j5,j6,j7,j8,j9,y1,S1,h0,h1,h4,bD,aQ,iA]
    rw[scanUp,if_neg (gq (dQ iA))]at hk
    subst hk
    exact⟨.i ⟨hd,aG⟩,rfl,Ba,AY⟩
  ·rintro R H2⟨⟨hd,aG⟩,h0,h1,h4,bD,aQ,HF,Lj⟩
   simp -implicitDefEqProofs only[op,ef,cl,sq,reduceIte,j2,j3,j4,j5,j6,j7,j8,j9,y1,S1,h0,h1,h4,bD,aQ]
   obtain⟨sj,BN⟩:∃sj,sj=scanDown (fun x=>aH di[a]! x) di si j:=⟨_,rfl⟩
   refine W.eZ 4 (fun (k:Nat) R H'=>At H' (fun H'=>H'[c]?=some (.cells (aJ eN di.toList))∧bO (fun x=>x=c) H H')∧R 0=.aE c 0 n 2∧R 1=.int .i64 a∧R 4=.fn 40 []∧R 11=.int .i64 si∧R 12=.int .i64 k∧k≤j∧scanDown (fun x=>aH di[a]! x) di si k=sj) (fun k=>k) j
    (fun R H'=>At H' (fun H'=>H'[c]?=some (.cells (aJ eN di.toList))∧bO (fun x=>x=c) H H')∧R 0=.aE c 0 n 2∧R 1=.int .i64 a∧R 4=.fn 40 []∧R 11=.int .i64 si∧R 12=.int .i64 sj∧sj≤j) ⟨.i ⟨hd,aG⟩,h0,h1,h4,bD,aQ,Nat.le_refl _,BN.symm⟩ ?_ ?_
   ·rintro k R H3⟨⟨hd,aG⟩,h0,h1,h4,bD,aQ,iA,hk⟩
    have lc:=a6 hd
    rw[jc (by omega)]at hk
    by_cases cd:si≤k
    ·simp -implicitDefEqProofs (maxSteps:=1000000) (disch:=omega) only[aa,aw,ax,ay,aA,aB,aC,wA,bm,wS,bj,wM,S2,op,ef,cl,sq,reduceIte,j2,j3,j4,j5,j6,j7,j8,j9,y1,S1,h0,h1,h4,bD,aQ,cd,hd,lc]
     refine iW _ _ _ _ _ _ _ (by simp -implicitDefEqProofs (maxSteps:=1000000) (disch:=omega) only[aa,aw,ax,ay,aA,aB,aC,wA,bm,wS,bj,wM,S2,op,ef,cl,sq,reduceIte,j2,j3,j4,j5,j6,j7,j8,j9,y1,S1,h0,h1,h4,bD,aQ,cd,hd,lc]) ?_
     simp -implicitDefEqProofs (maxSteps:=1000000) (disch:=omega) only[aa,aw,ax,ay,aA,aB,aC,wA,bm,wS,bj,wM,S2,op,ef,cl,sq,reduceIte,j2,j3,j4,j5,j6,j7,j8,j9,y1,S1,bK,h0,h1,h4,bD,aQ,cd,hd,lc,List.append_nil]
     refine af _ _ _ _ _ _ _ _ (bC di[a]! di[k]! _) ?_
     rintro u H4⟨hu,hx⟩
     cases hu
     have hx:Ext H3 H4:=hx
     have hd:=hx.get hd
     have lc:=a6 hd
     have aG:=aG.trans (aK (F:=fun _=>False) hx) (fun _ h=>h.elim)
     have gu:aH di[a]! di[k]! = decide (cL di[a]! di[k]!<0):=rfl
     by_cases c1:cL di[a]! di[k]!<0
     ·simp -implicitDefEqProofs (maxSteps:=1000000) (disch:=omega) only[aa,aw,ax,ay,aA,aB,aC,wA,bm,wS,bj,wM,S2,op,ef,cl,sq,reduceIte,j2,j3,j4,j5,j6,j7,j8,j9,y1,S1,h0,h1,h4,bD,aQ,cd,c1]
      rw[if_pos (lh (eb cd) (gu.trans (eb c1)))]at hk
      exact⟨k-1,by omega,.i ⟨hd,aG⟩,rfl,by omega,hk⟩
     ·simp -implicitDefEqProofs (maxSteps:=1000000) (disch:=omega) only[aa,aw,ax,ay,aA,aB,aC,wA,bm,wS,bj,wM,S2,op,ef,cl,sq,reduceIte,j2,j3,j4,j5,j6,j7,j8,j9,y1,S1,h0,h1,h4,bD,aQ,cd,c1]
      rw[if_neg (hO (gu.trans (dQ c1)))]at hk
      subst hk
      exact⟨.i ⟨hd,aG⟩,rfl,iA⟩
    ·simp -implicitDefEqProofs only[op,ef,cl,sq,reduceIte,j2,j3,j4,j5,j6,j7,j8,j9,y1,S1,h0,h1,h4,bD,aQ,cd]
     rw[if_neg (gq (dQ cd))]at hk
     subst hk
     exact⟨.i ⟨hd,aG⟩,rfl,iA⟩
   ·rintro R H3⟨⟨hd,aG⟩,h0,h1,h4,bD,aQ,Lk⟩
    have lc:=a6 hd
    rw[HE xF BN]at hP
    by_cases ru:sj<si
    ·rw[if_pos ru]at hP
     simp -implicitDefEqProofs only[op,ef,cl,sq,reduceIte,j2,j3,j4,j5,j6,j7,j8,j9,y1,S1,h0,h1,h4,bD,aQ,ru]
     exact⟨.i ⟨di,hd,bn,by rw[←hP],aG⟩,by rw[←hP]⟩
    ·rw[if_neg ru,if_pos (by omega)]at hP
     simp -implicitDefEqProofs (maxSteps:=1000000) (disch:=omega) only[aa,aw,ax,ay,aA,aB,aC,wA,bm,wS,bj,wM,S2,op,ef,cl,sq,reduceIte,j2,j3,j4,j5,j6,j7,j8,j9,y1,S1,h0,h1,h4,bD,aQ,ru,hd,lc]
     exact⟨(si+1,sj-1),by simp only;omega,.i (.swp hd (by rw[swp_size];exact bn) hP aG),rfl,rfl,by simp only;omega,by simp only;omega,by simp only;omega⟩
 ·rintro R H1⟨⟨di,hd,bn,hP,aG⟩,bD⟩
  simp -implicitDefEqProofs only[op,ef,cl,sq,reduceIte,j2,j3,j4,j5,j6,j7,j8,j9,y1,S1,bD]
  exact⟨di,hd,bn,hP,aG⟩
set_option maxHeartbeats 8000000
open Go.Sort in
theorem DI {a i j si sj:Nat}{d:Array Nm}(hi:si=scanUp (fun x=>aH x d[a]!) d j i)(hj:sj=scanDown (fun x=>!aH x d[a]!) d si j):partLoop aH a i j d=if si>sj then(sj,d)else if (sj-1)+1-(si+1)<j+1-i then partLoop aH a (si+1) (sj-1) (swp d si sj)else(sj,d):=by
 subst hi;subst hj
 rw[partLoop]
 rfl
open Go.Sort in
theorem HG (c n:Nat)(d:Array Nm)(a b pv:Nat)(H:ae)(hn:d.size=n)(hc:H[c]?=some (.cells (aJ eN d.toList)))(hb:b≤n)(oM:a<b)(qM:pv<n)(hs:n<2305843009213693951) :
  W env (.call 87 [.aE c 0 n 2,.int .i64 a,.int .i64 b,.int .i64 pv,.fn 40 []]) H (fun o H'=>o=.val (.bE [.int .i64 (partition aH d a b pv).1,.bool (partition aH d a b pv).2.1])∧SC c n H (fun x=>x=(partition aH d a b pv).2.2) H'):=by
 refine W.cJ rfl rfl rfl ?_
 have hd:=hc
 have lc:=a6 hd
 simp -implicitDefEqProofs (maxSteps:=1000000) (disch:=omega) only[Ha,aa,aw,ax,ay,aA,aB,aC,wA,bm,wS,bj,wM,S2,op,ef,cl,sq,reduceIte,j2,j3,j4,j5,j6,j7,j8,j9,y1,S1,hd,lc]
 obtain⟨d1,py,I4,e1,xD⟩:=SC.swp (n:=n) (P:=fun x=>x=swp d a pv) (x:=.cells (aJ eN (d.toList.set a d[pv]!))) hd (by rw[Go.Sort.swp_size];exact hn) rfl (bO.refl (fun x=>x=c) H)
 subst e1
 generalize ((H.set c (.cells (aJ eN (d.toList.set a d[pv]!)))).set c (.cells (aJ eN (swp d a pv).toList)))=H1 at *
 have hd:=py
 have aG:=xD
 obtain⟨si,xF⟩:∃si,si=scanUp (fun x=>aH x (swp d a pv)[a]!) (swp d a pv) (b-1) (a+1):=⟨_,rfl⟩
 refine W.eZ 0 (fun (k:Nat) R H'=>At H' (fun H'=>H'[c]?=some (.cells (aJ eN (swp d a pv).toList))∧bO (fun x=>x=c) H H')∧R 0=.aE c 0 n 2∧R 1=.int .i64 a∧R 4=.fn 40 []∧R 12=.int .i64 k∧R 13=.int .i64 ((b-1):Nat)∧(a+1)≤k∧k≤n∧scanUp (fun x=>aH x (swp d a pv)[a]!) (swp d a pv) ((b-1)) k=si) (fun k=>(b-1)+1-k) ((a+1))
  (fun R H'=>At H' (fun H'=>H'[c]?=some (.cells (aJ eN (swp d a pv).toList))∧bO (fun x=>x=c) H H')∧R 0=.aE c 0 n 2∧R 1=.int .i64 a∧R 4=.fn 40 []∧R 12=.int .i64 si∧R 13=.int .i64 ((b-1):Nat)∧(a+1)≤si∧si≤n) ⟨.i ⟨hd,aG⟩,rfl,rfl,rfl,rfl,rfl,Nat.le_refl _,by omega,xF.symm⟩ ?_ ?_
 ·rintro k R H2⟨⟨hd,aG⟩,h0,h1,h4,aQ,b9,Ba,AY,hk⟩
  have lc:=a6 hd
  by_cases iA:k≤(b-1)
  ·simp -implicitDefEqProofs (maxSteps:=1000000) (disch:=omega) only[aa,aw,ax,ay,aA,aB,aC,wA,bm,wS,bj,wM,S2,op,ef,cl,sq,reduceIte,j2,j3,j4,j5,j6,j7,j8,j9,y1,S1,h0,h1,h4,aQ,b9,iA,hd,lc]
   refine iW _ _ _ _ _ _ _ (by simp -implicitDefEqProofs (maxSteps:=1000000) (disch:=omega) only[aa,aw,ax,ay,aA,aB,aC,wA,bm,wS,bj,wM,S2,op,ef,cl,sq,reduceIte,j2,j3,j4,j5,j6,j7,j8,j9,y1,S1,h0,h1,h4,aQ,b9,iA,hd,lc]) ?_
   simp -implicitDefEqProofs (maxSteps:=1000000) (disch:=omega) only[aa,aw,ax,ay,aA,aB,aC,wA,bm,wS,bj,wM,S2,op,ef,cl,sq,reduceIte,j2,j3,j4,j5,j6,j7,j8,j9,y1,S1,bK,h0,h1,h4,aQ,b9,iA,hd,lc,List.append_nil]
   refine af _ _ _ _ _ _ _ _ (bC (swp d a pv)[k]! (swp d a pv)[a]! _) ?_
   rintro u H3⟨hu,hx⟩
   cases hu
   have hx:Ext H2 H3:=hx
   have hd:=hx.get hd
   have lc:=a6 hd
   have aG:=aG.trans (aK (F:=fun _=>False) hx) (fun _ h=>h.elim)
   have gu:aH (swp d a pv)[k]! (swp d a pv)[a]! = decide (cL (swp d a pv)[k]! (swp d a pv)[a]!<0):=rfl
   by_cases c1:cL (swp d a pv)[k]! (swp d a pv)[a]!<0
   ·simp -implicitDefEqProofs (maxSteps:=1000000) (disch:=omega) only[aa,aw,ax,ay,aA,aB,aC,wA,bm,wS,bj,wM,S2,op,ef,cl,sq,reduceIte,j2,j3,j4,j5,j6,j7,j8,j9,y1,S1,h0,h1,h4,aQ,b9,iA,c1]
    rw[scanUp,if_pos (lh (eb iA) (gu.trans (eb c1)))]at hk
    exact⟨k+1,by omega,.i ⟨hd,aG⟩,rfl,by omega,by omega,hk⟩
   ·simp -implicitDefEqProofs (maxSteps:=1000000) (disch:=omega) only[aa,aw,ax,ay,aA,aB,aC,wA,bm,wS,bj,wM,S2,op,ef,cl,sq,reduceIte,j2,j3,j4,j5,j6,j7,j8,j9,y1,S1,h0,h1,h4,aQ,b9,iA,c1]
    rw[scanUp,if_neg (hO (gu.trans (dQ c1)))]at hk
    subst hk
    exact⟨.i ⟨hd,aG⟩,rfl,Ba,AY⟩
  ·simp -implicitDefEqProofs only[op,ef,cl,sq,reduceIte,j2,j3,j4,j5,j6,j7,j8,j9,y1,S1,h0,h1,h4,aQ,b9,iA]
   rw[scanUp,if_neg (gq (dQ iA))]at hk
   subst hk
   exact⟨.i ⟨hd,aG⟩,rfl,Ba,AY⟩
 ·rintro R H2⟨⟨hd,aG⟩,h0,h1,h4,aQ,b9,HF,Lj⟩
  simp -implicitDefEqProofs only[op,ef,cl,sq,reduceIte,j2,j3,j4,j5,j6,j7,j8,j9,y1,S1,h0,h1,h4,aQ,b9]
  obtain⟨sj,BN⟩:∃sj,sj=scanDown (fun x=>!aH x (swp d a pv)[a]!) (swp d a pv) si (b-1):=⟨_,rfl⟩
  refine W.eZ 2 (fun (k:Nat) R H'=>At H' (fun H'=>H'[c]?=some (.cells (aJ eN (swp d a pv).toList))∧bO (fun x=>x=c) H H')∧R 0=.aE c 0 n 2∧R 1=.int .i64 a∧R 4=.fn 40 []∧R 12=.int .i64 si∧R 13=.int .i64 k∧k≤(b-1)∧scanDown (fun x=>!aH x (swp d a pv)[a]!) (swp d a pv) si k=sj) (fun k=>k) ((b-1))
   (fun R H'=>At H' (fun H'=>H'[c]?=some (.cells (aJ eN (swp d a pv).toList))∧bO (fun x=>x=c) H H')∧R 0=.aE c 0 n 2∧R 1=.int .i64 a∧R 4=.fn 40 []∧R 12=.int .i64 si∧R 13=.int .i64 sj∧sj≤(b-1)) ⟨.i ⟨hd,aG⟩,h0,h1,h4,aQ,b9,Nat.le_refl _,BN.symm⟩ ?_ ?_
  ·rintro k R H3⟨⟨hd,aG⟩,h0,h1,h4,aQ,b9,iA,hk⟩
   have lc:=a6 hd
   rw[jc (by omega)]at hk
   by_cases cd:si≤k
   ·simp -implicitDefEqProofs (maxSteps:=1000000) (disch:=omega) only[aa,aw,ax,ay,aA,aB,aC,wA,bm,wS,bj,wM,S2,op,ef,cl,sq,reduceIte,j2,j3,j4,j5,j6,j7,j8,j9,y1,S1,h0,h1,h4,aQ,b9,cd,hd,lc]
    refine iW _ _ _ _ _ _ _ (by simp -implicitDefEqProofs (maxSteps:=1000000) (disch:=omega) only[aa,aw,ax,ay,aA,aB,aC,wA,bm,wS,bj,wM,S2,op,ef,cl,sq,reduceIte,j2,j3,j4,j5,j6,j7,j8,j9,y1,S1,h0,h1,h4,aQ,b9,cd,hd,lc]) ?_
    simp -implicitDefEqProofs (maxSteps:=1000000) (disch:=omega) only[aa,aw,ax,ay,aA,aB,aC,wA,bm,wS,bj,wM,S2,op,ef,cl,sq,reduceIte,j2,j3,j4,j5,j6,j7,j8,j9,y1,S1,bK,h0,h1,h4,aQ,b9,cd,hd,lc,List.append_nil]
    refine af _ _ _ _ _ _ _ _ (bC (swp d a pv)[k]! (swp d a pv)[a]! _) ?_
    rintro u H4⟨hu,hx⟩
    cases hu
    have hx:Ext H3 H4:=hx
    have hd:=hx.get hd
    have lc:=a6 hd
    have aG:=aG.trans (aK (F:=fun _=>False) hx) (fun _ h=>h.elim)
    have gu:aH (swp d a pv)[k]! (swp d a pv)[a]! = decide (cL (swp d a pv)[k]! (swp d a pv)[a]!<0):=rfl
    by_cases c1:cL (swp d a pv)[k]! (swp d a pv)[a]!<0
    ·simp -implicitDefEqProofs (maxSteps:=1000000) (disch:=omega) only[aa,aw,ax,ay,aA,aB,aC,wA,bm,wS,bj,wM,S2,op,ef,cl,sq,reduceIte,j2,j3,j4,j5,j6,j7,j8,j9,y1,S1,h0,h1,h4,aQ,b9,cd,c1]
     rw[if_neg (hO (by rw[gu,eb c1];rfl))]at hk
     subst hk
     exact⟨.i ⟨hd,aG⟩,rfl,iA⟩
    ·simp -implicitDefEqProofs (maxSteps:=1000000) (disch:=omega) only[aa,aw,ax,ay,aA,aB,aC,wA,bm,wS,bj,wM,S2,op,ef,cl,sq,reduceIte,j2,j3,j4,j5,j6,j7,j8,j9,y1,S1,h0,h1,h4,aQ,b9,cd,c1]
     rw[if_pos (lh (eb cd) (jT (gu.trans (dQ c1))))]at hk
     exact⟨k-1,by omega,.i ⟨hd,aG⟩,rfl,by omega,hk⟩
   ·simp -implicitDefEqProofs only[op,ef,cl,sq,reduceIte,j2,j3,j4,j5,j6,j7,j8,j9,y1,S1,h0,h1,h4,aQ,b9,cd]
    rw[if_neg (gq (dQ cd))]at hk
    subst hk
    exact⟨.i ⟨hd,aG⟩,rfl,iA⟩
  ·rintro R H3⟨⟨hd,aG⟩,h0,h1,h4,aQ,b9,Lk⟩
   have lc:=a6 hd
   by_cases ru:sj<si
   ·have e:partition aH d a b pv=(sj,true,swp (swp d a pv) sj a):=by
     simp -implicitDefEqProofs only[partition,←xF,←BN,gt_iff_lt,if_pos ru]
    rw[e]
    simp -implicitDefEqProofs (maxSteps:=1000000) (disch:=omega) only[aa,aw,ax,ay,aA,aB,aC,wA,bm,wS,bj,wM,S2,op,ef,cl,sq,reduceIte,j2,j3,j4,j5,j6,j7,j8,j9,y1,S1,h0,h1,h4,aQ,b9,ru,hd,lc]
    exact .swp hd (by rw[swp_size];exact I4) rfl aG
   ·obtain⟨r,hr⟩:∃r,r=partLoop aH a (si+1) (sj-1) (swp (swp d a pv) si sj):=⟨_,rfl⟩
    have e:partition aH d a b pv=(r.1,false,swp r.2 r.1 a):=by
     simp -implicitDefEqProofs only[partition,←xF,←BN,gt_iff_lt,if_neg ru,←hr]
    rw[e]
    simp -implicitDefEqProofs (maxSteps:=1000000) (disch:=omega) only[aa,aw,ax,ay,aA,aB,aC,wA,bm,wS,bj,wM,S2,op,ef,cl,sq,reduceIte,j2,j3,j4,j5,j6,j7,j8,j9,y1,S1,h0,h1,h4,aQ,b9,ru,hd,lc]
    obtain⟨d2,cw,oN,e2,jA⟩:=SC.swp (n:=n) (P:=fun x=>x=swp (swp d a pv) si sj) (x:=.cells (aJ eN ((swp d a pv).toList.set si (swp d a pv)[sj]!))) hd (by rw[swp_size];exact I4) rfl aG
    subst e2
    generalize ((H3.set c (.cells (aJ eN ((swp d a pv).toList.set si (swp d a pv)[sj]!)))).set c (.cells (aJ eN (swp (swp d a pv) si sj).toList)))=H5 at *
    refine W.eZ 4 (fun (q:Nat×Nat) R H'=>At H' (fun H'=>SC c n H (fun di=>partLoop aH a q.1 q.2 di=r) H')∧R 0=.aE c 0 n 2∧R 1=.int .i64 a∧R 4=.fn 40 []∧R 12=.int .i64 q.1∧R 13=.int .i64 q.2∧a<q.1∧q.2<n∧q.1≤n) (fun q=>q.2+1-q.1) (si+1,sj-1)
     (fun R H'=>At H' (fun H'=>SC c n H (fun di=>di=r.2) H')∧R 0=.aE c 0 n 2∧R 1=.int .i64 a∧R 4=.fn 40 []∧R 13=.int .i64 r.1∧r.1<n) ⟨.i ⟨_,cw,oN,hr.symm,jA⟩,?_,?_,?_,?_,?_,by simp only;omega,by simp only;omega,by simp only;omega⟩ ?_ ?_
    ·simp -implicitDefEqProofs only[op,ef,cl,sq,reduceIte,j2,j3,j4,j5,j6,j7,j8,j9,y1,S1,h0]
    ·simp -implicitDefEqProofs only[op,ef,cl,sq,reduceIte,j2,j3,j4,j5,j6,j7,j8,j9,y1,S1,h1]
    ·simp -implicitDefEqProofs only[op,ef,cl,sq,reduceIte,j2,j3,j4,j5,j6,j7,j8,j9,y1,S1,h4]
    ·simp -implicitDefEqProofs only[op,ef,cl,sq,reduceIte,j2,j3,j4,j5,j6,j7,j8,j9,y1,S1,aQ]
    ·simp -implicitDefEqProofs only[op,ef,cl,sq,reduceIte,j2,j3,j4,j5,j6,j7,j8,j9,y1,S1,b9]
    ·rintro⟨i,j⟩ R H1 ⟨⟨di,hd,bn,hP,aG⟩,h0,h1,h4,aQ,b9,K8,w7,ib⟩
     simp only at hP aQ b9 K8 w7 ib ⊢
     simp -implicitDefEqProofs only[op,ef,cl,sq,reduceIte,j2,j3,j4,j5,j6,j7,j8,j9,y1,S1,h0,h1,h4,aQ,b9]
     clear xF BN
     obtain⟨si,xF⟩:∃si,si=scanUp (fun x=>aH x di[a]!) di j i:=⟨_,rfl⟩
     refine W.eZ 6 (fun (k:Nat) R H'=>At H' (fun H'=>H'[c]?=some (.cells (aJ eN di.toList))∧bO (fun x=>x=c) H H')∧R 0=.aE c 0 n 2∧R 1=.int .i64 a∧R 4=.fn 40 []∧R 12=.int .i64 k∧R 13=.int .i64 (j:Nat)∧i≤k∧k≤n∧scanUp (fun x=>aH x di[a]!) di (j) k=si) (fun k=>j+1-k) (i)
      (fun R H'=>At H' (fun H'=>H'[c]?=some (.cells (aJ eN di.toList))∧bO (fun x=>x=c) H H')∧R 0=.aE c 0 n 2∧R 1=.int .i64 a∧R 4=.fn 40 []∧R 12=.int .i64 si∧R 13=.int .i64 (j:Nat)∧i≤si∧si≤n) ⟨.i ⟨hd,aG⟩,h0,h1,h4,aQ,b9,Nat.le_refl _,by omega,xF.symm⟩ ?_ ?_
     ·rintro k R H2⟨⟨hd,aG⟩,h0,h1,h4,aQ,b9,Ba,AY,hk⟩
      have lc:=a6 hd
      by_cases iA:k≤j
      ·simp -implicitDefEqProofs (maxSteps:=1000000) (disch:=omega) only[aa,aw,ax,ay,aA,aB,aC,wA,bm,wS,bj,wM,S2,op,ef,cl,sq,reduceIte,j2,j3,j4,j5,j6,j7,j8,j9,y1,S1,h0,h1,h4,aQ,b9,iA,hd,lc]
       refine iW _ _ _ _ _ _ _ (by simp -implicitDefEqProofs (maxSteps:=1000000) (disch:=omega) only[aa,aw,ax,ay,aA,aB,aC,wA,bm,wS,bj,wM,S2,op,ef,cl,sq,reduceIte,j2,j3,j4,j5,j6,j7,j8,j9,y1,S1,h0,h1,h4,aQ,b9,iA,hd,lc]) ?_
       simp -implicitDefEqProofs (maxSteps:=1000000) (disch:=omega) only[aa,aw,ax,ay,aA,aB,aC,wA,bm,wS,bj,wM,S2,op,ef,cl,sq,reduceIte,j2,j3,j4,j5,j6,j7,j8,j9,y1,S1,bK,h0,h1,h4,aQ,b9,iA,hd,lc,List.append_nil]
       refine af _ _ _ _ _ _ _ _ (bC di[k]! di[a]! _) ?_
       rintro u H3⟨hu,hx⟩
       cases hu
       have hx:Ext H2 H3:=hx
       have hd:=hx.get hd
       have lc:=a6 hd
       have aG:=aG.trans (aK (F:=fun _=>False) hx) (fun _ h=>h.elim)
       have gu:aH di[k]! di[a]! = decide (cL di[k]! di[a]!<0):=rfl
       by_cases c1:cL di[k]! di[a]!<0
       ·simp -implicitDefEqProofs (maxSteps:=1000000) (disch:=omega) only[aa,aw,ax,ay,aA,aB,aC,wA,bm,wS,bj,wM,S2,op,ef,cl,sq,reduceIte,j2,j3,j4,j5,j6,j7,j8,j9,y1,S1,h0,h1,h4,aQ,b9,iA,c1]
        rw[scanUp,if_pos (lh (eb iA) (gu.trans (eb c1)))]at hk
        exact⟨k+1,by omega,.i ⟨hd,aG⟩,rfl,by omega,by omega,hk⟩
       ·simp -implicitDefEqProofs (maxSteps:=1000000) (disch:=omega) only[aa,aw,ax,ay,aA,aB,aC,wA,bm,wS,bj,wM,S2,op,ef,cl,sq,reduceIte,j2,j3,j4,j5,j6,j7,j8,j9,y1,S1,h0,h1,h4,aQ,b9,iA,c1]
        rw[scanUp,if_neg (hO (gu.trans (dQ c1)))]at hk
        subst hk
        exact⟨.i ⟨hd,aG⟩,rfl,Ba,AY⟩
      ·simp -implicitDefEqProofs only[op,ef,cl,sq,reduceIte,j2,j3,j4,j5,j6,j7,j8,j9,y1,S1,h0,h1,h4,aQ,b9,iA]
       rw[scanUp,if_neg (gq (dQ iA))]at hk
       subst hk
       exact⟨.i ⟨hd,aG⟩,rfl,Ba,AY⟩
     ·rintro R H2⟨⟨hd,aG⟩,h0,h1,h4,aQ,b9,HF,Lj⟩
      simp -implicitDefEqProofs only[op,ef,cl,sq,reduceIte,j2,j3,j4,j5,j6,j7,j8,j9,y1,S1,h0,h1,h4,aQ,b9]
      obtain⟨sj,BN⟩:∃sj,sj=scanDown (fun x=>!aH x di[a]!) di si j:=⟨_,rfl⟩
      refine W.eZ 8 (fun (k:Nat) R H'=>At H' (fun H'=>H'[c]?=some (.cells (aJ eN di.toList))∧bO (fun x=>x=c) H H')∧R 0=.aE c 0 n 2∧R 1=.int .i64 a∧R 4=.fn 40 []∧R 12=.int .i64 si∧R 13=.int .i64 k∧k≤j∧scanDown (fun x=>!aH x di[a]!) di si k=sj) (fun k=>k) (j)
       (fun R H'=>At H' (fun H'=>H'[c]?=some (.cells (aJ eN di.toList))∧bO (fun x=>x=c) H H')∧R 0=.aE c 0 n 2∧R 1=.int .i64 a∧R 4=.fn 40 []∧R 12=.int .i64 si∧R 13=.int .i64 sj∧sj≤j) ⟨.i ⟨hd,aG⟩,h0,h1,h4,aQ,b9,Nat.le_refl _,BN.symm⟩ ?_ ?_
      ·rintro k R H3⟨⟨hd,aG⟩,h0,h1,h4,aQ,b9,iA,hk⟩
       have lc:=a6 hd
       rw[jc (by omega)]at hk
       by_cases cd:si≤k
       ·simp -implicitDefEqProofs (maxSteps:=1000000) (disch:=omega) only[aa,aw,ax,ay,aA,aB,aC,wA,bm,wS,bj,wM,S2,op,ef,cl,sq,reduceIte,j2,j3,j4,j5,j6,j7,j8,j9,y1,S1,h0,h1,h4,aQ,b9,cd,hd,lc]
        refine iW _ _ _ _ _ _ _ (by simp -implicitDefEqProofs (maxSteps:=1000000) (disch:=omega) only[aa,aw,ax,ay,aA,aB,aC,wA,bm,wS,bj,wM,S2,op,ef,cl,sq,reduceIte,j2,j3,j4,j5,j6,j7,j8,j9,y1,S1,h0,h1,h4,aQ,b9,cd,hd,lc]) ?_
        simp -implicitDefEqProofs (maxSteps:=1000000) (disch:=omega) only[aa,aw,ax,ay,aA,aB,aC,wA,bm,wS,bj,wM,S2,op,ef,cl,sq,reduceIte,j2,j3,j4,j5,j6,j7,j8,j9,y1,S1,bK,h0,h1,h4,aQ,b9,cd,hd,lc,List.append_nil]
        refine af _ _ _ _ _ _ _ _ (bC di[k]! di[a]! _) ?_
        rintro u H4⟨hu,hx⟩
        cases hu
        have hx:Ext H3 H4:=hx
        have hd:=hx.get hd
        have lc:=a6 hd
        have aG:=aG.trans (aK (F:=fun _=>False) hx) (fun _ h=>h.elim)
        have gu:aH di[k]! di[a]! = decide (cL di[k]! di[a]!<0):=rfl
        by_cases c1:cL di[k]! di[a]!<0
        ·simp -implicitDefEqProofs (maxSteps:=1000000) (disch:=omega) only[aa,aw,ax,ay,aA,aB,aC,wA,bm,wS,bj,wM,S2,op,ef,cl,sq,reduceIte,j2,j3,j4,j5,j6,j7,j8,j9,y1,S1,h0,h1,h4,aQ,b9,cd,c1]
         rw[if_neg (hO (by rw[gu,eb c1];rfl))]at hk
         subst hk
         exact⟨.i ⟨hd,aG⟩,rfl,iA⟩
        ·simp -implicitDefEqProofs (maxSteps:=1000000) (disch:=omega) only[aa,aw,ax,ay,aA,aB,aC,wA,bm,wS,bj,wM,S2,op,ef,cl,sq,reduceIte,j2,j3,j4,j5,j6,j7,j8,j9,y1,S1,h0,h1,h4,aQ,b9,cd,c1]
         rw[if_pos (lh (eb cd) (jT (gu.trans (dQ c1))))]at hk
         exact⟨k-1,by omega,.i ⟨hd,aG⟩,rfl,by omega,hk⟩
       ·simp -implicitDefEqProofs only[op,ef,cl,sq,reduceIte,j2,j3,j4,j5,j6,j7,j8,j9,y1,S1,h0,h1,h4,aQ,b9,cd]
        rw[if_neg (gq (dQ cd))]at hk
        subst hk
        exact⟨.i ⟨hd,aG⟩,rfl,iA⟩
      ·rintro R H3⟨⟨hd,aG⟩,h0,h1,h4,aQ,b9,Lk⟩
       have lc:=a6 hd
       rw[DI xF BN]at hP
       by_cases ru:sj<si
       ·rw[if_pos ru]at hP
        simp -implicitDefEqProofs only[op,ef,cl,sq,reduceIte,j2,j3,j4,j5,j6,j7,j8,j9,y1,S1,h0,h1,h4,aQ,b9,ru]
        exact⟨.i ⟨di,hd,bn,by rw[←hP],aG⟩,by rw[←hP],by rw[←hP];simp only;omega⟩
       ·rw[if_neg ru,if_pos (by omega)]at hP
        simp -implicitDefEqProofs (maxSteps:=1000000) (disch:=omega) only[aa,aw,ax,ay,aA,aB,aC,wA,bm,wS,bj,wM,S2,op,ef,cl,sq,reduceIte,j2,j3,j4,j5,j6,j7,j8,j9,y1,S1,h0,h1,h4,aQ,b9,ru,hd,lc]
        exact⟨(si+1,sj-1),by simp only;omega,.i (.swp hd (by rw[swp_size];exact bn) hP aG),rfl,rfl,by simp only;omega,by simp only;omega,by simp only;omega⟩
    ·rintro R H1⟨⟨di,hd,bn,rfl,aG⟩,h0,h1,h4,b9,IJ⟩
     have lc:=a6 hd
     simp -implicitDefEqProofs (maxSteps:=1000000) (disch:=omega) only[aa,aw,ax,ay,aA,aB,aC,wA,bm,wS,bj,wM,S2,op,ef,cl,sq,reduceIte,j2,j3,j4,j5,j6,j7,j8,j9,y1,S1,h0,h1,h4,b9,hd,lc]
     exact .swp hd (by rw[swp_size];exact bn) rfl aG
set_option maxHeartbeats 8000000
open Go.Sort in
theorem shiftDown_eq {d:Array Nm}{k:Nat}(h:1≤k):shiftDown aH k d=if (!aH d[k]! d[k-1]!)=true then d else shiftDown aH (k-1) (swp d k (k-1)):=by
 cases k with
 | zero=>omega
 | succ k=>rw[shiftDown];rfl
open Go.Sort in
theorem HH (c n:Nat)(d:Array Nm)(a b:Nat)(H:ae)(hn:d.size=n)(hc:H[c]?=some (.cells (aJ eN d.toList)))(hb:b≤n)(oM:a<b)(hs:n<2305843009213693951) :
  W env (.call 85 [.aE c 0 n 2,.int .i64 a,.int .i64 b,.fn 40 []]) H (fun o H'=>o=.val (.bool (partialInsertionSort aH d a b).2)∧SC c n H (fun x=>x=(partialInsertionSort aH d a b).1) H'):=by
 refine W.cJ rfl rfl rfl ?_
 obtain⟨r,hr⟩:∃r,r=partialInsertionSort aH d a b:=⟨_,rfl⟩
 rw[←hr]
 simp -implicitDefEqProofs (maxSteps:=1000000) (disch:=omega) only[G8,aa,aw,ax,ay,aA,aB,aC,wA,bm,wS,bj,wM,S2,op,ef,cl,sq,reduceIte,j2,j3,j4,j5,j6,j7,j8,j9,y1,S1]
 refine W.eZ 0 (fun (j:Nat) R H'=>At H' (fun H'=>∃i,R 9=.int .i64 (i:Nat)∧a<i∧i≤b∧SC c n H (fun di=>partialIns aH a b (5-j) i di=r) H')∧R 0=.aE c 0 n 2∧R 1=.int .i64 a∧R 2=.int .i64 b∧R 3=.fn 40 []∧R 10=.int .i64 j∧j≤5) (fun j=>5-j) 0
  (fun R H'=>At H' (fun H'=>SC c n H (fun di=>(di,false)=r) H')) ⟨.i ⟨a+1,rfl,by omega,by omega,d,hc,hn,hr.symm,bO.refl _ _⟩,rfl,rfl,rfl,rfl,rfl,by omega⟩ ?_ ?_
 ·rintro j R H1⟨⟨i,h9,K8,UL,di,hd,bn,hP,aG⟩,h0,h1,h2,h3,aU,hj⟩
  by_cases UM:j<5
  rotate_left
  ·have:j=5:=by omega
   subst this
   simp -implicitDefEqProofs only[op,ef,cl,sq,reduceIte,j2,j3,j4,j5,j6,j7,j8,j9,y1,S1,h0,h1,h2,h3,aU]
   exact .i ⟨di,hd,bn,hP,aG⟩
  obtain⟨s,P2⟩:∃s,5-j=s+1:=⟨4-j,by omega⟩
  have DJ:5-(j+1)=s:=by omega
  rw[P2,partialIns]at hP
  simp -implicitDefEqProofs only[op,ef,cl,sq,reduceIte,j2,j3,j4,j5,j6,j7,j8,j9,y1,S1,h0,h1,h2,h3,aU,UM]
  obtain⟨si,xF⟩:∃si,si=scanSorted aH di b i:=⟨_,rfl⟩
  rw[←xF]at hP
  refine W.eZ 2 (fun (k:Nat) R H'=>At H' (fun H'=>H'[c]?=some (.cells (aJ eN di.toList))∧bO (fun x=>x=c) H H')∧R 0=.aE c 0 n 2∧R 1=.int .i64 a∧R 2=.int .i64 b∧R 3=.fn 40 []∧R 9=.int .i64 k∧R 10=.int .i64 j∧i≤k∧k≤b∧scanSorted aH di b k=si) (fun k=>b-k) i
   (fun R H'=>At H' (fun H'=>H'[c]?=some (.cells (aJ eN di.toList))∧bO (fun x=>x=c) H H')∧R 0=.aE c 0 n 2∧R 1=.int .i64 a∧R 2=.int .i64 b∧R 3=.fn 40 []∧R 9=.int .i64 si∧R 10=.int .i64 j∧i≤si∧si≤b) ⟨.i ⟨hd,aG⟩,?_,?_,?_,?_,?_,?_,Nat.le_refl _,UL,xF.symm⟩ ?_ ?_
  ·simp -implicitDefEqProofs only[op,ef,cl,sq,reduceIte,j2,j3,j4,j5,j6,j7,j8,j9,y1,S1,h0]
  ·simp -implicitDefEqProofs only[op,ef,cl,sq,reduceIte,j2,j3,j4,j5,j6,j7,j8,j9,y1,S1,h1]
  ·simp -implicitDefEqProofs only[op,ef,cl,sq,reduceIte,j2,j3,j4,j5,j6,j7,j8,j9,y1,S1,h2]
  ·simp -implicitDefEqProofs only[op,ef,cl,sq,reduceIte,j2,j3,j4,j5,j6,j7,j8,j9,y1,S1,h3]
  ·simp -implicitDefEqProofs only[op,ef,cl,sq,reduceIte,j2,j3,j4,j5,j6,j7,j8,j9,y1,S1,h9]
  ·simp -implicitDefEqProofs only[op,ef,cl,sq,reduceIte,j2,j3,j4,j5,j6,j7,j8,j9,y1,S1,aU]
  ·rintro k R H2⟨⟨hd,aG⟩,h0,h1,h2,h3,h9,aU,Ba,Fx,hk⟩
   have lc:=a6 hd
   by_cases cd:k<b
   ·simp -implicitDefEqProofs (maxSteps:=1000000) (disch:=omega) only[aa,aw,ax,ay,aA,aB,aC,wA,bm,wS,bj,wM,S2,op,ef,cl,sq,reduceIte,j2,j3,j4,j5,j6,j7,j8,j9,y1,S1,h0,h1,h2,h3,h9,aU,cd,hd,lc]
    refine iW _ _ _ _ _ _ _ (by simp -implicitDefEqProofs (maxSteps:=1000000) (disch:=omega) only[aa,aw,ax,ay,aA,aB,aC,wA,bm,wS,bj,wM,S2,op,ef,cl,sq,reduceIte,j2,j3,j4,j5,j6,j7,j8,j9,y1,S1,h0,h1,h2,h3,h9,aU,cd,hd,lc]) ?_
    simp -implicitDefEqProofs (maxSteps:=1000000) (disch:=omega) only[aa,aw,ax,ay,aA,aB,aC,wA,bm,wS,bj,wM,S2,op,ef,cl,sq,reduceIte,j2,j3,j4,j5,j6,j7,j8,j9,y1,S1,bK,h0,h1,h2,h3,h9,aU,cd,hd,lc,List.append_nil]
    refine af _ _ _ _ _ _ _ _ (bC di[k]! di[k-1]! _) ?_
    rintro u H3⟨hu,hx⟩
    cases hu
    have hx:Ext H2 H3:=hx
    have hd:=hx.get hd
    have lc:=a6 hd
    have aG:=aG.trans (aK (F:=fun _=>False) hx) (fun _ h=>h.elim)
    have gu:aH di[k]! di[k-1]! = decide (cL di[k]! di[k-1]!<0):=rfl
    by_cases c1:cL di[k]! di[k-1]!<0
    ·simp -implicitDefEqProofs (maxSteps:=1000000) (disch:=omega) only[aa,aw,ax,ay,aA,aB,aC,wA,bm,wS,bj,wM,S2,op,ef,cl,sq,reduceIte,j2,j3,j4,j5,j6,j7,j8,j9,y1,S1,h0,h1,h2,h3,h9,aU,cd,c1]
     rw[scanSorted,if_neg (hO (by rw[gu,eb c1];rfl))]at hk
     subst hk
     exact⟨.i ⟨hd,aG⟩,rfl,Ba,Fx⟩
    ·simp -implicitDefEqProofs (maxSteps:=1000000) (disch:=omega) only[aa,aw,ax,ay,aA,aB,aC,wA,bm,wS,bj,wM,S2,op,ef,cl,sq,reduceIte,j2,j3,j4,j5,j6,j7,j8,j9,y1,S1,h0,h1,h2,h3,h9,aU,cd,c1]
     rw[scanSorted,if_pos (lh (eb cd) (jT (gu.trans (dQ c1))))]at hk
     exact⟨k+1,by omega,.i ⟨hd,aG⟩,rfl,by omega,by omega,hk⟩
   ·simp -implicitDefEqProofs only[op,ef,cl,sq,reduceIte,j2,j3,j4,j5,j6,j7,j8,j9,y1,S1,h0,h1,h2,h3,h9,aU,cd]
    rw[scanSorted,if_neg (gq (dQ cd))]at hk
    subst hk
    exact⟨.i ⟨hd,aG⟩,rfl,Ba,Fx⟩
  ·rintro R H2⟨⟨hd,aG⟩,h0,h1,h2,h3,h9,aU,HF,UN⟩
   have lc:=a6 hd
   by_cases oP:si=b
   ·rw[if_pos oP]at hP
    have e1:((si:Int)==(b:Int))=true:=by rw[oP];simp
    simp -implicitDefEqProofs (maxSteps:=1000000) (disch:=omega) only[aa,aw,ax,ay,aA,aB,aC,wA,bm,wS,bj,wM,S2,op,ef,cl,sq,reduceIte,j2,j3,j4,j5,j6,j7,j8,j9,y1,S1,h0,h1,h2,h3,h9,aU,e1]
    rw[←hP]
    exact⟨rfl,di,hd,bn,rfl,aG⟩
   rw[if_neg oP]at hP
   have e1:((si:Int)==(b:Int))=false:=by simp;omega
   by_cases DC:b-a<50
   ·rw[if_pos DC]at hP
    simp -implicitDefEqProofs (maxSteps:=1000000) (disch:=omega) only[aa,aw,ax,ay,aA,aB,aC,wA,bm,wS,bj,wM,S2,op,ef,cl,sq,reduceIte,j2,j3,j4,j5,j6,j7,j8,j9,y1,S1,h0,h1,h2,h3,h9,aU,e1,DC]
    rw[←hP]
    exact⟨rfl,di,hd,bn,rfl,aG⟩
   rw[if_neg DC]at hP
   simp -implicitDefEqProofs (maxSteps:=1000000) (disch:=omega) only[aa,aw,ax,ay,aA,aB,aC,wA,bm,wS,bj,wM,S2,op,ef,cl,sq,reduceIte,j2,j3,j4,j5,j6,j7,j8,j9,y1,S1,h0,h1,h2,h3,h9,aU,e1,DC,hd,lc]
   obtain⟨d3,vV⟩:∃d3,d3=if si-a≥2 then shiftDown aH (si-1) (swp di si (si-1))else swp di si (si-1):=⟨_,rfl⟩
   obtain⟨d4,Bb⟩:∃d4,d4=if b-si≥2 then shiftUp aH b (si+1) d3 else d3:=⟨_,rfl⟩
   have hP:partialIns aH a b s si d4=r:=by rw[Bb,vV];exact hP
   obtain⟨d2,cw,oN,e2,jA⟩:=SC.swp (n:=n) (P:=fun x=>x=swp di si (si-1)) (x:=.cells (aJ eN (di.toList.set si di[si-1]!))) hd (by rw[swp_size];exact bn) rfl aG
   subst e2
   generalize ((H2.set c (.cells (aJ eN (di.toList.set si di[si-1]!)))).set c (.cells (aJ eN (swp di si (si-1)).toList)))=H5 at *
   by_cases hA:2≤si-a
   ·rw[if_pos hA]at vV
    simp -implicitDefEqProofs (maxSteps:=1000000) (disch:=omega) only[aa,aw,ax,ay,aA,aB,aC,wA,bm,wS,bj,wM,S2,op,ef,cl,sq,reduceIte,j2,j3,j4,j5,j6,j7,j8,j9,y1,S1,h0,h1,h2,h3,h9,aU,hA]
    refine W.eZ 4 (fun (k:Nat) R H'=>At H' (fun H'=>SC c n H (fun dx=>shiftDown aH k dx=d3) H')∧R 0=.aE c 0 n 2∧R 1=.int .i64 a∧R 2=.int .i64 b∧R 3=.fn 40 []∧R 9=.int .i64 si∧R 10=.int .i64 j∧R 11=.int .i64 k∧k<b) (fun k=>k) (si-1)
     (fun R H'=>At H' (fun H'=>SC c n H (fun dx=>dx=d3) H')∧R 0=.aE c 0 n 2∧R 1=.int .i64 a∧R 2=.int .i64 b∧R 3=.fn 40 []∧R 9=.int .i64 si∧R 10=.int .i64 j) ⟨.i ⟨_,cw,oN,vV.symm,jA⟩,?_,?_,?_,?_,?_,?_,?_,by omega⟩ ?_ ?_
    ·simp -implicitDefEqProofs only[op,ef,cl,sq,reduceIte,j2,j3,j4,j5,j6,j7,j8,j9,y1,S1,h0]
    ·simp -implicitDefEqProofs only[op,ef,cl,sq,reduceIte,j2,j3,j4,j5,j6,j7,j8,j9,y1,S1,h1]
    ·simp -implicitDefEqProofs only[op,ef,cl,sq,reduceIte,j2,j3,j4,j5,j6,j7,j8,j9,y1,S1,h2]
    ·simp -implicitDefEqProofs only[op,ef,cl,sq,reduceIte,j2,j3,j4,j5,j6,j7,j8,j9,y1,S1,h3]
    ·simp -implicitDefEqProofs only[op,ef,cl,sq,reduceIte,j2,j3,j4,j5,j6,j7,j8,j9,y1,S1,h9]
    ·simp -implicitDefEqProofs only[op,ef,cl,sq,reduceIte,j2,j3,j4,j5,j6,j7,j8,j9,y1,S1,aU]
    ·simp -implicitDefEqProofs only[op,ef,cl,sq,reduceIte,j2,j3,j4,j5,j6,j7,j8,j9,y1,S1]
    ·rintro k R H2⟨⟨dx,hd,bn,hk,aG⟩,h0,h1,h2,h3,h9,aU,bD,Fx⟩
     have lc:=a6 hd
     by_cases oH:1≤k
     ·simp -implicitDefEqProofs (maxSteps:=1000000) (disch:=omega) only[aa,aw,ax,ay,aA,aB,aC,wA,bm,wS,bj,wM,S2,op,ef,cl,sq,reduceIte,j2,j3,j4,j5,j6,j7,j8,j9,y1,S1,h0,h1,h2,h3,h9,aU,bD,oH,hd,lc]
      refine iW _ _ _ _ _ _ _ (by simp -implicitDefEqProofs (maxSteps:=1000000) (disch:=omega) only[aa,aw,ax,ay,aA,aB,aC,wA,bm,wS,bj,wM,S2,op,ef,cl,sq,reduceIte,j2,j3,j4,j5,j6,j7,j8,j9,y1,S1,h0,h1,h2,h3,h9,aU,bD,oH,hd,lc]) ?_
      simp -implicitDefEqProofs (maxSteps:=1000000) (disch:=omega) only[aa,aw,ax,ay,aA,aB,aC,wA,bm,wS,bj,wM,S2,op,ef,cl,sq,reduceIte,j2,j3,j4,j5,j6,j7,j8,j9,y1,S1,bK,h0,h1,h2,h3,h9,aU,bD,oH,hd,lc,List.append_nil]
      refine af _ _ _ _ _ _ _ _ (bC dx[k]! dx[k-1]! _) ?_
      rintro u H3⟨hu,hx⟩
      cases hu
      have hx:Ext H2 H3:=hx
      have hd:=hx.get hd
      have lc:=a6 hd
      have aG:=aG.trans (aK (F:=fun _=>False) hx) (fun _ h=>h.elim)
      have gu:aH dx[k]! dx[k-1]! = decide (cL dx[k]! dx[k-1]!<0):=rfl
      rw[shiftDown_eq oH]at hk
      by_cases c1:cL dx[k]! dx[k-1]!<0
      ·simp -implicitDefEqProofs (maxSteps:=1000000) (disch:=omega) only[aa,aw,ax,ay,aA,aB,aC,wA,bm,wS,bj,wM,S2,op,ef,cl,sq,reduceIte,j2,j3,j4,j5,j6,j7,j8,j9,y1,S1,h0,h1,h2,h3,h9,aU,bD,oH,hd,lc,c1]
       rw[if_neg (pY (gu.trans (eb c1)))]at hk
       exact⟨k-1,by omega,.i (.swp hd (by rw[swp_size];exact bn) hk aG),rfl,by omega⟩
      ·simp -implicitDefEqProofs (maxSteps:=1000000) (disch:=omega) only[aa,aw,ax,ay,aA,aB,aC,wA,bm,wS,bj,wM,S2,op,ef,cl,sq,reduceIte,j2,j3,j4,j5,j6,j7,j8,j9,y1,S1,h0,h1,h2,h3,h9,aU,bD,oH,hd,lc,c1]
       rw[if_pos (jT (gu.trans (dQ c1)))]at hk
       exact .i ⟨dx,hd,bn,hk,aG⟩
     ·have Ni:k=0:=by omega
      subst Ni
      simp -implicitDefEqProofs only[op,ef,cl,sq,reduceIte,j2,j3,j4,j5,j6,j7,j8,j9,y1,S1,h0,h1,h2,h3,h9,aU,bD,oH]
      rw[shiftDown]at hk
      exact .i ⟨dx,hd,bn,hk,aG⟩
    ·rintro R H2⟨⟨dx,hd,xG,rfl,aG⟩,h0,h1,h2,h3,h9,aU⟩
     have lc:=a6 hd
     by_cases hB:2≤b-si
     ·simp -implicitDefEqProofs (maxSteps:=1000000) (disch:=omega) only[aa,aw,ax,ay,aA,aB,aC,wA,bm,wS,bj,wM,S2,op,ef,cl,sq,reduceIte,j2,j3,j4,j5,j6,j7,j8,j9,y1,S1,h0,h1,h2,h3,h9,aU,hB]
      rw[if_pos hB]at Bb
      refine W.eZ 6 (fun (k:Nat) R H'=>At H' (fun H'=>SC c n H (fun dx=>shiftUp aH b k dx=d4) H')∧R 0=.aE c 0 n 2∧R 1=.int .i64 a∧R 2=.int .i64 b∧R 3=.fn 40 []∧R 9=.int .i64 si∧R 10=.int .i64 j∧R 12=.int .i64 k∧1≤k∧k≤b) (fun k=>b-k) (si+1)
       (fun R H'=>At H' (fun H'=>SC c n H (fun dx=>dx=d4) H')∧R 0=.aE c 0 n 2∧R 1=.int .i64 a∧R 2=.int .i64 b∧R 3=.fn 40 []∧R 9=.int .i64 si∧R 10=.int .i64 j) ⟨.i ⟨dx,hd,xG,Bb.symm,aG⟩,?_,?_,?_,?_,?_,?_,?_,by omega,by omega⟩ ?_ ?_
      ·simp -implicitDefEqProofs only[op,ef,cl,sq,reduceIte,j2,j3,j4,j5,j6,j7,j8,j9,y1,S1,h0]
      ·simp -implicitDefEqProofs only[op,ef,cl,sq,reduceIte,j2,j3,j4,j5,j6,j7,j8,j9,y1,S1,h1]
      ·simp -implicitDefEqProofs only[op,ef,cl,sq,reduceIte,j2,j3,j4,j5,j6,j7,j8,j9,y1,S1,h2]
      ·simp -implicitDefEqProofs only[op,ef,cl,sq,reduceIte,j2,j3,j4,j5,j6,j7,j8,j9,y1,S1,h3]
      ·simp -implicitDefEqProofs only[op,ef,cl,sq,reduceIte,j2,j3,j4,j5,j6,j7,j8,j9,y1,S1,h9]
      ·simp -implicitDefEqProofs only[op,ef,cl,sq,reduceIte,j2,j3,j4,j5,j6,j7,j8,j9,y1,S1,aU]
      ·simp -implicitDefEqProofs only[op,ef,cl,sq,reduceIte,j2,j3,j4,j5,j6,j7,j8,j9,y1,S1]
      ·rintro k R H2⟨⟨dx,hd,bn,hk,aG⟩,h0,h1,h2,h3,h9,aU,aQ,oH,Fx⟩
       have lc:=a6 hd
       by_cases cd:k<b
       ·simp -implicitDefEqProofs (maxSteps:=1000000) (disch:=omega) only[aa,aw,ax,ay,aA,aB,aC,wA,bm,wS,bj,wM,S2,op,ef,cl,sq,reduceIte,j2,j3,j4,j5,j6,j7,j8,j9,y1,S1,h0,h1,h2,h3,h9,aU,aQ,cd,hd,lc]
        refine iW _ _ _ _ _ _ _ (by simp -implicitDefEqProofs (maxSteps:=1000000) (disch:=omega) only[aa,aw,ax,ay,aA,aB,aC,wA,bm,wS,bj,wM,S2,op,ef,cl,sq,reduceIte,j2,j3,j4,j5,j6,j7,j8,j9,y1,S1,h0,h1,h2,h3,h9,aU,aQ,cd,hd,lc]) ?_
        simp -implicitDefEqProofs (maxSteps:=1000000) (disch:=omega) only[aa,aw,ax,ay,aA,aB,aC,wA,bm,wS,bj,wM,S2,op,ef,cl,sq,reduceIte,j2,j3,j4,j5,j6,j7,j8,j9,y1,S1,bK,h0,h1,h2,h3,h9,aU,aQ,cd,hd,lc,List.append_nil]
        refine af _ _ _ _ _ _ _ _ (bC dx[k]! dx[k-1]! _) ?_
        rintro u H3⟨hu,hx⟩
        cases hu
        have hx:Ext H2 H3:=hx
        have hd:=hx.get hd
        have lc:=a6 hd
        have aG:=aG.trans (aK (F:=fun _=>False) hx) (fun _ h=>h.elim)
        have gu:aH dx[k]! dx[k-1]! = decide (cL dx[k]! dx[k-1]!<0):=rfl
        rw[shiftUp,if_pos cd]at hk
        by_cases c1:cL dx[k]! dx[k-1]!<0
        ·simp -implicitDefEqProofs (maxSteps:=1000000) (disch:=omega) only[aa,aw,ax,ay,aA,aB,aC,wA,bm,wS,bj,wM,S2,op,ef,cl,sq,reduceIte,j2,j3,j4,j5,j6,j7,j8,j9,y1,S1,h0,h1,h2,h3,h9,aU,aQ,cd,hd,lc,c1]
         rw[if_neg (pY (gu.trans (eb c1)))]at hk
         exact⟨k+1,by omega,.i (.swp hd (by rw[swp_size];exact bn) hk aG),rfl,by omega,by omega⟩
        ·simp -implicitDefEqProofs (maxSteps:=1000000) (disch:=omega) only[aa,aw,ax,ay,aA,aB,aC,wA,bm,wS,bj,wM,S2,op,ef,cl,sq,reduceIte,j2,j3,j4,j5,j6,j7,j8,j9,y1,S1,h0,h1,h2,h3,h9,aU,aQ,cd,hd,lc,c1]
         rw[if_pos (jT (gu.trans (dQ c1)))]at hk
         exact .i ⟨dx,hd,bn,hk,aG⟩
       ·simp -implicitDefEqProofs only[op,ef,cl,sq,reduceIte,j2,j3,j4,j5,j6,j7,j8,j9,y1,S1,h0,h1,h2,h3,h9,aU,aQ,cd]
        rw[shiftUp,if_neg cd]at hk
        exact .i ⟨dx,hd,bn,hk,aG⟩
      ·rintro R H2⟨⟨dx,hd,bn,rfl,aG⟩,h0,h1,h2,h3,h9,aU⟩
       simp -implicitDefEqProofs (maxSteps:=1000000) (disch:=omega) only[aa,aw,ax,ay,aA,aB,aC,wA,bm,wS,bj,wM,S2,op,ef,cl,sq,reduceIte,j2,j3,j4,j5,j6,j7,j8,j9,y1,S1,h0,h1,h2,h3,h9,aU]
       exact⟨j+1,by omega,.i ⟨si,rfl,by omega,by omega,dx,hd,bn,by rw[DJ];exact hP,aG⟩,rfl,by omega⟩
     ·rw[if_neg hB]at Bb
      subst Bb
      simp -implicitDefEqProofs (maxSteps:=1000000) (disch:=omega) only[aa,aw,ax,ay,aA,aB,aC,wA,bm,wS,bj,wM,S2,op,ef,cl,sq,reduceIte,j2,j3,j4,j5,j6,j7,j8,j9,y1,S1,h0,h1,h2,h3,h9,aU,hB]
      exact⟨j+1,by omega,.i ⟨si,rfl,by omega,by omega,d4,hd,xG,by rw[DJ];exact hP,aG⟩,rfl,by omega⟩
   ·rw[if_neg hA]at vV
    simp -implicitDefEqProofs (maxSteps:=1000000) (disch:=omega) only[aa,aw,ax,ay,aA,aB,aC,wA,bm,wS,bj,wM,S2,op,ef,cl,sq,reduceIte,j2,j3,j4,j5,j6,j7,j8,j9,y1,S1,h0,h1,h2,h3,h9,aU,hA]
    have hd:=cw
    have xG:=oN
    have aG:=jA
    rw[←vV]at hd xG
    by_cases hB:2≤b-si
    ·simp -implicitDefEqProofs (maxSteps:=1000000) (disch:=omega) only[aa,aw,ax,ay,aA,aB,aC,wA,bm,wS,bj,wM,S2,op,ef,cl,sq,reduceIte,j2,j3,j4,j5,j6,j7,j8,j9,y1,S1,h0,h1,h2,h3,h9,aU,hB]
     rw[if_pos hB]at Bb
     refine W.eZ 6 (fun (k:Nat) R H'=>At H' (fun H'=>SC c n H (fun dx=>shiftUp aH b k dx=d4) H')∧R 0=.aE c 0 n 2∧R 1=.int .i64 a∧R 2=.int .i64 b∧R 3=.fn 40 []∧R 9=.int .i64 si∧R 10=.int .i64 j∧R 12=.int .i64 k∧1≤k∧k≤b) (fun k=>b-k) (si+1)
      (fun R H'=>At H' (fun H'=>SC c n H (fun dx=>dx=d4) H')∧R 0=.aE c 0 n 2∧R 1=.int .i64 a∧R 2=.int .i64 b∧R 3=.fn 40 []∧R 9=.int .i64 si∧R 10=.int .i64 j) ⟨.i ⟨d3,hd,xG,Bb.symm,aG⟩,?_,?_,?_,?_,?_,?_,?_,by omega,by omega⟩ ?_ ?_
     ·simp -implicitDefEqProofs only[op,ef,cl,sq,reduceIte,j2,j3,j4,j5,j6,j7,j8,j9,y1,S1,h0]
     ·simp -implicitDefEqProofs only[op,ef,cl,sq,reduceIte,j2,j3,j4,j5,j6,j7,j8,j9,y1,S1,h1]
     ·simp -implicitDefEqProofs only[op,ef,cl,sq,reduceIte,j2,j3,j4,j5,j6,j7,j8,j9,y1,S1,h2]
     ·simp -implicitDefEqProofs only[op,ef,cl,sq,reduceIte,j2,j3,j4,j5,j6,j7,j8,j9,y1,S1,h3]
     ·simp -implicitDefEqProofs only[op,ef,cl,sq,reduceIte,j2,j3,j4,j5,j6,j7,j8,j9,y1,S1,h9]
     ·simp -implicitDefEqProofs only[op,ef,cl,sq,reduceIte,j2,j3,j4,j5,j6,j7,j8,j9,y1,S1,aU]
     ·simp -implicitDefEqProofs only[op,ef,cl,sq,reduceIte,j2,j3,j4,j5,j6,j7,j8,j9,y1,S1]
     ·rintro k R H2⟨⟨dx,hd,bn,hk,aG⟩,h0,h1,h2,h3,h9,aU,aQ,oH,Fx⟩
      have lc:=a6 hd
      by_cases cd:k<b
      ·simp -implicitDefEqProofs (maxSteps:=1000000) (disch:=omega) only[aa,aw,ax,ay,aA,aB,aC,wA,bm,wS,bj,wM,S2,op,ef,cl,sq,reduceIte,j2,j3,j4,j5,j6,j7,j8,j9,y1,S1,h0,h1,h2,h3,h9,aU,aQ,cd,hd,lc]
       refine iW _ _ _ _ _ _ _ (by simp -implicitDefEqProofs (maxSteps:=1000000) (disch:=omega) only[aa,aw,ax,ay,aA,aB,aC,wA,bm,wS,bj,wM,S2,op,ef,cl,sq,reduceIte,j2,j3,j4,j5,j6,j7,j8,j9,y1,S1,h0,h1,h2,h3,h9,aU,aQ,cd,hd,lc]) ?_
       simp -implicitDefEqProofs (maxSteps:=1000000) (disch:=omega) only[aa,aw,ax,ay,aA,aB,aC,wA,bm,wS,bj,wM,S2,op,ef,cl,sq,reduceIte,j2,j3,j4,j5,j6,j7,j8,j9,y1,S1,bK,h0,h1,h2,h3,h9,aU,aQ,cd,hd,lc,List.append_nil]
       refine af _ _ _ _ _ _ _ _ (bC dx[k]! dx[k-1]! _) ?_
       rintro u H3⟨hu,hx⟩
       cases hu
       have hx:Ext H2 H3:=hx
       have hd:=hx.get hd
       have lc:=a6 hd
       have aG:=aG.trans (aK (F:=fun _=>False) hx) (fun _ h=>h.elim)
       have gu:aH dx[k]! dx[k-1]! = decide (cL dx[k]! dx[k-1]!<0):=rfl
       rw[shiftUp,if_pos cd]at hk
       by_cases c1:cL dx[k]! dx[k-1]!<0
       ·simp -implicitDefEqProofs (maxSteps:=1000000) (disch:=omega) only[aa,aw,ax,ay,aA,aB,aC,wA,bm,wS,bj,wM,S2,op,ef,cl,sq,reduceIte,j2,j3,j4,j5,j6,j7,j8,j9,y1,S1,h0,h1,h2,h3,h9,aU,aQ,cd,hd,lc,c1]
        rw[if_neg (pY (gu.trans (eb c1)))]at hk
        exact⟨k+1,by omega,.i (.swp hd (by rw[swp_size];exact bn) hk aG),rfl,by omega,by omega⟩
       ·simp -implicitDefEqProofs (maxSteps:=1000000) (disch:=omega) only[aa,aw,ax,ay,aA,aB,aC,wA,bm,wS,bj,wM,S2,op,ef,cl,sq,reduceIte,j2,j3,j4,j5,j6,j7,j8,j9,y1,S1,h0,h1,h2,h3,h9,aU,aQ,cd,hd,lc,c1]
        rw[if_pos (jT (gu.trans (dQ c1)))]at hk
        exact .i ⟨dx,hd,bn,hk,aG⟩
      ·simp -implicitDefEqProofs only[op,ef,cl,sq,reduceIte,j2,j3,j4,j5,j6,j7,j8,j9,y1,S1,h0,h1,h2,h3,h9,aU,aQ,cd]
       rw[shiftUp,if_neg cd]at hk
       exact .i ⟨dx,hd,bn,hk,aG⟩
     ·rintro R H2⟨⟨dx,hd,bn,rfl,aG⟩,h0,h1,h2,h3,h9,aU⟩
      simp -implicitDefEqProofs (maxSteps:=1000000) (disch:=omega) only[aa,aw,ax,ay,aA,aB,aC,wA,bm,wS,bj,wM,S2,op,ef,cl,sq,reduceIte,j2,j3,j4,j5,j6,j7,j8,j9,y1,S1,h0,h1,h2,h3,h9,aU]
      exact⟨j+1,by omega,.i ⟨si,rfl,by omega,by omega,dx,hd,bn,by rw[DJ];exact hP,aG⟩,rfl,by omega⟩
    ·rw[if_neg hB]at Bb
     subst Bb
     simp -implicitDefEqProofs (maxSteps:=1000000) (disch:=omega) only[aa,aw,ax,ay,aA,aB,aC,wA,bm,wS,bj,wM,S2,op,ef,cl,sq,reduceIte,j2,j3,j4,j5,j6,j7,j8,j9,y1,S1,h0,h1,h2,h3,h9,aU,hB]
     exact⟨j+1,by omega,.i ⟨si,rfl,by omega,by omega,d4,hd,xG,by rw[DJ];exact hP,aG⟩,rfl,by omega⟩
 ·rintro R H1⟨di,hd,bn,hP,aG⟩
  simp -implicitDefEqProofs only[op,ef,cl,sq,reduceIte,j2,j3,j4,j5,j6,j7,j8,j9,y1,S1]
  rw[←hP]
  exact⟨rfl,di,hd,bn,rfl,aG⟩
theorem mW (a b:Nm):aH a b=true↔strLt a.1 b.1=true∨(a.1=b.1∧a.2<b.2):=by
 unfold aH cL IV xu xv
 rw[decide_eq_true_eq]
 cases h1:strLt a.1 b.1
 ·cases h2:strLt b.1 a.1
  ·have e:=uf h1 h2
   simp -implicitDefEqProofs only[Bool.false_eq_true,if_false,if_true,false_or,e,true_and]
   split
   ·simp[*]
   ·split<;>simp[*]
  ·have ba:a.1≠b.1:=by intro e;rw[e,iX]at h2;cases h2
   simp[ba]
 ·simp
theorem lj (a:Nm):aH a a=false:=by
 cases h:aH a a with
 | false=>rfl
 | true=>rcases(mW a a).1 h with h|h;rw[iX]at h;cases h;omega
theorem lY {a b c:Nm}(h1:aH a b=true)(h2:aH b c=true):aH a c=true:=by
 rw[mW]at h1 h2 ⊢
 rcases h1 with h1|⟨e1,h1⟩<;>rcases h2 with h2|⟨e2,h2⟩
 ·exact .inl (fu h1 h2)
 ·exact .inl (e2▸h1)
 ·exact .inl (e1▸h2)
 ·exact .inr ⟨e1.trans e2,by omega⟩
theorem vW {a b:Nm}(h1:aH a b=false)(h2:aH b a=false):a=b:=by
 have n1:¬(strLt a.1 b.1=true∨(a.1=b.1∧a.2<b.2)):=fun h=>by rw[(mW a b).2 h]at h1;cases h1
 have n2:¬(strLt b.1 a.1=true∨(b.1=a.1∧b.2<a.2)):=fun h=>by rw[(mW b a).2 h]at h2;cases h2
 have e1:a.1=b.1:=uf (by cases h:strLt a.1 b.1 with|false=>rfl|true=>exact absurd (.inl h) n1) (by cases h:strLt b.1 a.1 with|false=>rfl|true=>exact absurd (.inl h) n2)
 have q1:¬a.2<b.2:=fun h=>n1 (.inr ⟨e1,h⟩)
 have q2:¬b.2<a.2:=fun h=>n2 (.inr ⟨e1.symm,h⟩)
 exact Prod.ext e1 (by omega)
theorem mX:Go.Sort.SWO aH where
 irrefl:=lj
 trans _ _ _ h1 h2:=lY h1 h2
 ntrans x y z h1 h2:=by
  cases h:aH x z with
  | false=>rfl
  | true =>
   cases h3:aH y x with
   | true=>rw[lY h3 h]at h2;cases h2
   | false=>have:=vW h1 h3;subst this;rw[h]at h2;cases h2
theorem HI (H:ae):W env (.call 80 [.sl .nil [],.int .i64 0,.int .i64 0,.fn 40 []]) H (oZ (.bE []) H):=by
 refine W.cJ rfl rfl rfl ?_
 have wa:IntKind.i64.wrap ((0:Int)+1)=1:=by decide
 simp -implicitDefEqProofs only[Dp,op,ef,cl,sq,reduceIte,j2,j3,j4,j5,j6,j7,j8,j9,y1,S1,wa]
 refine W.cZ (fun (_:Nat) R H'=>H'=H∧R 2=.int .i64 0∧R 8=.int .i64 1) (fun _=>0) 0 ⟨rfl,rfl,rfl⟩ ?_
 rintro _ R _⟨rfl,h2,h8⟩
 have l0:¬((1:Int)<0):=by decide
 simp -implicitDefEqProofs only[op,ef,cl,sq,reduceIte,j2,j3,j4,j5,j6,j7,j8,j9,y1,S1,h2,h8,l0]
 trivial
theorem P3 (m:Nat)(H:ae):W env (.call 69 [.sl .nil [],.int .i64 0,.int .i64 0,.int .i64 m,.fn 40 []]) H (oZ (.bE []) H):=by
 refine W.cJ rfl rfl rfl ?_
 have w1:IntKind.i64.wrap ((0:Int)-0)=0:=by decide
 simp -implicitDefEqProofs only[fR,op,ef,cl,sq,reduceIte,j2,j3,j4,j5,j6,j7,j8,j9,y1,S1]
 refine W.cZ (fun (_:Nat) R H'=>H'=H∧R 0=.sl .nil []∧R 1=.int .i64 0∧R 2=.int .i64 0∧R 4=.fn 40 []) (fun _=>0) 0 ⟨rfl,rfl,rfl,rfl,rfl⟩ ?_
 rintro _ R _⟨rfl,h0,h1,h2,h4⟩
 have l0:(0:Int)≤12:=by decide
 simp -implicitDefEqProofs only[op,ef,cl,sq,reduceIte,j2,j3,j4,j5,j6,j7,j8,j9,y1,S1,h0,h1,h2,h4,w1,l0]
 refine af _ _ _ _ _ _ _ _ (HI _) ?_
 rintro u H2⟨hu,rfl⟩
 cases hu
 simp -implicitDefEqProofs only[op,ef,cl,sq,reduceIte,j2,j3,j4,j5,j6,j7,j8,j9,y1,S1]
 trivial
theorem Ll (H:ae):W env (.call 51 [.sl .nil [],.fn 40 []]) H (oZ (.bE []) H):=by
 refine W.cJ rfl rfl rfl ?_
 have w1:IntKind.u64.wrap ((0:Nat):Int)=((0:Nat):Int):=by decide
 have e0:((0:Nat):Int)=0:=rfl
 simp -implicitDefEqProofs only[Dm,op,ef,cl,sq,reduceIte,j2,j3,j4,j5,j6,j7,j8,j9,y1,S1,w1]
 refine af _ _ _ _ _ _ _ _ (PX 0 (by omega) _) ?_
 rintro u H1⟨rfl,m,hu⟩
 cases hu
 simp -implicitDefEqProofs only[op,ef,cl,sq,reduceIte,j2,j3,j4,j5,j6,j7,j8,j9,y1,S1,e0]
 refine af _ _ _ _ _ _ _ _ (P3 m _) ?_
 rintro u H2⟨hu,rfl⟩
 cases hu
 simp -implicitDefEqProofs only[op,ef,cl,sq,reduceIte,j2,j3,j4,j5,j6,j7,j8,j9,y1,S1]
 trivial
def Lm (es:List (Nm×T))(H:ae):Out→ae→Prop:=fun o H'=>Ext H H'∧∃t l,o=.val t∧dM eN 2 H.length H' t l∧l.Perm (es.map (·.1))∧l.Pairwise (fun a b=>aH a b=true)
set_option maxHeartbeats 8000000
def fk:C→Nat→Option C
 | .block id a,n=>if id=n then some a else fk a n
 | .seq a b,n=>match fk a n with|some c=>some c | .none=>fk b n
 | .cond _ a b,n=>match fk a n with|some c=>some c | .none=>fk b n
 | .loop a,n=>fk a n
 | _,_=>.none
def jd:C→Nat→C
 | .seq a _,0=>a
 | .seq _ b,k+1=>jd b k
 | c,_=>c
structure PR (R:aj)(c n a b dR:Nat)(wb wp:Bool):Prop where
 r0:R 0=.aE c 0 n 2
 r1:R 1=.int .i64 a
 r2:R 2=.int .i64 b
 r3:R 3=.int .i64 dR
 r4:R 4=.fn 40 []
 VU:R 10=.bool wb
 VV:R 11=.bool wp
 MM:R 12=.int .i64 (b-a:Nat)
open Go.Sort in
theorem P4 (A:C)(hA:(fk fR.body 1).map (jd · 3)=some A)(c n a b dR:Nat)(wb wp:Bool)(d:Array Nm)(R:aj)(H0 H:ae)(K:Out→ae→Prop)(hp:PR R c n a b dR wb wp)(hd:SC c n H0 (fun x=>x=d) H)(hb:b≤n)(oM:a+12<b)(hs:n<16777216)(hl:1≤dR∧dR<1000)
  (rest:∀R' H',PR R' c n a b (if (!wb)=true then dR-1 else dR) wb wp→SC c n H0 (fun x=>x=if (!wb)=true then breakPatterns d a b else d) H'→K (.ex .normal R') H'):ft env A R H K:=by
 simp[fR,fk,jd,sq]at hA
 subst hA
 obtain⟨h0,h1,h2,h3,h4,aU,bD,aQ⟩:=hp
 obtain⟨di,hc,hn,rfl,aG⟩:=hd
 cases wb with
 | true =>
  simp -implicitDefEqProofs (maxSteps:=1000000) (disch:=omega) only[op,ef,cl,sq,reduceIte,j2,j3,j4,j5,j6,j7,j8,j9,y1,S1,h0,h1,h2,h3,h4,aU,bD,aQ]
  exact rest _ _ ⟨by simp -implicitDefEqProofs only[op,ef,cl,sq,reduceIte,j2,j3,j4,j5,j6,j7,j8,j9,y1,S1,h0],by simp -implicitDefEqProofs only[op,ef,cl,sq,reduceIte,j2,j3,j4,j5,j6,j7,j8,j9,y1,S1,h1],by simp -implicitDefEqProofs only[op,ef,cl,sq,reduceIte,j2,j3,j4,j5,j6,j7,j8,j9,y1,S1,h2],by simp -implicitDefEqProofs only[op,ef,cl,sq,reduceIte,j2,j3,j4,j5,j6,j7,j8,j9,y1,S1,h3],by simp -implicitDefEqProofs only[op,ef,cl,sq,reduceIte,j2,j3,j4,j5,j6,j7,j8,j9,y1,S1,h4],by simp -implicitDefEqProofs only[op,ef,cl,sq,reduceIte,j2,j3,j4,j5,j6,j7,j8,j9,y1,S1,aU],by simp -implicitDefEqProofs only[op,ef,cl,sq,reduceIte,j2,j3,j4,j5,j6,j7,j8,j9,y1,S1,bD],by simp -implicitDefEqProofs only[op,ef,cl,sq,reduceIte,j2,j3,j4,j5,j6,j7,j8,j9,y1,S1,aQ]⟩ ⟨di,hc,hn,rfl,aG⟩
 | false =>
  simp -implicitDefEqProofs (maxSteps:=1000000) (disch:=omega) only[op,ef,cl,sq,reduceIte,j2,j3,j4,j5,j6,j7,j8,j9,y1,S1,h0,h1,h2,h3,h4,aU,bD,aQ]
  refine af _ _ _ _ _ _ _ _ (DH c n di a b _ hn hc hb oM hs) ?_
  rintro u H2⟨hu,d2,cw,oN,e2,jA⟩
  cases hu
  simp -implicitDefEqProofs (maxSteps:=1000000) (disch:=omega) only[aa,aw,ax,ay,aA,aB,aC,wA,bm,wS,bj,wM,S2,op,ef,cl,sq,reduceIte,j2,j3,j4,j5,j6,j7,j8,j9,y1,S1,h0,h1,h2,h3,h4,aU,bD,aQ]
  exact rest _ _ ⟨by simp -implicitDefEqProofs only[op,ef,cl,sq,reduceIte,j2,j3,j4,j5,j6,j7,j8,j9,y1,S1,h0],by simp -implicitDefEqProofs only[op,ef,cl,sq,reduceIte,j2,j3,j4,j5,j6,j7,j8,j9,y1,S1,h1],by simp -implicitDefEqProofs only[op,ef,cl,sq,reduceIte,j2,j3,j4,j5,j6,j7,j8,j9,y1,S1,h2],by simp -implicitDefEqProofs only[op,ef,cl,sq,reduceIte,j2,j3,j4,j5,j6,j7,j8,j9,y1,S1],by simp -implicitDefEqProofs only[op,ef,cl,sq,reduceIte,j2,j3,j4,j5,j6,j7,j8,j9,y1,S1,h4],by simp -implicitDefEqProofs only[op,ef,cl,sq,reduceIte,j2,j3,j4,j5,j6,j7,j8,j9,y1,S1,aU],by simp -implicitDefEqProofs only[op,ef,cl,sq,reduceIte,j2,j3,j4,j5,j6,j7,j8,j9,y1,S1,bD],by simp -implicitDefEqProofs only[op,ef,cl,sq,reduceIte,j2,j3,j4,j5,j6,j7,j8,j9,y1,S1,aQ]⟩ ⟨d2,cw,oN,e2,aG.trans jA fun _ h=>.inl h⟩
open Go.Sort in
theorem P5 (A:C)(hA:(fk fR.body 1).map (jd · 5)=some A)(c n a b dR:Nat)(wb wp:Bool)(d:Array Nm)(pv:Nat)(hi:Hint)(R:aj)(H0 H:ae)(K:Out→ae→Prop)(hp:PR R c n a b dR wb wp)(b9:R 13=.int .i64 pv)(uF:R 14=.int .i64 (mq hi))(hd:SC c n H0 (fun x=>x=d) H)(hb:b≤n)(oM:a+12<b)(hs:n<16777216)(qM:a≤pv∧pv<b)
  (rest:∀R' H',PR R' c n a b dR wb wp→R' 13=.int .i64 (if hi=.decreasing then(b-1)-(pv-a)else pv:Nat)→R' 14=.int .i64 (mq (if hi=.decreasing then Hint.increasing else hi))→SC c n H0 (fun x=>x=if hi=.decreasing then reverseRange d a b else d) H'→K (.ex .normal R') H'):ft env A R H K:=by
 simp[fR,fk,jd,sq]at hA
 subst hA
 obtain⟨h0,h1,h2,h3,h4,aU,bD,aQ⟩:=hp
 obtain⟨di,hc,hn,rfl,aG⟩:=hd
 have e:((mq hi)==2)=decide (hi=.decreasing):=by cases hi<;>decide
 by_cases hh:hi=.decreasing
 ·rw[decide_eq_true hh]at e
  simp -implicitDefEqProofs (maxSteps:=1000000) (disch:=omega) only[op,ef,cl,sq,reduceIte,j2,j3,j4,j5,j6,j7,j8,j9,y1,S1,h0,h1,h2,h3,h4,aU,bD,aQ,b9,uF,e]
  refine af _ _ _ _ _ _ _ _ (K7 c n di a b _ hn hc hb (by omega) (by omega)) ?_
  rintro u H2⟨hu,d2,cw,oN,e2,jA⟩
  cases hu
  simp -implicitDefEqProofs (maxSteps:=1000000) (disch:=omega) only[aa,aw,ax,ay,aA,aB,aC,wA,bm,wS,bj,wM,S2,op,ef,cl,sq,reduceIte,j2,j3,j4,j5,j6,j7,j8,j9,y1,S1,h0,h1,h2,h3,h4,aU,bD,aQ,b9,uF]
  refine rest _ _ ⟨?_,?_,?_,?_,?_,?_,?_,?_⟩ ?_ ?_ ⟨d2,cw,oN,?_,aG.trans jA fun _ h=>.inl h⟩
  all_goals simp -implicitDefEqProofs only[op,ef,cl,sq,reduceIte,j2,j3,j4,j5,j6,j7,j8,j9,y1,S1,h0,h1,h2,h3,h4,aU,bD,aQ,if_pos hh,mq]
  exact e2
 ·rw[decide_eq_false hh]at e
  simp -implicitDefEqProofs (maxSteps:=1000000) (disch:=omega) only[op,ef,cl,sq,reduceIte,j2,j3,j4,j5,j6,j7,j8,j9,y1,S1,h0,h1,h2,h3,h4,aU,bD,aQ,b9,uF,e]
  refine rest _ _ ⟨?_,?_,?_,?_,?_,?_,?_,?_⟩ ?_ ?_ ⟨di,hc,hn,?_,aG⟩
  all_goals simp -implicitDefEqProofs only[op,ef,cl,sq,reduceIte,j2,j3,j4,j5,j6,j7,j8,j9,y1,S1,h0,h1,h2,h3,h4,aU,bD,aQ,b9,uF,if_neg hh]
open Go.Sort in
theorem P6 (A:C)(hA:(fk fR.body 1).map (jd · 6)=some A)(c n a b dR:Nat)(wb wp:Bool)(d:Array Nm)(pv:Nat)(hi:Hint)(R:aj)(H0 H:ae)(K:Out→ae→Prop)(hp:PR R c n a b dR wb wp)(b9:R 13=.int .i64 pv)(uF:R 14=.int .i64 (mq hi))(hd:SC c n H0 (fun x=>x=d) H)(hb:b≤n)(oM:a+12<b)(hs:n<16777216)
  (pi:Array Nm×Bool) (Ln:pi=if (wb&&wp&&hi=.increasing)=true then partialInsertionSort aH d a b else(d,false))
  (oB:∀R' H',pi.2=true→SC c n H0 (fun x=>x=pi.1) H'→K (.ex .ret R') H')
  (lk:∀R' H',pi.2=false→PR R' c n a b dR wb wp→R' 13=.int .i64 pv→SC c n H0 (fun x=>x=pi.1) H'→K (.ex .normal R') H'):ft env A R H K:=by
 simp[fR,fk,jd,sq]at hA
 subst hA
 obtain⟨h0,h1,h2,h3,h4,aU,bD,aQ⟩:=hp
 obtain⟨di,hc,hn,rfl,aG⟩:=hd
 have e:((mq hi)==1)=decide (hi=.increasing):=by cases hi<;>decide
 have no:(wb&&wp&&decide (hi=.increasing))=false→∀R',PR R' c n a b dR wb wp→R' 13=.int .i64 pv→K (.ex .normal R') H:=fun h R' q q'=>lk R' H (by rw[Ln,h];rfl) q q' ⟨di,hc,hn,by rw[Ln,h];rfl,aG⟩
 cases wb with
 | false =>
  simp -implicitDefEqProofs only[op,ef,cl,sq,reduceIte,j2,j3,j4,j5,j6,j7,j8,j9,y1,S1,h0,h1,h2,h3,h4,aU,bD,aQ,b9,uF]
  refine no rfl _ ⟨?_,?_,?_,?_,?_,?_,?_,?_⟩ ?_
  all_goals simp -implicitDefEqProofs only[op,ef,cl,sq,reduceIte,j2,j3,j4,j5,j6,j7,j8,j9,y1,S1,h0,h1,h2,h3,h4,aU,bD,aQ,b9]
 | true =>
  cases wp with
  | false =>
   simp -implicitDefEqProofs only[op,ef,cl,sq,reduceIte,j2,j3,j4,j5,j6,j7,j8,j9,y1,S1,h0,h1,h2,h3,h4,aU,bD,aQ,b9,uF]
   refine no rfl _ ⟨?_,?_,?_,?_,?_,?_,?_,?_⟩ ?_
   all_goals simp -implicitDefEqProofs only[op,ef,cl,sq,reduceIte,j2,j3,j4,j5,j6,j7,j8,j9,y1,S1,h0,h1,h2,h3,h4,aU,bD,aQ,b9]
  | true =>
   by_cases hh:hi=.increasing
   ·rw[decide_eq_true hh]at e
    rw[decide_eq_true hh]at Ln
    simp -implicitDefEqProofs only[op,ef,cl,sq,reduceIte,j2,j3,j4,j5,j6,j7,j8,j9,y1,S1,h0,h1,h2,h3,h4,aU,bD,aQ,b9,uF,e]
    refine af _ _ _ _ _ _ _ _ (HH c n di a b _ hn hc hb (by omega) (by omega)) ?_
    rintro u H2⟨hu,d2,cw,oN,e2,jA⟩
    cases hu
    rw[if_pos (show(true&&true&&true)=true from rfl)]at Ln
    rw[←Ln]at e2 ⊢
    cases ki:pi.2 with
    | true =>
     simp -implicitDefEqProofs only[op,ef,cl,sq,reduceIte,j2,j3,j4,j5,j6,j7,j8,j9,y1,S1]
     exact oB _ _ ki ⟨d2,cw,oN,e2,aG.trans jA fun _ h=>.inl h⟩
    | false =>
     simp -implicitDefEqProofs only[op,ef,cl,sq,reduceIte,j2,j3,j4,j5,j6,j7,j8,j9,y1,S1]
     refine lk _ _ ki ⟨?_,?_,?_,?_,?_,?_,?_,?_⟩ ?_ ⟨d2,cw,oN,e2,aG.trans jA fun _ h=>.inl h⟩
     all_goals simp -implicitDefEqProofs only[op,ef,cl,sq,reduceIte,j2,j3,j4,j5,j6,j7,j8,j9,y1,S1,h0,h1,h2,h3,h4,aU,bD,aQ,b9]
   ·rw[decide_eq_false hh]at e
    simp -implicitDefEqProofs only[op,ef,cl,sq,reduceIte,j2,j3,j4,j5,j6,j7,j8,j9,y1,S1,h0,h1,h2,h3,h4,aU,bD,aQ,b9,uF,e]
    refine no (by rw[decide_eq_false hh];rfl) _ ⟨?_,?_,?_,?_,?_,?_,?_,?_⟩ ?_
    all_goals simp -implicitDefEqProofs only[op,ef,cl,sq,reduceIte,j2,j3,j4,j5,j6,j7,j8,j9,y1,S1,h0,h1,h2,h3,h4,aU,bD,aQ,b9]
open Go.Sort in
theorem P7 (A:C)(hA:(fk fR.body 1).map (jd · 7)=some A)(c n a b dR:Nat)(wb wp:Bool)(d:Array Nm)(pv:Nat)(R:aj)(H0 H:ae)(K:Out→ae→Prop)(hp:PR R c n a b dR wb wp)(b9:R 13=.int .i64 pv)(hd:SC c n H0 (fun x=>x=d) H)(hb:b≤n)(oM:a+12<b)(hs:n<16777216)(qM:a≤pv∧pv<b)
  (oB:∀R' H',(a>0&&!aH d[a-1]! d[pv]!)=true→R' 0=.aE c 0 n 2→R' 1=.int .i64 (partitionEqual aH d a b pv).1→R' 2=.int .i64 b→R' 3=.int .i64 dR→R' 4=.fn 40 []→R' 10=.bool wb→R' 11=.bool wp→SC c n H0 (fun x=>x=(partitionEqual aH d a b pv).2) H'→K (.ex (.exit 1) R') H')
  (lk:∀R' H',(a>0&&!aH d[a-1]! d[pv]!)=false→PR R' c n a b dR wb wp→R' 13=.int .i64 pv→SC c n H0 (fun x=>x=d) H'→K (.ex .normal R') H'):ft env A R H K:=by
 simp[fR,fk,jd,sq]at hA
 subst hA
 obtain⟨h0,h1,h2,h3,h4,aU,bD,aQ⟩:=hp
 obtain⟨di,hd,hn,rfl,aG⟩:=hd
 have lc:=a6 hd
 by_cases ha:0<a
 ·simp -implicitDefEqProofs (maxSteps:=1000000) (disch:=omega) only[aa,aw,ax,ay,aA,aB,aC,wA,bm,wS,bj,wM,S2,op,ef,cl,sq,reduceIte,j2,j3,j4,j5,j6,j7,j8,j9,y1,S1,h0,h1,h2,h3,h4,aU,bD,aQ,b9,ha,hd,lc]
  refine iW _ _ _ _ _ _ _ (by simp -implicitDefEqProofs (maxSteps:=1000000) (disch:=omega) only[aa,aw,ax,ay,aA,aB,aC,wA,bm,wS,bj,wM,S2,op,ef,cl,sq,reduceIte,j2,j3,j4,j5,j6,j7,j8,j9,y1,S1,h0,h1,h2,h3,h4,aU,bD,aQ,b9,ha,hd,lc]) ?_
  simp -implicitDefEqProofs (maxSteps:=1000000) (disch:=omega) only[aa,aw,ax,ay,aA,aB,aC,wA,bm,wS,bj,wM,S2,op,ef,cl,sq,reduceIte,j2,j3,j4,j5,j6,j7,j8,j9,y1,S1,bK,h0,h1,h2,h3,h4,aU,bD,aQ,b9,ha,hd,lc,List.append_nil]
  refine af _ _ _ _ _ _ _ _ (bC di[a-1]! di[pv]! _) ?_
  rintro u H3⟨hu,hx⟩
  cases hu
  have hx:Ext H H3:=hx
  have hd:=hx.get hd
  have lc:=a6 hd
  have aG:=aG.trans (aK (F:=fun _=>False) hx) (fun _ h=>h.elim)
  have gu:aH di[a-1]! di[pv]! = decide (cL di[a-1]! di[pv]!<0):=rfl
  by_cases c1:cL di[a-1]! di[pv]!<0
  ·simp -implicitDefEqProofs (maxSteps:=1000000) (disch:=omega) only[aa,aw,ax,ay,aA,aB,aC,wA,bm,wS,bj,wM,S2,op,ef,cl,sq,reduceIte,j2,j3,j4,j5,j6,j7,j8,j9,y1,S1,h0,h1,h2,h3,h4,aU,bD,aQ,b9,ha,hd,lc,c1]
   refine lk _ _ (by rw[gu,eb c1];simp) ⟨?_,?_,?_,?_,?_,?_,?_,?_⟩ ?_ ⟨di,hd,hn,rfl,aG⟩
   all_goals simp -implicitDefEqProofs only[op,ef,cl,sq,reduceIte,j2,j3,j4,j5,j6,j7,j8,j9,y1,S1,h0,h1,h2,h3,h4,aU,bD,aQ,b9]
  ·simp -implicitDefEqProofs (maxSteps:=1000000) (disch:=omega) only[aa,aw,ax,ay,aA,aB,aC,wA,bm,wS,bj,wM,S2,op,ef,cl,sq,reduceIte,j2,j3,j4,j5,j6,j7,j8,j9,y1,S1,h0,h1,h2,h3,h4,aU,bD,aQ,b9,ha,hd,lc,c1]
   refine af _ _ _ _ _ _ _ _ (Li c n di a b pv _ hn hd hb (by omega) (by omega) (by omega)) ?_
   rintro u H4⟨hu,d2,cw,oN,e2,jA⟩
   cases hu
   simp -implicitDefEqProofs only[op,ef,cl,sq,reduceIte,j2,j3,j4,j5,j6,j7,j8,j9,y1,S1]
   refine oB _ _ (by rw[gu,dQ c1];simp;exact ha) ?_ ?_ ?_ ?_ ?_ ?_ ?_ ⟨d2,cw,oN,e2,aG.trans jA fun _ h=>.inl h⟩
   all_goals simp -implicitDefEqProofs only[op,ef,cl,sq,reduceIte,j2,j3,j4,j5,j6,j7,j8,j9,y1,S1,h0,h1,h2,h3,h4,aU,bD,aQ,b9]
 ·simp -implicitDefEqProofs only[op,ef,cl,sq,reduceIte,j2,j3,j4,j5,j6,j7,j8,j9,y1,S1,h0,h1,h2,h3,h4,aU,bD,aQ,b9,ha]
  refine lk _ _ (by rw[decide_eq_false ha];rfl) ⟨?_,?_,?_,?_,?_,?_,?_,?_⟩ ?_ ⟨di,hd,hn,rfl,aG⟩
  all_goals simp -implicitDefEqProofs only[op,ef,cl,sq,reduceIte,j2,j3,j4,j5,j6,j7,j8,j9,y1,S1,h0,h1,h2,h3,h4,aU,bD,aQ,b9]
set_option maxHeartbeats 8000000
def HJ:C→Nat→C
 | c,0=>c
 | .seq _ b,k+1=>HJ b k
 | c,_=>c
open Go.Sort in
theorem Bc {d d1 d2:Array Nm}{a b dR jB pv:Nat}{wb wp:Bool}{cp:Nat×Hint}{hi:Hint}{pi:Array Nm×Bool}(aQ:¬b-a≤12)(hl:¬dR=0)
  (e1:d1=if (!wb)=true then breakPatterns d a b else d) (el:jB=if (!wb)=true then dR-1 else dR) (ec:cp=choosePivot aH d1 a b) (e2:d2=if cp.2=.decreasing then reverseRange d1 a b else d1)
  (ep:pv=if cp.2=.decreasing then(b-1)-(cp.1-a)else cp.1) (eh:hi=if cp.2=.decreasing then .increasing else cp.2) (MN:pi=if (wb&&wp&&hi=.increasing)=true then partialInsertionSort aH d2 a b else(d2,false)) :
  pdq aH d a b dR wb wp=if pi.2=true then pi.1 else if (a>0&&!aH pi.1[a-1]! pi.1[pv]!)=true then(if a<(partitionEqual aH pi.1 a b pv).1∧(partitionEqual aH pi.1 a b pv).1≤b then pdq aH (partitionEqual aH pi.1 a b pv).2 (partitionEqual aH pi.1 a b pv).1 b jB wb wp else(partitionEqual aH pi.1 a b pv).2)
   else(if a≤(partition aH pi.1 a b pv).1∧(partition aH pi.1 a b pv).1<b then if (partition aH pi.1 a b pv).1-a<b-(partition aH pi.1 a b pv).1 then pdq aH (pdq aH (partition aH pi.1 a b pv).2.2 a (partition aH pi.1 a b pv).1 jB true true) ((partition aH pi.1 a b pv).1+1) b jB (decide ((partition aH pi.1 a b pv).1-a≥(b-a)/8)) (partition aH pi.1 a b pv).2.1
    else pdq aH (pdq aH (partition aH pi.1 a b pv).2.2 ((partition aH pi.1 a b pv).1+1) b jB true true) a (partition aH pi.1 a b pv).1 jB (decide (b-(partition aH pi.1 a b pv).1≥(b-a)/8)) (partition aH pi.1 a b pv).2.1 else(partition aH pi.1 a b pv).2.2):=by
 subst MN eh ep e2 ec el e1
 rw[pdq,if_neg aQ,if_neg hl]
 rfl
open Go.Sort in
theorem xH (d:Array Nm){a b pv:Nat}(h1:a≤pv)(h2:pv<b)(hb:b≤d.size):a<(partitionEqual aH d a b pv).1∧(partitionEqual aH d a b pv).1≤b:=by
 have:=partEqLoop_spec (lt:=aH) a b b (a+1) (b-1) (swp d a pv) (by omega) (by omega) (by omega) (by omega) (by rw[swp_size];exact hb) (fun t h h'=>by omega) (fun t h h'=>by omega)
 exact⟨this.1,this.2.1⟩
theorem P8 (A:C)(hA:(fk fR.body 1).map (jd · 0)=some A)(c n a b dR:Nat)(wb wp:Bool)(R:aj)(H:ae)(K:Out→ae→Prop)(h0:R 0=.aE c 0 n 2)(h1:R 1=.int .i64 a)(h2:R 2=.int .i64 b)(h3:R 3=.int .i64 dR)(h4:R 4=.fn 40 [])(aU:R 10=.bool wb)(bD:R 11=.bool wp)(oM:a≤b)(hb:b<16777216)
  (rest:∀R',PR R' c n a b dR wb wp→K (.ex .normal R') H):ft env A R H K:=by
 simp[fR,fk,jd,sq]at hA
 subst hA
 simp -implicitDefEqProofs (maxSteps:=1000000) (disch:=omega) only[aa,aw,ax,ay,aA,aB,aC,wA,bm,wS,bj,wM,S2,op,ef,cl,sq,reduceIte,j2,j3,j4,j5,j6,j7,j8,j9,y1,S1,h0,h1,h2,h3,h4,aU,bD]
 refine rest _ ⟨?_,?_,?_,?_,?_,?_,?_,?_⟩
 all_goals simp -implicitDefEqProofs only[op,ef,cl,sq,reduceIte,j2,j3,j4,j5,j6,j7,j8,j9,y1,S1,h0,h1,h2,h3,h4,aU,bD]
open Go.Sort in
theorem P9 (A:C)(hA:(fk fR.body 1).map (jd · 1)=some A)(c n a b dR:Nat)(wb wp:Bool)(d:Array Nm)(R:aj)(H0 H:ae)(K:Out→ae→Prop)(hp:PR R c n a b dR wb wp)(hd:SC c n H0 (fun x=>x=d) H)(hb:b≤n)(oM:a≤b)(hs:n<16777216)
  (oB:∀R' H',b-a≤12→SC c n H0 (fun x=>x=insertionSort aH d a b) H'→K (.ex .ret R') H')
  (lk:∀R',¬b-a≤12→PR R' c n a b dR wb wp→K (.ex .normal R') H):ft env A R H K:=by
 simp[fR,fk,jd,sq]at hA
 subst hA
 obtain⟨h0,h1,h2,h3,h4,aU,bD,aQ⟩:=hp
 obtain⟨di,hc,hn,rfl,aG⟩:=hd
 by_cases hle:b-a≤12
 ·simp -implicitDefEqProofs only[op,ef,cl,sq,reduceIte,j2,j3,j4,j5,j6,j7,j8,j9,y1,S1,h0,h1,h2,h3,h4,aU,bD,aQ,hle]
  have hi:=K5 c di a b H hc (by omega) oM (by omega)
  rw[hn]at hi
  refine af _ _ _ _ _ _ _ _ hi ?_
  rintro u H2⟨hu,cw,jA⟩
  cases hu
  simp -implicitDefEqProofs only[op,ef,cl,sq,reduceIte,j2,j3,j4,j5,j6,j7,j8,j9,y1,S1]
  exact oB _ _ hle ⟨_,cw,by rw[(insertionSort_holds mX di a b oM (by omega)).1.1];exact hn,rfl,aG.trans jA fun _ h=>.inl h⟩
 ·simp -implicitDefEqProofs only[op,ef,cl,sq,reduceIte,j2,j3,j4,j5,j6,j7,j8,j9,y1,S1,h0,h1,h2,h3,h4,aU,bD,aQ,hle]
  refine lk _ hle ⟨?_,?_,?_,?_,?_,?_,?_,?_⟩
  all_goals simp -implicitDefEqProofs only[op,ef,cl,sq,reduceIte,j2,j3,j4,j5,j6,j7,j8,j9,y1,S1,h0,h1,h2,h3,h4,aU,bD,aQ]
open Go.Sort in
theorem Qa (A:C)(hA:(fk fR.body 1).map (jd · 2)=some A)(c n a b dR:Nat)(wb wp:Bool)(d:Array Nm)(R:aj)(H0 H:ae)(K:Out→ae→Prop)(hp:PR R c n a b dR wb wp)(hd:SC c n H0 (fun x=>x=d) H)(hb:b≤n)(oM:a+12<b)(hs:n<16777216)
  (oB:∀R' H',dR=0→SC c n H0 (fun x=>x=heapSort aH d a b) H'→K (.ex .ret R') H')
  (lk:∀R',¬dR=0→PR R' c n a b dR wb wp→K (.ex .normal R') H):ft env A R H K:=by
 simp[fR,fk,jd,sq]at hA
 subst hA
 obtain⟨h0,h1,h2,h3,h4,aU,bD,aQ⟩:=hp
 obtain⟨di,hc,hn,rfl,aG⟩:=hd
 by_cases hl:dR=0
 ·subst hl
  have e:(((0:Nat):Int)==0)=true:=rfl
  simp -implicitDefEqProofs only[op,ef,cl,sq,reduceIte,j2,j3,j4,j5,j6,j7,j8,j9,y1,S1,h0,h1,h2,h3,h4,aU,bD,aQ,e]
  refine af _ _ _ _ _ _ _ _ (HB c n di a b _ hn hc hb (by omega) (by omega)) ?_
  rintro u H2⟨hu,d2,cw,oN,e2,jA⟩
  cases hu
  simp -implicitDefEqProofs only[op,ef,cl,sq,reduceIte,j2,j3,j4,j5,j6,j7,j8,j9,y1,S1]
  exact oB _ _ rfl ⟨_,cw,oN,e2,aG.trans jA fun _ h=>.inl h⟩
 ·have e:((dR:Int)==0)=false:=by simp;omega
  simp -implicitDefEqProofs only[op,ef,cl,sq,reduceIte,j2,j3,j4,j5,j6,j7,j8,j9,y1,S1,h0,h1,h2,h3,h4,aU,bD,aQ,e]
  refine lk _ hl ⟨?_,?_,?_,?_,?_,?_,?_,?_⟩
  all_goals simp -implicitDefEqProofs only[op,ef,cl,sq,reduceIte,j2,j3,j4,j5,j6,j7,j8,j9,y1,S1,h0,h1,h2,h3,h4,aU,bD,aQ]
open Go.Sort in
theorem Qb (A:C)(hA:(fk fR.body 1).map (jd · 4)=some A)(c n a b dR:Nat)(wb wp:Bool)(d:Array Nm)(R:aj)(H0 H:ae)(K:Out→ae→Prop)(hp:PR R c n a b dR wb wp)(hd:SC c n H0 (fun x=>x=d) H)(hb:b≤n)(oM:a+12<b)(hs:n<16777216)
  (rest:∀R' H',PR R' c n a b dR wb wp→R' 13=.int .i64 (choosePivot aH d a b).1→R' 14=.int .i64 (mq (choosePivot aH d a b).2)→SC c n H0 (fun x=>x=d) H'→K (.ex .normal R') H'):ft env A R H K:=by
 simp[fR,fk,jd,sq]at hA
 subst hA
 obtain⟨h0,h1,h2,h3,h4,aU,bD,aQ⟩:=hp
 obtain⟨di,hc,hn,rfl,aG⟩:=hd
 simp -implicitDefEqProofs only[op,ef,cl,sq,reduceIte,j2,j3,j4,j5,j6,j7,j8,j9,y1,S1,h0,h1,h2,h3,h4,aU,bD,aQ]
 refine af _ _ _ _ _ _ _ _ (A7 c n di a b _ hn hc hb oM (by omega)) ?_
 rintro u H2⟨hu,hx⟩
 cases hu
 simp -implicitDefEqProofs only[op,ef,cl,sq,reduceIte,j2,j3,j4,j5,j6,j7,j8,j9,y1,S1]
 refine rest _ _ ⟨?_,?_,?_,?_,?_,?_,?_,?_⟩ ?_ ?_ ⟨di,hx.get hc,hn,rfl,aG.trans (aK (F:=fun _=>False) hx) (fun _ h=>h.elim)⟩
 all_goals simp -implicitDefEqProofs only[op,ef,cl,sq,reduceIte,j2,j3,j4,j5,j6,j7,j8,j9,y1,S1,h0,h1,h2,h3,h4,aU,bD,aQ]
theorem RK {a:Nat}(h:a<9223372036854775808):IntKind.i64.wrap ((a:Int).tdiv 8)=((a/8:Nat):Int):=by rw[Int.tdiv_eq_ediv_of_nonneg (by omega),wrap64 (by omega)];omega
open Go.Sort in
theorem Qc (A:C)(hA:(fk fR.body 1).map (HJ · 8)=some A)(c n a b dR:Nat)(wb wp:Bool)(d:Array Nm)(pv:Nat)(R:aj)(H0 H:ae)(K:Out→ae→Prop)(hp:PR R c n a b dR wb wp)(b9:R 13=.int .i64 pv)(hd:SC c n H0 (fun x=>x=d) H)(hb:b≤n)(oM:a+12<b)(hs:n<16777216)(qM:a≤pv∧pv<b)
  (ih:∀a' b' (d':Array Nm) H',b'-a'<b-a→a'≤b'→b'≤n→d'.size=n→H'[c]?=some (.cells (aJ eN d'.toList))→W env (.call 69 [.aE c 0 n 2,.int .i64 a',.int .i64 b',.int .i64 dR,.fn 40 []]) H' (uy c n (pdq aH d' a' b' dR true true) H'))
  (rest:∀R' H' a' b' (d':Array Nm) (MO:Bool),a≤a'→a'≤b'→b'≤b→b'-a'<b-a→R' 0=.aE c 0 n 2→R' 1=.int .i64 (a':Nat)→R' 2=.int .i64 (b':Nat)→R' 3=.int .i64 dR→R' 4=.fn 40 []→R' 10=.bool MO→R' 11=.bool (partition aH d a b pv).2.1 →
   pdq aH d' a' b' dR MO (partition aH d a b pv).2.1=(if (partition aH d a b pv).1-a<b-(partition aH d a b pv).1 then pdq aH (pdq aH (partition aH d a b pv).2.2 a (partition aH d a b pv).1 dR true true) ((partition aH d a b pv).1+1) b dR (decide ((partition aH d a b pv).1-a≥(b-a)/8)) (partition aH d a b pv).2.1
    else pdq aH (pdq aH (partition aH d a b pv).2.2 ((partition aH d a b pv).1+1) b dR true true) a (partition aH d a b pv).1 dR (decide (b-(partition aH d a b pv).1≥(b-a)/8)) (partition aH d a b pv).2.1) →
   SC c n H0 (fun x=>x=d') H'→K (.ex .normal R') H'):ft env A R H K:=by
 simp[fR,fk,HJ,sq]at hA
 subst hA
 obtain⟨h0,h1,h2,h3,h4,aU,bD,aQ⟩:=hp
 obtain⟨di,hc,hn,rfl,aG⟩:=hd
 have mj:=partition_holds aH mX di a b pv qM.1 qM.2 (by omega)
 simp -implicitDefEqProofs only[op,ef,cl,sq,reduceIte,j2,j3,j4,j5,j6,j7,j8,j9,y1,S1,h0,h1,h2,h3,h4,aU,bD,aQ,b9]
 refine af _ _ _ _ _ _ _ _ (HG c n di a b pv _ hn hc hb (by omega) (by omega) (by omega)) ?_
 rintro u H2⟨hu,d2,cw,oN,e2,jA⟩
 cases hu
 generalize partition aH di a b pv=r at *
 obtain⟨mid,ap,d4⟩:=r
 simp only at mj e2 rest ⊢
 subst e2
 obtain⟨m1,m2,_⟩:=mj
 have o3:=aG.trans jA fun _ h=>.inl h
 by_cases au:mid-a<b-mid
 ·rw[if_pos au]at rest
  simp -implicitDefEqProofs (maxSteps:=1000000) (disch:=omega) only[aa,aw,ax,ay,aA,aB,aC,wA,bm,wS,bj,wM,S2,op,ef,cl,sq,reduceIte,j2,j3,j4,j5,j6,j7,j8,j9,y1,S1,RK,h0,h1,h2,h3,h4,aU,bD,aQ,b9,au]
  refine af _ _ _ _ _ _ _ _ (ih a mid d2 _ (by omega) m1 (by omega) oN cw) ?_
  rintro u H3⟨hu,d3,vV,Bx,e3,uC⟩
  cases hu
  simp -implicitDefEqProofs (maxSteps:=1000000) (disch:=omega) only[aa,aw,ax,ay,aA,aB,aC,wA,bm,wS,bj,wM,S2,op,ef,cl,sq,reduceIte,j2,j3,j4,j5,j6,j7,j8,j9,y1,S1,h0,h1,h2,h3,h4,aU,bD,aQ,b9]
  refine rest _ _ (mid+1) b d3 (decide ((b-a)/8≤mid-a)) (by omega) (by omega) (Nat.le_refl _) (by omega) ?_ ?_ ?_ ?_ ?_ ?_ ?_ (by rw[e3]) ⟨d3,vV,Bx,rfl,o3.trans uC fun _ h=>.inl h⟩
  all_goals simp -implicitDefEqProofs only[op,ef,cl,sq,reduceIte,j2,j3,j4,j5,j6,j7,j8,j9,y1,S1,h0,h1,h2,h3,h4,aU,bD,aQ]
 ·rw[if_neg au]at rest
  simp -implicitDefEqProofs (maxSteps:=1000000) (disch:=omega) only[aa,aw,ax,ay,aA,aB,aC,wA,bm,wS,bj,wM,S2,op,ef,cl,sq,reduceIte,j2,j3,j4,j5,j6,j7,j8,j9,y1,S1,RK,h0,h1,h2,h3,h4,aU,bD,aQ,b9,au]
  refine af _ _ _ _ _ _ _ _ (ih (mid+1) b d2 _ (by omega) m2 (by omega) oN cw) ?_
  rintro u H3⟨hu,d3,vV,Bx,e3,uC⟩
  cases hu
  simp -implicitDefEqProofs (maxSteps:=1000000) (disch:=omega) only[aa,aw,ax,ay,aA,aB,aC,wA,bm,wS,bj,wM,S2,op,ef,cl,sq,reduceIte,j2,j3,j4,j5,j6,j7,j8,j9,y1,S1,h0,h1,h2,h3,h4,aU,bD,aQ,b9]
  refine rest _ _ a mid d3 (decide ((b-a)/8≤b-mid)) (by omega) (by omega) (by omega) (by omega) ?_ ?_ ?_ ?_ ?_ ?_ ?_ (by rw[e3]) ⟨d3,vV,Bx,rfl,o3.trans uC fun _ h=>.inl h⟩
  all_goals simp -implicitDefEqProofs only[op,ef,cl,sq,reduceIte,j2,j3,j4,j5,j6,j7,j8,j9,y1,S1,h0,h1,h2,h3,h4,aU,bD,aQ]
set_option maxHeartbeats 8000000
open Go.Sort in
theorem Lo (c n:Nat)(hs:n<16777216):∀m a b dR (d:Array Nm) H,b-a=m→a≤b→b≤n→dR<1000→d.size=n→H[c]?=some (.cells (aJ eN d.toList)) →
  W env (.call 69 [.aE c 0 n 2,.int .i64 (a:Nat),.int .i64 (b:Nat),.int .i64 (dR:Nat),.fn 40 []]) H (uy c n (pdq aH d a b dR true true) H):=by
 intro m
 induction m using Nat.strongRecOn with
 | _ m ih =>
 intro a b dR d H hm oM hb UO hn hc
 subst hm
 refine W.cJ rfl rfl rfl ?_
 simp -implicitDefEqProofs only[fR,op,ef,cl,sq,reduceIte,j2,j3,j4,j5,j6,j7,j8,j9,y1,S1]
 refine W.cZ (fun (q:Nat×Nat×Nat×Bool×Bool) R H'=>At H' (fun H'=>SC c n H (fun di=>pdq aH di q.1 q.2.1 q.2.2.1 q.2.2.2.1 q.2.2.2.2=pdq aH d a b dR true true) H')∧R 0=.aE c 0 n 2∧R 1=.int .i64 q.1∧R 2=.int .i64 q.2.1∧R 3=.int .i64 q.2.2.1∧R 4=.fn 40 []∧R 10=.bool q.2.2.2.1∧R 11=.bool q.2.2.2.2∧a≤q.1∧q.1≤q.2.1∧q.2.1≤b∧q.2.2.1≤dR) (fun q=>q.2.1-q.1) (a,b,dR,true,true) ⟨.i ⟨d,hc,hn,rfl,bO.refl _ _⟩,rfl,rfl,rfl,rfl,rfl,rfl,rfl,Nat.le_refl _,oM,Nat.le_refl _,Nat.le_refl _⟩ ?_
 rintro⟨a1,b1,l1,wb,wp⟩ R H1 ⟨⟨di,hd,bn,hP,aG⟩,h0,h1,h2,h3,h4,aU,bD,q1,q2,q3,q4⟩
 simp only at hP h1 h2 h3 aU bD q1 q2 q3 q4 ⊢
 rw[qy,jQ]
 refine P8 _ rfl c n a1 b1 l1 wb wp R H1 _ h0 h1 h2 h3 h4 aU bD q2 (by omega) ?_
 intro R1 p1
 rw[gn,eu,jQ]
 refine P9 _ rfl c n a1 b1 l1 wb wp di R1 H H1 _ p1 ⟨di,hd,bn,rfl,aG⟩ (by omega) q2 hs ?_ ?_
 ·rintro R' H' hle⟨d',gT,gh,rfl,uT⟩
  rw[pdq,if_pos hle]at hP
  simp -implicitDefEqProofs only[op,ef,cl,sq,reduceIte,j2,j3,j4,j5,j6,j7,j8,j9,y1,S1]
  exact⟨rfl,_,gT,gh,hP,uT⟩
 intro R2 aQ p2
 rw[gn,eu,jQ]
 refine Qa _ rfl c n a1 b1 l1 wb wp di R2 H H1 _ p2 ⟨di,hd,bn,rfl,aG⟩ (by omega) (by omega) hs ?_ ?_
 ·rintro R' H' yq⟨d',gT,gh,rfl,uT⟩
  rw[pdq,if_neg aQ,if_pos yq]at hP
  simp -implicitDefEqProofs only[op,ef,cl,sq,reduceIte,j2,j3,j4,j5,j6,j7,j8,j9,y1,S1]
  exact⟨rfl,_,gT,gh,hP,uT⟩
 intro R3 yq p3
 rw[gn,eu,jQ]
 refine P4 _ rfl c n a1 b1 l1 wb wp di R3 H H1 _ p3 ⟨di,hd,bn,rfl,aG⟩ (by omega) (by omega) hs (by omega) ?_
 rintro R4 H4 p4⟨d1,Bb,D4,e1,Lb⟩
 obtain⟨jB,el⟩:∃l,l=if (!wb)=true then l1-1 else l1:=⟨_,rfl⟩
 have oG:jB≤l1:=by rw[el];split<;>omega
 rw[←el]at p4
 rw[gn,eu,jQ]
 refine Qb _ rfl c n a1 b1 jB wb wp d1 R4 H H4 _ p4 ⟨d1,Bb,D4,rfl,Lb⟩ (by omega) (by omega) hs ?_
 rintro R5 H5 p5 b9 uF⟨MP,UP,P2,M6,HK⟩
 subst M6
 have RL:=choosePivot_holds aH MP a1 b1 (by omega)
 obtain⟨cp,ec⟩:∃x,x=choosePivot aH MP a1 b1:=⟨_,rfl⟩
 rw[←ec]at b9 uF RL
 rw[gn,eu,jQ]
 refine P5 _ rfl c n a1 b1 jB wb wp MP cp.1 cp.2 R5 H H5 _ p5 b9 uF ⟨MP,UP,P2,rfl,HK⟩ (by omega) (by omega) hs RL ?_
 rintro R6 H6 p6 b9 uF⟨d2,UQ,UR,e2,US⟩
 obtain⟨pv,ep⟩:∃x,x=if cp.2=.decreasing then(b1-1)-(cp.1-a1)else cp.1:=⟨_,rfl⟩
 obtain⟨hi,eh⟩:∃x,x=if cp.2=.decreasing then Hint.increasing else cp.2:=⟨_,rfl⟩
 rw[←ep]at b9
 rw[←eh]at uF
 have qM:a1≤pv∧pv<b1:=by rw[ep];split<;>omega
 rw[gn,eu,jQ]
 obtain⟨pi,MN⟩:∃x,x=if (wb&&wp&&hi=.increasing)=true then partialInsertionSort aH d2 a1 b1 else(d2,false):=⟨_,rfl⟩
 rw[Bc aQ yq e1 el ec e2 ep eh MN]at hP
 refine P6 _ rfl c n a1 b1 jB wb wp d2 pv hi R6 H H6 _ p6 b9 uF ⟨d2,UQ,UR,rfl,US⟩ (by omega) (by omega) hs pi MN ?_ ?_
 ·rintro R' H' MH⟨d',gT,gh,rfl,uT⟩
  rw[if_pos MH]at hP
  simp -implicitDefEqProofs only[op,ef,cl,sq,reduceIte,j2,j3,j4,j5,j6,j7,j8,j9,y1,S1]
  exact⟨rfl,_,gT,gh,hP,uT⟩
 rintro R7 H7 K4 p7 b9⟨d3,UT,UU,e3,UW⟩
 rw[if_neg (by rw[K4];simp),←e3]at hP
 rw[gn,eu,jQ]
 refine P7 _ rfl c n a1 b1 jB wb wp d3 pv R7 H H7 _ p7 b9 ⟨d3,UT,UU,rfl,UW⟩ (by omega) (by omega) hs qM ?_ ?_
 ·rintro R' H' ru g0 g1 g2 g3 g4 Qd Qe⟨d',gT,gh,e',uT⟩
  have hr:=xH d3 qM.1 qM.2 (by omega)
  rw[if_pos ru,if_pos hr,←e']at hP
  simp -implicitDefEqProofs only[op,ef,cl,sq,reduceIte,j2,j3,j4,j5,j6,j7,j8,j9,y1,S1]
  exact⟨((partitionEqual aH d3 a1 b1 pv).1,b1,jB,wb,wp),by simp only;omega,.i ⟨_,gT,gh,hP,uT⟩,g0,g1,g2,g3,g4,Qd,Qe,by simp only;omega,by simp only;omega,by simp only;omega,by simp only;omega⟩
 rintro R8 H8 ru p8 b9⟨MQ,Ns,UX,UY,UZ⟩
 subst UY
 have hr:=partition_holds aH mX MQ a1 b1 pv qM.1 qM.2 (by omega)
 rw[if_neg (by rw[ru];simp),if_pos ⟨hr.1,hr.2.1⟩]at hP
 rw[gn,eu]
 refine Qc _ rfl c n a1 b1 jB wb wp MQ pv R8 H H8 _ p8 b9 ⟨MQ,Ns,UX,rfl,UZ⟩ (by omega) (by omega) hs qM (fun a' b' d' H' au RM fC gh eB=>ih _ (by omega) a' b' jB d' H' rfl RM fC (by omega) gh eB) ?_
 rintro R' H' a' b' d' MO RM Qf fC au g0 g1 g2 g3 g4 Qd Qe e'⟨VW,gT,gh,rfl,uT⟩
 simp -implicitDefEqProofs only[op,ef,cl,sq,reduceIte,j2,j3,j4,j5,j6,j7,j8,j9,y1,S1]
 exact⟨(a',b',jB,MO,(partition aH MQ a1 b1 pv).2.1),by simp only;omega,.i ⟨_,gT,gh,by simp only;rw[e'];exact hP,uT⟩,g0,g1,g2,g3,g4,Qd,Qe,by simp only;omega,Qf,by simp only;omega,by simp only;omega⟩
open Go.Sort in
theorem DK (c:Nat)(d:Array Nm)(H:ae)(hc:H[c]?=some (.cells (aJ eN d.toList)))(hs:d.size<16777216) :
  W env (.call 51 [.aE c 0 d.size 2,.fn 40 []]) H (uy c d.size (sort aH d) H):=by
 refine W.cJ rfl rfl rfl ?_
 have w1:IntKind.u64.wrap (d.size:Int)=(d.size:Int):=pU (by omega)
 simp -implicitDefEqProofs only[Dm,op,ef,cl,sq,reduceIte,j2,j3,j4,j5,j6,j7,j8,j9,y1,S1,w1]
 refine af _ _ _ _ _ _ _ _ (EU d.size hs _) ?_
 rintro u H1⟨hu,rfl⟩
 cases hu
 have hb:=qP (n:=d.size) (k:=24) hs
 simp -implicitDefEqProofs only[op,ef,cl,sq,reduceIte,j2,j3,j4,j5,j6,j7,j8,j9,y1,S1]
 refine af _ _ _ _ _ _ _ _ (Lo c d.size hs _ 0 d.size (bitsLen d.size) d _ rfl (Nat.zero_le _) (Nat.le_refl _) (by omega) rfl hc) ?_
 rintro u H2⟨hu,h2⟩
 cases hu
 simp -implicitDefEqProofs only[op,ef,cl,sq,reduceIte,j2,j3,j4,j5,j6,j7,j8,j9,y1,S1]
 exact⟨rfl,h2⟩
theorem qQ {d:Array Nm}(hn:d.toList.Nodup):(Go.Sort.sort aH d).toList.Perm d.toList∧(Go.Sort.sort aH d).toList.Pairwise (fun a b=>aH a b=true):=by
 obtain⟨⟨hs,_,hp⟩,Lp⟩:=Go.Sort.sort_sorts aH mX d
 have e1:(Go.Sort.sort aH d).extract 0 d.size=Go.Sort.sort aH d:=by
  conv=>lhs;arg 3;rw[←hs]
  simp
 have lq:(Go.Sort.sort aH d).toList.Perm d.toList:=by
  rw[e1]at hp
  simpa using hp
 refine⟨lq,?_⟩
 have Ea:(Go.Sort.sort aH d).toList.Nodup:=lq.nodup_iff.2 hn
 rw[List.pairwise_iff_getElem]
 intro i j hi hj oL
 have h1:=Lp i j (Nat.zero_le _) oL (by rw[←hs];simpa using hj)
 have gi:=mV (d:=Go.Sort.sort aH d) (i:=i) (by simpa using hi)
 have gj:=mV (d:=Go.Sort.sort aH d) (i:=j) (by simpa using hj)
 rw[List.getElem?_eq_getElem hi]at gi
 rw[List.getElem?_eq_getElem hj]at gj
 rw[Option.some.inj gi,Option.some.inj gj]
 cases h:aH (Go.Sort.sort aH d)[i]! (Go.Sort.sort aH d)[j]! with
 | true=>rfl
 | false =>
  have e:=vW h h1
  rw[←Option.some.inj gi,←Option.some.inj gj]at e
  have:=(List.getElem_inj Ea).1 e
  omega
theorem xI (es:List (Nm×T))(c mb:Nat)(H:ae)(jj:(es.map (·.1)).Nodup)(iz:es.length≤8000000)(hc:H[c]?=some (.cells [.map mb]))(hm:H[mb]?=some (.map (bo kN es))) :
  W env (.call 38 [.fn 52 [.ptr c 0],.fn 40 []]) H (Lm es H):=by
 refine W.cJ rfl rfl rfl ?_
 simp -implicitDefEqProofs only[GC,op,ef,cl,sq,reduceIte,j2,j3,j4,j5,j6,j7,j8,j9,y1,S1]
 refine af _ _ _ _ _ _ _ _ (Hv es c mb H jj (by omega) hc hm) ?_
 rintro u H1⟨hx,t,dD,hu,Dw,vU⟩
 cases hu
 have lq:dD.Perm (es.map (·.1)):=(List.perm_ext_iff_of_nodup vU.Hs jj).2 fun k=>vU.Ds k
 have me:dD.length=es.length:=by have:=vU.len;simpa using this
 rcases Dw with⟨rfl,rfl⟩|⟨d,rfl,hd,yX⟩
 ·simp -implicitDefEqProofs only[op,ef,cl,sq,reduceIte,j2,j3,j4,j5,j6,j7,j8,j9,y1,S1]
  refine af _ _ _ _ _ _ _ _ (Ll _) ?_
  rintro u H2⟨hu,rfl⟩
  cases hu
  simp -implicitDefEqProofs only[op,ef,cl,sq,reduceIte,j2,j3,j4,j5,j6,j7,j8,j9,y1,S1]
  exact⟨hx,_,[],rfl,mS _ _ _ _,lq,List.Pairwise.nil⟩
 ·simp -implicitDefEqProofs only[op,ef,cl,sq,reduceIte,j2,j3,j4,j5,j6,j7,j8,j9,y1,S1]
  have:=DK d dD.toArray H1 (by simpa using hd) (by simpa using (by omega:dD.length<16777216))
  simp -implicitDefEqProofs only[List.size_toArray]at this
  refine af _ _ _ _ _ _ _ _ this ?_
  rintro u H2⟨hu,d2,h2,xC,rfl,aG⟩
  cases hu
  simp -implicitDefEqProofs only[op,ef,cl,sq,reduceIte,j2,j3,j4,j5,j6,j7,j8,j9,y1,S1]
  have hs:=qQ (d:=dD.toArray) (by simpa using vU.Hs)
  simp -implicitDefEqProofs only[List.size_toArray]at hs
  refine⟨qN fun a x RN=>aG.get (hx.get RN) (by have:=a6 RN;omega),_,_,rfl,.inr ⟨d,?_,h2,yX⟩,hs.1.trans lq,hs.2⟩
  rw[hs.1.length_eq]
theorem pZ {α:Type}{enc:α→List T}{n:Nat}(hn:∀x,(enc x).length=n)(h0:n≠0){n0:Nat}{H:ae}{t:T}{l:List α}(hm:dM enc n n0 H t l){i:Nat}{x:α}(hx:l[i]?=some x):∃b,H[b]?=some (.cells (aJ enc l))∧ew n i t=some (.ptr b (i*n))∧mE n (i*n) (some (.cells (aJ enc l)))=some (enc x):=by
 have hi:=(List.getElem?_eq_some_iff.1 hx).1
 rcases hm with⟨rfl,_⟩|⟨b,rfl,hb,_⟩
 ·simp at hi
 ·refine⟨b,hb,by rw[ie];simp[hi,h0],?_⟩
  have:=g9 hn hx 0 n (by omega)
  simp -implicitDefEqProofs only[Nat.add_zero,List.drop_zero]at this
  rw[this,List.take_of_length_le (by rw[hn];omega)]
def eK (x:Nm×Hd):List T:=[.str x.1.1,.int .u64 x.1.2,.str x.2.value,.sl .arg (x.2.keys.map eS),.int .i64 x.2.bh]
def mr (s:cB)(l:List Nm):List (Nm×Hd):=l.map fun n=>(n,mH (ah s.vs n))
def Lq (s:cB)(H:ae):Out→ae→Prop:=fun o H'=>Ext H H'∧∃k l,jh k l∧o=.val (.sl k ((mr s l).map eK))∧l.Perm (s.vs.map (·.1))∧l.Pairwise (fun a b=>aH a b=true)
theorem HL (b:Bk)(s:cB)(F:Nat→Prop)(H:ae)(hs:SH H b s F)(hi:eR s)(hn:s.vs.length≤8000000):W env (.call 21 [.ptr b.s 0]) H (Lq s H):=by
 obtain⟨im,pm,sa⟩:=hs
 refine W.cJ rfl rfl rfl ?_
 simp -implicitDefEqProofs only[Gu,op,ef,cl,sq,reduceIte,j2,j3,j4,j5,j6,j7,j8,j9,y1,S1,sa.hs]
 refine af _ _ _ _ _ _ _ (fun o H'=>o=.val (.fn 52 [.ptr H.length 0])∧H'=H++[.cells [.map b.v]]) ?_ ?_
 ·refine W.cJ rfl rfl rfl ?_
  simp -implicitDefEqProofs only[GD,op,ef,cl,sq,reduceIte,j2,j3,j4,j5,j6,j7,j8,j9,y1,S1]
  exact rfl
 rintro u H1⟨hu,rfl⟩
 cases hu
 have lv:=a6 sa.hv
 have EY:(dC s.vs).map (·.1)=s.vs.map (·.1):=by simp[dC]
 simp -implicitDefEqProofs only[op,ef,cl,sq,reduceIte,j2,j3,j4,j5,j6,j7,j8,j9,y1,S1]
 refine af _ _ _ _ _ _ _ _ (xI (dC s.vs) H.length b.v _ (by rw[EY];exact hi.nd) (by simpa[dC]using hn) (aZ rfl) (by rw[aM lv];exact sa.hv)) ?_
 rintro t H2⟨EL,_,l,hu,Dw,lq,Qg⟩
 cases hu
 rw[EY]at lq
 have oG:l.length≤8000000:=by rw[lq.length_eq];simpa using hn
 have hlen:=Dw.len
 have D6:Ext H H2:=(Ext.rfl'.app _).trans EL
 simp -implicitDefEqProofs only[op,ef,cl,sq,reduceIte,j2,j3,j4,j5,j6,j7,j8,j9,y1,S1,hlen]
 have RO:∀Hx,ey Hx .sl t=some l.length:=fun Hx=>by
  rcases Dw with⟨e,rfl⟩|⟨c,rfl,_,_⟩
  ·rw[e];rfl
  ·rfl
 refine W.cZ (fun (i:Nat) R H'=>At H' (fun H'=>∃kw,R 3=.sl kw ((mr s (l.take i)).map eK)∧Ext H H'∧Ext H2 H'∧AH H2.length H' kw∧jh kw (l.take i))∧R 0=.ptr b.s 0∧R 11=t∧R 12=.int .i64 l.length∧R 13=.int .i64 i∧i≤l.length) (fun i=>l.length-i) 0 ⟨.i ⟨.nil,rfl,D6,Ext.rfl',kX _ _,fun _=>rfl⟩,rfl,rfl,rfl,rfl,Nat.zero_le _⟩ ?_
 rintro i R H3⟨⟨kw,h3,tj,HM,kp,pX⟩,h0,bD,aQ,b9,gr⟩
 by_cases au:i<l.length
 ·obtain⟨m,hm⟩:=cF au
  have ws:=aF (show i<9223372036854775807 by omega)
  obtain⟨c,g1,g2,g3⟩:=pZ (enc:=eN) (n:=2) (fun _=>rfl) (by decide) (Dw.ext HM) hm
  have AZ:=sa.rq (aK (F:=fun _=>False) tj) (fun _ _ _ h=>h)
  have l0:=a6 AZ.hs
  have U0:=a6 AZ.hv
  have jv:=fun Hx z ok=>kf sP z ok Hx (dC s.vs) m
  simp -implicitDefEqProofs only[kN,eN]at jv
  have hh:=ur s.vs m
  simp -implicitDefEqProofs only[op,ef,cl,sq,reduceIte,j2,j3,j4,j5,j6,j7,j8,j9,y1,S1,S2,S3,List.length_set,h0,bD,aQ,b9,au,aa,g1,g2,g3,eN,AZ.hs,AZ.hv,l0,U0,jv,hh,dy]
  refine af _ _ _ _ _ _ _ _ (xz b s F m.1 m.2 _ ⟨im,pm,AZ.rq (aK (F:=fun _=>False) (Ext.rfl'.app _)) (fun _ _ _ h=>h)⟩ hi) ?_
  rintro u H4⟨vX,kk,cd,hu⟩
  cases hu
  have c0:H4[H3.length]?=some (.cells [.str m.1,.int .u64 m.2]):=vX.get (by rw[aZ rfl])
  have xJ:Ext H3 H4:=(Ext.rfl'.app _).trans vX
  have s4:=xJ.get AZ.hs
  have v4:=xJ.get AZ.hv
  obtain⟨hd,lW⟩:∃hd,hd=mH (ah s.vs m):=⟨_,rfl⟩
  rw[←lW]at hh cd
  have dI:=all_map (enc:=eK) (n:=5) (fun _=>rfl) (mr s (l.take i))
  have QX:((mr s (l.take i)).map eK).length≤8000000:=by simp -implicitDefEqProofs only[mr,List.length_map,List.length_take];omega
  obtain⟨k',H5,ha,qR,cn⟩:=kg (bytes:=72) ((mr s (l.take i)).map eK) [[T.str m.1,.int .u64 m.2,.str hd.value,.sl .arg (hd.keys.map eS),.int .i64 hd.bh]] (kp.ext xJ) (Nat.le_trans HM.len xJ.len) (by simp) (Km (by simp -implicitDefEqProofs only[List.length_cons,List.length_nil];omega))
  have qf:=um ha (by simp)
  simp -implicitDefEqProofs only[op,ef,cl,sq,reduceIte,j2,j3,j4,j5,j6,j7,j8,j9,y1,S1]at ha
  simp -implicitDefEqProofs only[op,ef,cl,sq,reduceIte,j2,j3,j4,j5,j6,j7,j8,j9,y1,S1,KV,h3,c0,s4,v4,jv,hh,dy,←lW,dI,ha,h0,bD,aQ,b9,ws]
  refine⟨i+1,by omega,.i ⟨k',?_,cn.ext H (by have:=D6.len;omega) (tj.trans xJ),cn.ext H2 (Nat.le_refl _) (HM.trans xJ),qR,fun h=>absurd h qf⟩,rfl,by omega⟩
  rw[bA hm]
  simp -implicitDefEqProofs only[mr,List.map_append,List.map_cons,List.map_nil,eK,←lW]
 ·have lV:i=l.length:=by omega
  subst lV
  rw[List.take_length]at h3 pX
  simp -implicitDefEqProofs only[op,ef,cl,sq,reduceIte,j2,j3,j4,j5,j6,j7,j8,j9,y1,S1,h3,aQ,b9,au]
  exact⟨tj,kw,l,pX,rfl,lq,Qg⟩
theorem p0:∀(l l':List Nm),l.Pairwise (fun a b=>aH a b=true)→l'.Pairwise (fun a b=>aH a b=true)→(∀x,x∈l↔x∈l')→l=l'
 | [],[],_,_,_=>rfl
 | [],b :: l',_,_,h=>by have:=(h b).2 (by simp);simp at this
 | a :: l,[],_,_,h=>by have:=(h a).1 (by simp);simp at this
 | a :: l,b :: l',h1,h2,h=>by
  rw[List.pairwise_cons]at h1 h2
  have e:a=b:=by
   rcases List.mem_cons.1 ((h a).1 (by simp))with e|e
   ·exact e
   ·rcases List.mem_cons.1 ((h b).2 (by simp))with e2|e2
    ·exact e2.symm
    ·have q1:=h2.1 a e
     have q2:=h1.1 b e2
     have:=lY q1 q2
     rw[lj]at this;cases this
  subst e
  rw[p0 l l' h1.2 h2.2 fun x=>?_]
  have hx:=h x
  simp -implicitDefEqProofs only[List.mem_cons]at hx
  constructor
  ·intro hm
   rcases hx.1 (.inr hm)with e|e
   ·subst e;have:=h1.1 x hm;rw[lj]at this;cases this
   ·exact e
  ·intro hm
   rcases hx.2 (.inr hm)with e|e
   ·subst e;have:=h2.1 x hm;rw[lj]at this;cases this
   ·exact e
theorem mem_keys {α β:Type}[DecidableEq α]{es:List (α×β)}{k:α}:k∈es.map (·.1)↔(ah es k).isSome=true:=by
 cases h:ah es k with
 | none=>simp[cX.1 h]
 | some v =>
  simp -implicitDefEqProofs only[Option.isSome_some,iff_true]
  exact List.mem_map.2 ⟨_,xw h,rfl⟩
theorem HN {α:Type}{l l':List α}(h1:l.Nodup)(h2:l'.Nodup)(h:∀x,x∈l↔x∈l'):l.length=l'.length:=((List.perm_ext_iff_of_nodup h1 h2).2 h).length_eq
def tA:ByteArray:=⟨#[97]⟩
def tB:ByteArray:=⟨#[98]⟩
def tX:ByteArray:=⟨#[120]⟩
def tY:ByteArray:=⟨#[121]⟩
theorem SH.ext {H H':ae}{b:Bk}{s:cB}{F:Nat→Prop}(h:SH H b s F)(hx:Ext H H'):SH H' b s F:=by
 obtain⟨im,pm,sa⟩:=h
 exact⟨im,pm,sa.rq (aK (F:=fun _=>False) hx) (fun _ _ _ h=>h)⟩
theorem bO.more {H H' uO:ae}{G:Nat→Prop}(h:bO (fun _=>False) H H')(h':bO G H' uO)(hg:∀c,G c→H.length≤c):bO (fun _=>False) H uO:=h.trans h' fun c hc=>.inr (hg c hc)
theorem bO.ext {H H' uO:ae}{F:Nat→Prop}(h:bO F H H')(h':Ext H' uO):bO F H uO:=h.trans (aK (F:=fun _=>False) h') fun c hc=>hc.elim
theorem qS {H H':ae}(h:bO (fun _=>False) H H'):Ext H H':=qN fun c x hx=>h.get hx id
theorem Uw {k:SK}{a b c:List T}(h:b.length=5):ew 5 1 (.sl k [a,b,c])=some (.cy b):=by simp[ew,h]
def RP (n:Int):Prop:=-9223372036854775808≤n∧n≤9223372036854775807
theorem SH.Bd {H:ae}{b:Bk}{s:cB}{F:Nat→Prop}{L:Nat}{x:B}(h:SH H b s F)(hF:¬F L):SH (H.set L x) b s F:=by
 obtain⟨im,pm,h⟩:=h
 exact⟨im,pm,h.rq (G:=fun c=>c=L) ⟨by simp,fun c _ ba=>List.getElem?_set_ne (fun e=>ba e.symm)⟩ fun c hc _ e=>hF (e▸hc)⟩
def eD (x:Nm×Hd):List T:=[.str x.1.1,.int .u64 x.1.2,.str x.2.value,.sl .arg (x.2.keys.map eS)]
end Go.Proofs.Ytodegnhallgnkaa.St
end

section
namespace Go.Proofs.Ytodegnhallgnkaa.St
open Go.Rmp Go.Proofs.Ytodegnhallgnkaa.Ir
set_option maxRecDepth 10000
structure Vd where
 value:ByteArray
 keys:List ByteArray
 bh:Int
def Hd.vd (h:Hd):Vd:=⟨h.value,h.keys,h.bh⟩
structure Ab where
 v:Nm→Option Vd
 l:ByteArray→Option Nat
def Ab.last (a:Ab)(k:ByteArray):Nat:=(a.l k).getD 0
def Ab.has (a:Ab)(m:Nm):Bool:=(a.v m).isSome
def eT (s:cB):Ab:=⟨fun m=>(ah s.vs m).map Hd.vd,fun k=>ah s.ls k⟩
def Ab.emp:Ab:=⟨fun _=>none,fun _=>none⟩
def Ab.put (a:Ab)(n:Nat)(l:List (ByteArray×ByteArray))(ks:List ByteArray)(now:Int):Ab :=
 ⟨fun m=>match a.v m with
  | some h=>some h
  | none=>if m.2=n then(ah l m.1).map fun v=>⟨v,ks,if n<a.last m.1 then now else -1⟩else none,a.l⟩
def Ab.fresh (a:Ab)(n:Nat)(l:List (ByteArray×ByteArray)):Bool:=l.any fun p=>!a.has (p.1,n)
def Ab.qT (a : Ab)(n : Nat)(now : Int) : Ab :=
  ⟨fun m => (a.v m).map fun h => if h.bh = -1 ∧ a.has (m.1, n) = true ∧ a.last m.1<n ∧ m.2<n then { h with bh := now } else h,
   fun k => if a.has (k, n) = true ∧ a.last k<n then some n else a.l k⟩
def Ab.cut (a:Ab)(m0:Nm):Ab:=⟨fun m=>if m=m0 then none else a.v m,a.l⟩
theorem qU {a b:Ab}(h1:∀m,a.v m=b.v m)(h2:∀k,a.l k=b.l k):a=b:=by
 cases a;cases b;simp -implicitDefEqProofs only[Ab.mk.injEq];exact⟨funext h1,funext h2⟩
theorem Be {α β:Type}[DecidableEq α]{es:List (α×β)}(hn:(es.map (·.1)).Nodup){p:α×β}(hp:p∈es):ah es p.1=some p.2:=by
 induction es with
 | nil=>cases hp
 | cons e es ih =>
  rw[List.map_cons,List.nodup_cons]at hn
  rw[bz]
  rcases List.mem_cons.1 hp with rfl|hp
  ·simp
  ·rw[if_neg,ih hn.2 hp]
   intro h
   exact hn.1 (h▸List.mem_map.2 ⟨p,hp,rfl⟩)
theorem iv.abs {s s':cB}{n:Nat}{l:List (ByteArray×ByteArray)}{ks:List ByteArray}{now:Int}{fr:Bool}(h:iv s s' n l ks now fr)(hn:(l.map (·.1)).Nodup):eT s'=(eT s).put n l ks now:=by
 refine qU (fun m=>?_) fun k=>by simp -implicitDefEqProofs only[eT,Ab.put,h.ls]
 simp -implicitDefEqProofs only[eT,Ab.put]
 by_cases hm:m.2=n∧m.1∈l.map (·.1)
 ·obtain⟨rfl,hm⟩:=hm
  obtain⟨p,hp,L4⟩:=List.mem_map.1 hm
  have e:m=(p.1,m.2):=by rw[L4]
  cases hl:ah s.vs m with
  | some x =>
   have:=h.gM p hp x (by rw[←e];exact hl)
   rw[←e]at this
   simp[this]
  | none =>
   obtain⟨kk,_,h2⟩:=h.new p hp (by rw[←e];exact hl)
   rw[←e]at h2
   have h3:=Be hn hp
   rw[L4]at h3 h2
   simp -implicitDefEqProofs only[h2,h3,Hd.vd,Option.map_some,Option.map_none,if_true];rfl
 ·have h1:=h.other m (by
   by_cases e:m.2=n
   ·exact .inr fun h=>hm ⟨e,h⟩
   ·exact .inl e)
  rw[h1]
  cases hl:ah s.vs m with
  | some x=>simp
  | none =>
   simp -implicitDefEqProofs only[Option.map_none]
   split
   ·rename_i e
    rw[cX.2 fun h=>hm ⟨e,h⟩];rfl
   ·rfl
theorem iv.fr {s s':cB}{n:Nat}{l:List (ByteArray×ByteArray)}{ks:List ByteArray}{now:Int}{fr:Bool}(h:iv s s' n l ks now fr):fr=(eT s).fresh n l:=by
 rw[Bool.eq_iff_iff,h.fresh]
 simp -implicitDefEqProofs only[Ab.fresh,List.any_eq_true,Ab.has,eT,Option.isSome_map,Bool.not_eq_true',Option.isSome_eq_false_iff,Option.isNone_iff_eq_none]
theorem o4.abs {s s':cB}{n:Nat}{now:Int}(hi:eR s)(h:o4 s s' n now (s.dz n)):eT s'=(eT s).qT n now:=by
 have hp:∀k,k∈s.dz n↔(eT s).has (k,n)=true:=fun k=>by rw[hi.BH];simp[Ab.has,eT]
 have iK:∀k,bu s k=(eT s).last k:=fun _=>rfl
 have hv:∀m,(eT s).v m=(ah s.vs m).map Hd.vd:=fun _=>rfl
 have IS:∀k,(eT s).l k=ah s.ls k:=fun _=>rfl
 obtain⟨a,ha⟩:∃a,a=eT s:=⟨_,rfl⟩
 rw[←ha]at hp iK hv IS ⊢
 refine qU (fun m=>?_) fun k=>?_
 ·obtain⟨h1,h2⟩:=h.vs.2 m
  show(ah s'.vs m).map Hd.vd=(a.v m).map _
  rw[hv]
  cases hl:ah s.vs m with
  | none=>rw[h1 hl];rfl
  | some x =>
   obtain⟨h3,h4⟩:=h2 x hl
   by_cases hc:(m.1∈s.dz n∧bu s m.1<n∧m.2<n)∧x.bh=-1
   ·rw[h3 hc]
    simp -implicitDefEqProofs only[Option.map_some,Option.some.injEq]
    rw[if_pos ⟨hc.2,(hp _).1 hc.1.1,iK _▸hc.1.2.1,hc.1.2.2⟩];rfl
   ·rw[h4 hc]
    simp -implicitDefEqProofs only[Option.map_some,Option.some.injEq]
    rw[if_neg]
    rintro⟨a,b,c,d⟩
    exact hc ⟨⟨(hp _).2 b,by rw[iK];exact c,d⟩,a⟩
 ·show ah s'.ls k=if _ then _ else a.l k
  rw[IS]
  by_cases hc:k∈s.dz n∧bu s k<n
  ·rw[h.on k hc.1 hc.2,if_pos ⟨(hp _).1 hc.1,by rw[←iK];exact hc.2⟩]
  ·rw[h.off k hc,if_neg fun hh=>hc ⟨(hp _).2 hh.1,by rw[iK];exact hh.2⟩]
theorem Bf {s:cB}(hi:eR s)(k:ByteArray)(n:Nat):eT (s.drop k n)=(eT s).cut (k,n):=by
 refine qU (fun m=>?_) fun k=>rfl
 simp -implicitDefEqProofs only[eT,Ab.cut,cB.drop,gG hi.nd]
 split<;>rfl
theorem EZ {α:Type}:∀{l l':List α},l.Nodup→(∀x∈l,x∈l')→l.length≤l'.length
 | [],_,_,_=>Nat.zero_le _
 | x :: l,l',hn,hs=>by
  obtain⟨a,b,rfl⟩:=List.append_of_mem (hs x List.mem_cons_self)
  rw[List.nodup_cons]at hn
  have:=EZ (l:=l) (l':=a++b) hn.2 fun y hy=>by
   have h:=hs y (List.mem_cons_of_mem _ hy)
   rcases List.mem_append.1 h with h|h
   ·exact List.mem_append_left _ h
   ·rcases List.mem_cons.1 h with rfl|h
    ·exact absurd hy hn.1
    ·exact List.mem_append_right _ h
  simp -implicitDefEqProofs only[List.length_append,List.length_cons]at this ⊢
  omega
theorem iv.HO {s s':cB}{n:Nat}{l:List (ByteArray×ByteArray)}{ks:List ByteArray}{now:Int}{fr:Bool}(h:iv s s' n l ks now fr)(hi:eR s'):s'.vs.length≤s.vs.length+l.length:=by
 have:=EZ (l:=s'.vs.map (·.1)) (l':=s.vs.map (·.1)++l.map fun p=>(p.1,n)) hi.nd fun m hm=>by
  rw[List.mem_append]
  by_cases hc:m.2=n∧m.1∈l.map (·.1)
  ·obtain⟨p,hp,e⟩:=List.mem_map.1 hc.2
   exact .inr (List.mem_map.2 ⟨p,hp,by rw[e,←hc.1]⟩)
  ·refine .inl ?_
   rw[mem_keys]at hm ⊢
   rwa[h.other m (by
    by_cases e:m.2=n
    ·exact .inr fun h=>hc ⟨e,h⟩
    ·exact .inl e)]at hm
 simpa using this
theorem VS.HO {v v':List (Nm×Hd)}{now:Int}{S:Nm→Prop}(h:VS v v' now S)(hn:(v.map (·.1)).Nodup):v'.length=v.length:=by
 have:=HN h.1 hn fun m=>by rw[mem_keys,mem_keys,h.some]
 simpa using this
def jC (H:ae)(b:Bk)(a:Ab)(F:Nat→Prop)(n:Nat):Prop:=∃s,SH H b s F∧eR s∧eT s=a∧s.n≤n∧s.vs.length≤n
theorem jC.ext {H H':ae}{b:Bk}{a:Ab}{F:Nat→Prop}{n:Nat}(h:jC H b a F n)(hx:Ext H H'):jC H' b a F n:=by
 obtain⟨s,h1,h2⟩:=h
 exact⟨s,h1.ext hx,h2⟩
theorem jC.le {H:ae}{b:Bk}{a:Ab}{F:Nat→Prop}{n m:Nat}(h:jC H b a F n)(hm:n≤m):jC H b a F m:=by
 obtain⟨s,h1,h2,h3,h4,h5⟩:=h
 exact⟨s,h1,h2,h3,by omega,by omega⟩
def Qh (F F':Nat→Prop)(H H':ae):Prop:=∀c,F' c→F c∨(H.length≤c∧c<H'.length)
theorem Lr (H:ae):W env (.call 12 []) H (fun o H'=>Ext H H'∧∃b F,o=.val (.ptr b.s 0)∧jC H' b Ab.emp F 0∧∀c,F c→H.length≤c∧c<H'.length) :=
 W.use (PA H) fun o H' ⟨hx,b,F,hu,sh,hF⟩=>⟨hx,b,F,hu,⟨_,sh,eR.emp,rfl,Nat.le_refl _,Nat.le_refl _⟩,hF⟩
theorem HP {n:Nat}{l:List (ByteArray×ByteArray)}{ks:List ByteArray}(h:mG n l ks):(l.map (·.1)).Nodup:=by
 refine List.pairwise_map.2 (List.pairwise_iff_getElem.2 fun i j hi hj oL e=>?_)
 have:=oq h i j _ _ oL (List.getElem?_eq_getElem hi) (List.getElem?_eq_getElem hj)
 rw[e,iX]at this;cases this
def Lt (b:Bk)(a:Ab)(F:Nat→Prop)(m n:Nat)(l:List (ByteArray×ByteArray))(ks:List ByteArray)(now:Int)(H:ae):Out→ae→Prop:=fun o H' =>
 ∃F',o=.val (.bE [.bool (a.fresh n l),.int .i64 0])∧jC H' b (a.put n l ks now) F' (m+l.length)∧bO F H H'∧Qh F F' H H'
theorem HQ {b:Bk}{a:Ab}{F:Nat→Prop}{m:Nat}(n:Nat)(k k':SK)(l:List (ByteArray×ByteArray))(ks:List ByteArray)(now:Int){H:ae}(h:jC H b a F m)(hn:m+l.length≤8000000)(pX:jh k' ks)(hm:mG n l ks)(ht:cM now) :
  W env (.call 14 [.ptr b.s 0,.int .u64 n,.sl k (l.map eP),.sl k' (ks.map eS),.int .i64 now]) H (Lt b a F m n l ks now H):=by
 obtain⟨s,sh,hi,rfl,h4,h5⟩:=h
 refine W.use (KW b s F n k k' l ks now H sh hi (by omega) pX hm ht) fun o H' ⟨s',F',fr,hu,Lu,jy,hp,Fh,aG,hg⟩=>⟨F',?_,⟨s',Lu,jy,hp.abs (HP hm),by omega,?_⟩,aG,hg⟩
 ·rw[hu,hp.fr]
 ·have:=hp.HO jy;omega
def Lv (b:Bk)(a:Ab)(F:Nat→Prop)(m n:Nat)(now:Int)(H:ae):Out→ae→Prop:=fun o H' =>
 ∃D:List ByteArray,D.Nodup∧(∀k,k∈D↔a.has (k,n)=true)∧o=.val (.bE [.int .i64 D.length,.int .i64 0])∧jC H' b (a.qT n now) F m∧bO F H H'
theorem HR {b:Bk}{a:Ab}{F:Nat→Prop}{m:Nat}(n:Nat)(now:Int){H:ae}(h:jC H b a F m)(hn:m≤8000000)(Rj:65536≤n)(ht:cM now):W env (.call 18 [.ptr b.s 0,.int .u64 n,.int .i64 now]) H (Lv b a F m n now H):=by
 obtain⟨s,sh,hi,rfl,h4,h5⟩:=h
 refine W.use (AX b s F n now H sh hi (by omega) Rj ht) fun o H' ⟨s',hu,Lu,jy,hc,Fh,_,_,aG⟩=>⟨s.dz n,hi.ER n,fun k=>?_,hu,⟨s',Lu,jy,hc.abs hi,by omega,?_⟩,aG⟩
 ·rw[hi.BH];simp[Ab.has,eT]
 ·have:=hc.vs.HO hi.nd;omega
def HS (b:Bk)(a:Ab)(F:Nat→Prop)(m:Nat)(k:ByteArray)(n:Nat)(H:ae):Out→ae→Prop:=fun o H' =>
 (a.v (k,n)=none∧o=.val (.int .i64 110)∧Ext H H')∨(∃h,a.v (k,n)=some h∧h.bh=-1∧o=.val (.int .i64 1)∧Ext H H') ∨
 ∃h,a.v (k,n)=some h∧h.bh≠-1∧o=.val (.int .i64 0)∧jC H' b (a.cut (k,n)) F m∧bO F H H'
theorem Bg {α β:Type}[DecidableEq α](es:List (α×β))(k:α):(jz es k).length≤es.length:=by
 unfold jz;split
 ·exact List.length_eraseIdx_le es _
 ·exact Nat.le_refl _
theorem Lw {b:Bk}{a:Ab}{F:Nat→Prop}{m:Nat}(k:ByteArray)(n:Nat){H:ae}(h:jC H b a F m)(hn:m≤8000000):W env (.call 31 [.ptr b.s 0,.str k,.int .u64 n]) H (HS b a F m k n H):=by
 obtain⟨s,sh,hi,rfl,h4,h5⟩:=h
 refine W.use (Hr b s F k n H sh hi (by omega)) fun o H' hq=>?_
 rcases hq with⟨h1,hu,hx⟩|⟨h,h1,h2,hu,hx⟩|⟨h,h1,h2,hu,Lu,aG⟩
 ·exact .inl ⟨by simp[eT,h1],hu,hx⟩
 ·exact .inr (.inl ⟨h.vd,by simp[eT,h1],h2,hu,hx⟩)
 ·exact .inr (.inr ⟨h.vd,by simp[eT,h1],h2,hu,⟨_,Lu,hi.drop k n,Bf hi k n,by simpa[cB.drop]using h4,Nat.le_trans (Bg _ _) h5⟩,aG⟩)
def o5 (o:Option Vd):Vd:=o.getD ⟨⟨#[]⟩,[],0⟩
theorem Lx (o:Option Hd):(mH o).vd=o5 (o.map Hd.vd):=by cases o<;>rfl
def Names (a:Ab)(l:List Nm):Prop:=l.Pairwise (fun x y=>aH x y=true)∧∀m,m∈l↔a.has m=true
theorem Names.uniq {a:Ab}{l l':List Nm}(h:Names a l)(h':Names a l'):l=l':=p0 l l' h.1 h'.1 fun m=>by rw[h.2,h'.2]
def Bh (a:Ab)(m:Nm):List T:=[.str m.1,.int .u64 m.2,.str (o5 (a.v m)).value,.sl .arg ((o5 (a.v m)).keys.map eS),.int .i64 (o5 (a.v m)).bh]
theorem Names.nd {a:Ab}{l:List Nm}(h:Names a l):l.Nodup:=h.1.imp fun {x y} I7=>by rintro rfl;rw[lj]at I7;cases I7
theorem E0 {b:Bk}{a:Ab}{F:Nat→Prop}{m:Nat}{H:ae}(h:jC H b a F m)(hn:m≤8000000):W env (.call 21 [.ptr b.s 0]) H (fun o H'=>Ext H H'∧∃k l,jh k l∧Names a l∧l.length≤m∧o=.val (.sl k (l.map (Bh a)))):=by
 obtain⟨s,sh,hi,rfl,h4,h5⟩:=h
 refine W.use (HL b s F H sh hi (by omega)) fun o H' ⟨hx,k,l,pX,hu,hp,Qg⟩=>⟨hx,k,l,pX,⟨Qg,fun m=>?_⟩,?_,?_⟩
 ·rw[hp.mem_iff,mem_keys];simp[Ab.has,eT]
 ·rw[hp.length_eq];simpa using h5
 ·rw[hu]
  congr 2
  rw[mr,List.map_map]
  refine List.map_congr_left fun m _=>?_
  have e:=Lx (ah s.vs m)
  simp -implicitDefEqProofs only[Function.comp,eK,Bh,eT,←e,Hd.vd]
def eW (x:Nm):List T:=[.str x.1,.int .u64 x.2]
theorem xK {α:Type}{l l':List α}{i:Nat}{x:α}(h:l.take i=l'.take i)(hx:l[i]?=some x)(hy:l'[i]?=some x):l.take (i+1)=l'.take (i+1):=by
 rw[bA hx,bA hy,h]
theorem Ly {α:Type}{l l':List α}{i:Nat}{x y:α}(hx:l[i]?=some x)(hy:l'[i]?=some y)(h:x≠y):l≠l':=by
 rintro rfl;rw[hx]at hy;cases hy;exact h rfl
theorem RQ (x y:Nm):bf (eW x) (eW y)=some (decide (x=y)):=by
 obtain⟨a,n⟩:=x;obtain⟨b,m⟩:=y
 simp -implicitDefEqProofs only[eW,bf,fQ,if_true,dn,IT,Bool.and_true,Option.some.injEq,Prod.mk.injEq]
 rw[Bool.eq_iff_iff];simp
theorem HT (x:Nm):dE [.str,.int] (eW x)=true:=rfl
theorem HU (now:Int)(H:ae):W env (.call 29 [.int .i64 now]) H (oZ (.bool (decide (0≤now)&&decide (now≤1099511627776))) H):=by
 refine W.cJ rfl rfl rfl ?_
 cases h:decide (0≤now)<;>simp -implicitDefEqProofs only[Gx,op,ef,cl,sq,reduceIte,j2,j3,j4,j5,j6,j7,j8,j9,y1,S1,h,Bool.false_and]
theorem E1 (now:Int)(H:ae):W env (.call 30 [.int .i64 now]) H (oZ (.bool (decide (0≤now)&&decide (now≤1048576))) H):=by
 refine W.cJ rfl rfl rfl ?_
 cases h:decide (0≤now)<;>simp -implicitDefEqProofs only[Gy,op,ef,cl,sq,reduceIte,j2,j3,j4,j5,j6,j7,j8,j9,y1,S1,h,Bool.false_and]
theorem HV {n:Int}(h:0≤n∧n<256):IntKind.u8.wrap n=n:=by
 unfold IntKind.wrap
 simp -implicitDefEqProofs only[IntKind.signed,IntKind.bits]
 simp
 omega
theorem mY (w a b:Nat)(ha:a<2^w)(hb:b<2^w):(BitVec.ofInt w (a:Int) &&& BitVec.ofInt w (b:Int)).toNat=a &&& b:=by
 rw[BitVec.toNat_and]
 simp -implicitDefEqProofs only[BitVec.ofInt_natCast,BitVec.toNat_ofNat,Nat.mod_eq_of_lt ha,Nat.mod_eq_of_lt hb]
structure mZ where
 kind:Int
 id:Nat
 keys:Nat
 some:Nat
 value:ByteArray
def eO (o:mZ):List T:=[.int .i64 o.kind,.int .u64 o.id,.int .u8 o.keys,.int .u8 o.some,.str o.value]
def I8 (o:mZ):Prop:=o.id<18446744073709551616∧o.keys<256∧o.some<256
def tn (o:mZ):Nat:=65536*(1+(o.id/4)%16)+o.id%4
theorem Bi (o:mZ):65536≤tn o:=by unfold tn;omega
theorem Lz (a:Nat)(h:a<18446744073709551616):IntKind.u64.wrap ((BitVec.ofInt IntKind.u64.bits (a:Int) &&& BitVec.ofInt IntKind.u64.bits 15).toNat:Nat)=((a%16:Nat):Int):=by
 have h1:=mY IntKind.u64.bits a 15 (by simpa[IntKind.bits]using h) (by simp[IntKind.bits])
 have h2:((15:Nat):Int)=15:=rfl
 rw[h2]at h1
 rw[h1,show(15:Nat)=2^4-1 from rfl,Nat.and_two_pow_sub_one_eq_mod,fY (by omega)]
theorem Qi (a:Nat)(h:a<18446744073709551616):IntKind.u64.wrap ((BitVec.ofInt IntKind.u64.bits (a:Int) &&& BitVec.ofInt IntKind.u64.bits 7).toNat:Nat)=((a%8:Nat):Int):=by
 have h1:=mY IntKind.u64.bits a 7 (by simpa[IntKind.bits]using h) (by simp[IntKind.bits])
 have h2:((7:Nat):Int)=7:=rfl
 rw[h2]at h1
 rw[h1,show(7:Nat)=2^3-1 from rfl,Nat.and_two_pow_sub_one_eq_mod,fY (by omega)]
theorem Qj (a:Nat)(h:a<18446744073709551616):IntKind.u64.wrap ((BitVec.ofInt IntKind.u64.bits (a:Int) &&& BitVec.ofInt IntKind.u64.bits 3).toNat:Nat)=((a%4:Nat):Int):=by
 have h1:=mY IntKind.u64.bits a 3 (by simpa[IntKind.bits]using h) (by simp[IntKind.bits])
 have h2:((3:Nat):Int)=3:=rfl
 rw[h2]at h1
 rw[h1,show(3:Nat)=2^2-1 from rfl,Nat.and_two_pow_sub_one_eq_mod,fY (by omega)]
theorem Qk (a:Nat):((a:Int).fdiv (2^(min ((2:Int)).toNat IntKind.u64.bits)))=((a/4:Nat):Int):=by
 have:(2:Int)^(min ((2:Int)).toNat IntKind.u64.bits)=((4:Nat):Int):=by decide
 rw[this,Int.fdiv_eq_ediv_of_nonneg _ (by omega)];omega
theorem LA (o:mZ)(ho:I8 o)(H:ae):W env (.call 15 [.agg (eO o)]) H (qz (.int .u64 (tn o:Nat)) H):=by
 have h0:¬((2:Int)<0):=by decide
 have h1:=Qk o.id
 have h2:=Lz (o.id/4) (by have:=ho.1;omega)
 have h3:=Qj o.id ho.1
 have h4:IntKind.u64.wrap (1+((o.id/4%16:Nat):Int))=((1+o.id/4%16:Nat):Int):=by rw[fY (by omega)];omega
 have h5:IntKind.u64.wrap (65536*((1+o.id/4%16:Nat):Int))=((65536*(1+o.id/4%16):Nat):Int):=by rw[fY (by omega)];omega
 have h6:IntKind.u64.wrap (((65536*(1+o.id/4%16):Nat):Int)+((o.id%4:Nat):Int))=((tn o:Nat):Int):=by rw[fY (by omega)];unfold tn;omega
 refine W.cJ rfl rfl rfl ?_
 simp -implicitDefEqProofs only[Gs,eO,op,ef,cl,sq,reduceIte,j2,j3,j4,j5,j6,j7,j8,j9,y1,S1,S2,h0,h1,h2,h3,h4,h5,h6]
def E2 (i:Nat):ByteArray:=match i with
 | 0=>⟨#[]⟩
 | 1=>⟨#[97]⟩
 | 2=>⟨#[98]⟩
 | 3=>⟨#[99]⟩
 | 4=>⟨#[100]⟩
 | _=>⟨#[101]⟩
def LB (m i:Nat):Bool:=((IntKind.u8.wrap ((BitVec.ofInt IntKind.u8.bits ((m:Int).fdiv (2^(min (i:Int).toNat IntKind.u8.bits))) &&& BitVec.ofInt IntKind.u8.bits 1).toNat:Nat))==1)
set_option maxRecDepth 100000 in
theorem Bj:∀m:Fin 256,∀i:Fin 6,LB m i=m.val.testBit i:=by decide +kernel
theorem DL {m i:Nat}(hm:m<256)(hi:i<6):LB m i=m.testBit i:=Bj ⟨m,hm⟩ ⟨i,hi⟩
def cY (m:Nat):Nat→List ByteArray
 | 0=>[]
 | i+1=>cY m i++if m.testBit i then [E2 i]else []
def names (m:Nat):List ByteArray:=cY m 6
theorem eg (m:Nat):∀i,(cY m i).length≤i
 | 0=>Nat.le_refl _
 | i+1=>by
  have:=eg m i
  simp -implicitDefEqProofs only[cY,List.length_append]
  split<;>simp<;>omega
theorem dv {m:Nat}{x:ByteArray}:∀i,x∈cY m i↔∃j,j<i∧m.testBit j=true∧x=E2 j
 | 0=>by simp[cY]
 | i+1=>by
  simp -implicitDefEqProofs only[cY,List.mem_append,dv i]
  constructor
  ·rintro (⟨j,h1,h2⟩|h)
   ·exact⟨j,by omega,h2⟩
   ·split at h
    ·rename_i hb;simp at h;exact⟨i,by omega,hb,h⟩
    ·simp at h
  ·rintro⟨j,h1,h2,h3⟩
   by_cases e:j=i
   ·subst e;rw[if_pos h2];exact .inr (by simp[h3])
   ·exact .inl ⟨j,by omega,h2,h3⟩
theorem HW:∀i j:Fin 6,i<j→strLt (E2 i) (E2 j)=true:=by decide +kernel
theorem lZ (m:Nat):∀i,i≤6→(cY m i).Pairwise (fun a b=>strLt a b=true)
 | 0,_=>by simp[cY]
 | i+1,h=>by
  simp -implicitDefEqProofs only[cY]
  rw[List.pairwise_append]
  refine⟨lZ m i (by omega),by split<;>simp,fun a ha b hb=>?_⟩
  obtain⟨j,h1,_,rfl⟩:=(dv i).1 ha
  split at hb
  ·simp at hb;subst hb
   exact HW ⟨j,by omega⟩ ⟨i,by omega⟩ h1
  ·simp at hb
theorem vY (m:Nat)(hm:m<256)(H:ae):W env (.call 32 [.int .u8 m]) H (fun o H'=>Ext H H'∧∃k,jh k (names m)∧o=.val (.sl k ((names m).map eS))):=by
 refine W.cJ rfl rfl rfl ?_
 simp -implicitDefEqProofs only[Gz,op,ef,cl,sq,reduceIte,j2,j3,j4,j5,j6,j7,j8,j9,y1,S1]
 refine W.fZ [(0,_),(3,_)] (fun (i:Nat) R H'=>At H' (fun H'=>∃kw,R 4=.sl kw ((cY m i).map eS)∧Ext H H'∧AH H.length H' kw∧jh kw (cY m i))∧R 5=.int .i64 i∧i≤6) (fun i=>6-i) 0 ⟨.i ⟨.nil,rfl,Ext.rfl',kX _ _,fun _=>rfl⟩,rfl,Nat.zero_le _⟩ ?_
 rintro i R H1⟨⟨kw,g4,hx,kp,pX⟩,g5,hi⟩
 by_cases au:i<6
 ·have mI:=aF (show i<9223372036854775807 by omega)
  have nn:¬(i:Int)<0:=by omega
  have hb:(IntKind.u8.wrap ((BitVec.ofInt IntKind.u8.bits ((m:Int).fdiv (2^(min (i:Int).toNat IntKind.u8.bits))) &&& BitVec.ofInt IntKind.u8.bits 1).toNat:Nat)==1)=m.testBit i:=DL hm au
  have qK:ew 1 i (.sl .full [[T.str ⟨#[]⟩],[T.str ⟨#[97]⟩],[T.str ⟨#[98]⟩],[T.str ⟨#[99]⟩],[T.str ⟨#[100]⟩],[T.str ⟨#[101]⟩]])=some (.cy [.str (E2 i)]):=by
   have hc:i=0∨i=1∨i=2∨i=3∨i=4∨i=5:=by omega
   rcases hc with rfl|rfl|rfl|rfl|rfl|rfl<;>rfl
  cases Hu:m.testBit i
  ·rw[Hu]at hb
   simp -implicitDefEqProofs only[ar,ak,op,ef,cl,sq,reduceIte,j2,j3,j4,j5,j6,j7,j8,j9,y1,S1,g4,g5,au,nn,hb,mI]
   exact⟨i+1,by omega,.i ⟨kw,by simp -implicitDefEqProofs only[op,ef,cl,sq,reduceIte,j2,j3,j4,j5,j6,j7,j8,j9,y1,S1,g4,cY,Hu],hx,kp,by simpa[cY,Hu]using pX⟩,rfl,by omega⟩
  ·rw[Hu]at hb
   have hl:=eg m i
   have dI:=all_map (enc:=eS) (n:=1) (fun _=>rfl) (cY m i)
   obtain⟨k',H',ha,qR,cn⟩:=kg (bytes:=16) ((cY m i).map eS) [[T.str (E2 i)]] kp hx.len (by simp) (ja (by simp;omega) (by omega))
   have qf:=um ha (by simp)
   simp -implicitDefEqProofs only[op,ef,cl,sq,reduceIte,j2,j3,j4,j5,j6,j7,j8,j9,y1,S1]at ha
   simp -implicitDefEqProofs only[ar,ak,op,ef,cl,sq,reduceIte,j2,j3,j4,j5,j6,j7,j8,j9,y1,S1,g4,g5,au,nn,hb,aa,qK,dI,ha,mI]
   exact⟨i+1,by omega,.i ⟨k',by simp -implicitDefEqProofs only[op,ef,cl,sq,reduceIte,j2,j3,j4,j5,j6,j7,j8,j9,y1,S1,cY,Hu,if_true,List.map_append,eS],cn.ext H (Nat.le_refl _) hx,qR,fun h=>absurd h qf⟩,rfl,by omega⟩
 ·have U1:i=6:=by omega
  subst U1
  simp -implicitDefEqProofs only[ar,ak,op,ef,cl,sq,reduceIte,j2,j3,j4,j5,j6,j7,j8,j9,y1,S1,g4,g5,au]
  exact⟨hx,kw,pX,rfl⟩
def mw (v:ByteArray):ByteArray:=v.extract 0 (min v.size 300)
theorem uG (v:ByteArray):(mw v).size≤300:=by simp -implicitDefEqProofs only[mw,ByteArray.size_extract];omega
def bQ (o:mZ):List (ByteArray×ByteArray):=(names (o.keys &&& o.some)).map fun k=>(k,mw o.value)
def ik (o:mZ):List ByteArray:=names o.keys
theorem uH (o:mZ):(bQ o).length≤6:=by simpa[bQ,names]using eg (o.keys &&& o.some) 6
theorem xL (o:mZ):(ik o).length≤6:=eg o.keys 6
theorem Ql (a b:Nat)(ha:a<256)(hb:b<256):IntKind.u8.wrap ((BitVec.ofInt IntKind.u8.bits (a:Int) &&& BitVec.ofInt IntKind.u8.bits (b:Int)).toNat:Nat)=((a &&& b:Nat):Int):=by
 have h1:=mY IntKind.u8.bits a b (by simpa[IntKind.bits]using ha) (by simpa[IntKind.bits]using hb)
 have:a &&& b≤a:=Nat.and_le_left
 rw[h1,HV (by omega)]
theorem DM (o:mZ)(ho:I8 o)(H:ae):W env (.call 13 [.agg (eO o)]) H (fun u H'=>Ext H H'∧∃k k',jh k (bQ o)∧jh k' (ik o)∧u=.val (.bE [.sl k ((bQ o).map eP),.sl k' ((ik o).map eS)])):=by
 have hand:=Ql o.keys o.some ho.2.1 ho.2.2
 have au:o.keys &&& o.some<256:=Nat.lt_of_le_of_lt Nat.and_le_left ho.2.1
 refine W.cJ rfl rfl rfl ?_
 simp -implicitDefEqProofs only[Gr,eO,op,ef,cl,sq,reduceIte,j2,j3,j4,j5,j6,j7,j8,j9,y1,S1,S2]
 have D6:Ext H (H++[B.cells [T.int IntKind.i64 o.kind,T.int IntKind.u64 o.id,T.int IntKind.u8 o.keys,T.int IntKind.u8 o.some,T.str o.value]]):=⟨_,rfl⟩
 refine af _ _ _ _ _ _ _ _ (vY o.keys ho.2.1 _) ?_
 rintro u H1⟨nH,k1,oH,hu⟩
 cases hu
 have kK:H1[H.length]?=some (.cells [T.int IntKind.i64 o.kind,T.int IntKind.u64 o.id,T.int IntKind.u8 o.keys,T.int IntKind.u8 o.some,T.str o.value]):=nH.get (aZ rfl)
 simp -implicitDefEqProofs only[op,ef,cl,sq,reduceIte,j2,j3,j4,j5,j6,j7,j8,j9,y1,S1,kK,hand]
 refine af _ _ _ _ _ _ _ _ (vY (o.keys &&& o.some) au _) ?_
 rintro u H2⟨EL,k2,uY,hu⟩
 cases hu
 have oS:=EL.get kK
 obtain⟨ns,wL⟩:∃ns,ns=names (o.keys &&& o.some):=⟨_,rfl⟩
 have JN:ns.length≤6:=by rw[wL];exact eg _ 6
 rw[←wL]
 have tj:Ext H H2:=(D6.trans nH).trans EL
 have lH:=a6 oS
 simp -implicitDefEqProofs only[op,ef,cl,sq,reduceIte,j2,j3,j4,j5,j6,j7,j8,j9,y1,S1,List.length_map]
 refine W.fZ [(1,_),(4,_),(5,_)] (fun (i:Nat) R H'=>At H' (fun H'=>∃kw,R 6=.sl kw (((ns.take i).map fun k=>(k,mw o.value)).map eP)∧Ext H2 H'∧AH H2.length H' kw∧jh kw (ns.take i))∧R 7=.int .i64 i∧i≤ns.length) (fun i=>ns.length-i) 0 ⟨.i ⟨.nil,rfl,Ext.rfl',kX _ _,fun _=>rfl⟩,rfl,Nat.zero_le _⟩ ?_
 rintro i R H3⟨⟨kw,g6,hx,kp,pX⟩,g7,hi⟩
 by_cases au:i<ns.length
 ·obtain⟨x,qE⟩:=cF au
  have ix:=lS (e:=eS) (n:=1) (fun _=>rfl) (by decide) (k:=k2) qE
  have mI:=aF (show i<9223372036854775807 by omega)
  have P0:=hx.get oS
  have dI:=all_map (enc:=eP) (n:=2) (fun _=>rfl) ((ns.take i).map fun k=>(k,mw o.value))
  have Jr:(if (300:Int)<(o.value.size:Int)then(300:Int)else(o.value.size:Int))=((min o.value.size 300:Nat):Int):=by split<;>omega
  have hle:min o.value.size 300≤o.value.size:=Nat.min_le_left _ _
  obtain⟨k',H',ha,qR,cn⟩:=kg (bytes:=32) (((ns.take i).map fun k=>(k,mw o.value)).map eP) [[T.str x,T.str (mw o.value)]] kp hx.len (by simp) (ja (by simp;omega) (by omega))
  have qf:=um ha (by simp)
  simp -implicitDefEqProofs only[op,ef,cl,sq,reduceIte,j2,j3,j4,j5,j6,j7,j8,j9,y1,S1]at ha
  unfold mw at *
  simp -implicitDefEqProofs only[ar,ak,op,ef,cl,sq,reduceIte,j2,j3,j4,j5,j6,j7,j8,j9,y1,S1,g6,g7,au,aa,ix,eS,P0,Jr,hle,Nat.zero_le,and_self,dI,ha,mI]
  refine⟨i+1,by omega,.i ⟨k',?_,cn.ext H2 (Nat.le_refl _) hx,qR,fun h=>absurd h qf⟩,rfl,by omega⟩
  simp -implicitDefEqProofs only[op,ef,cl,sq,reduceIte,j2,j3,j4,j5,j6,j7,j8,j9,y1,S1,bA qE,List.map_append,eP]
 ·have tJ:i=ns.length:=by omega
  subst tJ
  rw[List.take_length]at g6 pX
  simp -implicitDefEqProofs only[ar,ak,op,ef,cl,sq,reduceIte,j2,j3,j4,j5,j6,j7,j8,j9,y1,S1,List.length_map,g6,g7,au]
  refine⟨tj.trans hx,kw,k1,fun h=>?_,oH,?_⟩
  ·simp -implicitDefEqProofs only[bQ,←wL,pX h,List.map_nil]
  ·rw[wL];rfl
theorem p9 {l:List ByteArray}(h:l.Pairwise (fun a b=>strLt a b=true)){i j:Nat}{a b:ByteArray}(oL:i<j)(ha:l[i]?=some a)(hb:l[j]?=some b):strLt a b=true:=by
 obtain⟨h1,e1⟩:=List.getElem?_eq_some_iff.1 ha
 obtain⟨h2,e2⟩:=List.getElem?_eq_some_iff.1 hb
 have:=List.pairwise_iff_getElem.1 h i j h1 h2 oL
 rwa[e1,e2]at this
theorem Bl (j:Nat):(E2 j).size≤1:=by
 unfold E2;split<;>decide
theorem uI {m:Nat}(h:names m≠[]):fM (names m):=by
 have hp:=lZ m 6 (Nat.le_refl _)
 have hl:=eg m 6
 refine⟨fun i hi x hx=>⟨?_,fun h0 y hy=>p9 hp (by omega) hy hx⟩,?_,by unfold names;omega⟩
 ·obtain⟨j,_,_,rfl⟩:=(dv 6).1 (List.mem_of_getElem? hx)
  have:=Bl j;omega
 ·cases e:names m with
  | nil=>exact absurd e h
  | cons x l=>simp
theorem qa {a b:Nat}{x:ByteArray}(h:x∈names (a &&& b)):x∈names a:=by
 obtain⟨j,h1,h2,h3⟩:=(dv 6).1 h
 rw[Nat.testBit_and,Bool.and_eq_true]at h2
 exact(dv 6).2 ⟨j,h1,h2.1,h3⟩
theorem LC (o:mZ)(ba:bQ o≠[]):mG (tn o) (bQ o) (ik o):=by
 have hp:=lZ (o.keys &&& o.some) 6 (Nat.le_refl _)
 have hn:names (o.keys &&& o.some)≠[]:=fun h=>ba (by simp[bQ,h])
 have hk:ik o≠[]:=fun h=>by
  obtain⟨x,hx⟩:=List.exists_mem_of_ne_nil _ hn
  have:=qa hx
  have h:names o.keys=[]:=h
  rw[h]at this;cases this
 have hs:=uG o.value
 refine⟨Bi o,uI hk,?_,fun i hi p mB=>?_⟩
 ·cases e:bQ o with
  | nil=>exact absurd e ba
  | cons x l=>simp
 ·unfold bQ at mB
  rw[List.getElem?_map]at mB
  cases hk:(names (o.keys &&& o.some))[i]? with
  | none=>rw[hk]at mB;cases mB
  | some k =>
   rw[hk]at mB;cases mB
   refine⟨fun h0 q hq=>?_,qa (List.mem_of_getElem? hk),by simp only;omega⟩
   unfold bQ at hq
   rw[List.getElem?_map]at hq
   cases uY:(names (o.keys &&& o.some))[i-1]? with
   | none=>rw[uY]at hq;cases hq
   | some k2=>rw[uY]at hq;cases hq;exact p9 hp (by omega) uY hk
theorem LD {b:Bk}{a:Ab}{F:Nat→Prop}{m:Nat}(n:Nat)(k k':SK)(l:List (ByteArray×ByteArray))(ks:List ByteArray)(now:Int){H:ae}(h:jC H b a F m)(hl:l.length≤8000000)(L1:ks.length≤8000000)(hm:¬(mG n l ks∧cM now)) :
  W env (.call 14 [.ptr b.s 0,.int .u64 n,.sl k (l.map eP),.sl k' (ks.map eS),.int .i64 now]) H (fun o H'=>o=.val (.bE [.bool false,.int .i64 1])∧Ext H H'):=by
 refine W.cJ rfl rfl rfl ?_
 simp -implicitDefEqProofs only[Dj,op,ef,cl,sq,reduceIte,j2,j3,j4,j5,j6,j7,j8,j9,y1,S1]
 refine af _ _ _ _ _ _ _ _ (EP n k k' l ks _ (by omega) (by omega)) ?_
 rintro u H1⟨nH,bb,hu,hb⟩
 cases hu
 cases bb
 ·simp -implicitDefEqProofs only[op,ef,cl,sq,reduceIte,j2,j3,j4,j5,j6,j7,j8,j9,y1,S1];exact nH
 ·simp -implicitDefEqProofs only[op,ef,cl,sq,reduceIte,j2,j3,j4,j5,j6,j7,j8,j9,y1,S1]
  refine af _ _ _ _ _ _ _ _ (uk now _) ?_
  rintro u H2⟨hu,rfl⟩
  cases hu
  have hf:(decide (0≤now)&&decide (now≤1099511627776))=false:=by
   rw[Bool.and_eq_false_iff,decide_eq_false_iff_not,decide_eq_false_iff_not]
   have:¬cM now:=fun h=>hm ⟨hb.1 rfl,h⟩
   unfold cM at this;omega
  simp -implicitDefEqProofs only[op,ef,cl,sq,reduceIte,j2,j3,j4,j5,j6,j7,j8,j9,y1,S1,hf]
  exact nH
theorem LF {b:Bk}{a:Ab}{F:Nat→Prop}{m:Nat}(n:Nat){H:ae}(h:jC H b a F m):W env (.call 28 [.ptr b.s 0,.int .u64 n]) H (fun o H'=>H'=H∧∃D:List ByteArray,D.Nodup∧(∀k,k∈D↔a.has (k,n)=true)∧o=.val (.int .i64 D.length)):=by
 obtain⟨s,⟨im,pm,sa⟩,hi,rfl,h4,h5⟩:=h
 obtain⟨t,BJ⟩:∃t,gY (ah pm n) (.sl .nil []) false=t:=⟨_,rfl⟩
 have My:ey H .sl t=some (s.dz n).length:=by
  have:=(sa.op n).mut
  rw[BJ]at this
  rcases this with⟨e,rfl⟩|⟨c,rfl,_,_⟩
  ·rw[e];rfl
  ·rfl
 refine W.cJ rfl rfl rfl ?_
 simp -implicitDefEqProofs only[Gw,op,ef,cl,sq,reduceIte,j2,j3,j4,j5,j6,j7,j8,j9,y1,S1,sa.hs,sa.hp,gZ,BJ,My]
 exact⟨s.dz n,hi.ER n,fun k=>by rw[hi.BH];simp[Ab.has,eT],rfl⟩
def bg (a:Ab)(m:Nm):Int:=(o5 (a.v m)).bh
def je (a:Ab)(now r:Int)(m:Nm):Bool:=decide (0≤bg a m)&&decide (bg a m≤now-r)
def dN (a:Ab)(now r:Int)(l:List Nm):List Nm:=l.filter (je a now r)
def qb (r:Int):Prop:=0≤r∧r≤1048576
theorem oC (a:Ab)(now r:Int)(l:List Nm):(dN a now r l).length≤l.length:=List.length_filter_le _ _
theorem sZ {α:Type}{p:α→Bool}{l:List α}{i:Nat}{x:α}(hx:l[i]?=some x):(l.take (i+1)).filter p=(l.take i).filter p++if p x then [x]else []:=by
 rw[bA hx,List.filter_append];congr 1
 cases h:p x<;>simp[h]
theorem dM.le {α:Type}{enc:α→List T}{n n0 n1:Nat}{H:ae}{t:T}{l:List α}(h:dM enc n n0 H t l)(hn:n1≤n0):dM enc n n1 H t l:=by
 rcases h with h|⟨c,h1,h2,h3⟩
 ·exact .inl h
 ·exact .inr ⟨c,h1,h2,Nat.le_trans hn h3⟩
theorem hU {α:Type}{enc:α→List T}{n n0:Nat}{H:ae}{t:T}{l:List α}(h:dM enc n n0 H t l):∀Hx,ey Hx .sl t=some l.length:=fun Hx=>by
 rcases h with⟨e,rfl⟩|⟨c,rfl,_,_⟩
 ·rw[e];rfl
 ·rfl
theorem DN {α:Type}{enc:α→List T}{n n0:Nat}{H:ae}{t:T}{l:List α}(h:dM enc n n0 H t l):wz t=t:=by
 rcases h with⟨_,rfl⟩|⟨c,rfl,_⟩<;>rfl
theorem lr {α:Type}{enc:α→List T}{n n0:Nat}{H H':ae}{G:Nat→Prop}{t:T}{l:List α}(h:dM enc n n0 H t l)(hf:bO G H H')(hg:∀c,tb t=some c→n0≤c→¬G c):dM enc n n0 H' t l:=by
 rcases h with h|⟨c,rfl,hc,h0⟩
 ·exact .inl h
 ·exact .inr ⟨c,rfl,hf.get hc (hg c rfl h0),h0⟩
theorem Bm {b:Bk}{a:Ab}{F:Nat→Prop}{m:Nat}(now r:Int){H:ae}(h:jC H b a F m)(hm:m≤8000000)(ht:cM now)(hr:qb r):W env (.call 9 [.ptr b.s 0,.int .i64 now,.int .i64 r]) H (fun o H'=>Ext H H'∧∃t l,dM eW 2 H.length H' t (dN a now r l)∧(dN a now r l=[]→t=.sl .nil [])∧Names a l∧l.length≤m∧o=.val (.bE [t,.int .i64 0])):=by
 have h1:(decide (0≤now)&&decide (now≤1099511627776))=true:=by simp[ht.1,ht.2]
 have h2:(decide (0≤r)&&decide (r≤1048576))=true:=by simp[hr.1,hr.2]
 have hw:IntKind.i64.wrap (now-r)=now-r:=by
  have:=ht.1;have:=ht.2;have:=hr.1;have:=hr.2
  rw[wrap64 (by omega)]
 refine W.cJ rfl rfl rfl ?_
 simp -implicitDefEqProofs only[Ob,op,ef,cl,sq,reduceIte,j2,j3,j4,j5,j6,j7,j8,j9,y1,S1,eV,dS]
 refine af _ _ _ _ _ _ _ _ (HU now _) ?_
 rintro u H1⟨hu,rfl⟩
 cases hu
 simp -implicitDefEqProofs only[op,ef,cl,sq,reduceIte,j2,j3,j4,j5,j6,j7,j8,j9,y1,S1,h1]
 refine af _ _ _ _ _ _ _ _ (E1 r _) ?_
 rintro u H2⟨hu,rfl⟩
 cases hu
 simp -implicitDefEqProofs only[op,ef,cl,sq,reduceIte,j2,j3,j4,j5,j6,j7,j8,j9,y1,S1,h2]
 refine af _ _ _ _ _ _ _ _ (E0 h hm) ?_
 rintro u H3⟨tj,k,l,pX,hn,oG,hu⟩
 cases hu
 simp -implicitDefEqProofs only[op,ef,cl,sq,reduceIte,j2,j3,j4,j5,j6,j7,j8,j9,y1,S1,List.length_map]
 refine W.fZ [(1,_),(2,_),(24,_),(25,_)] (fun (i:Nat) R H'=>At H' (fun H'=>∃t,R 8=t∧Ext H3 H'∧dM eW 2 H3.length H' t (dN a now r (l.take i))∧(dN a now r (l.take i)=[]→t=.sl .nil []))∧R 26=.int .i64 i∧i≤l.length) (fun i=>l.length-i) 0 ⟨.i ⟨_,rfl,Ext.rfl',mS _ _ _ _,fun _=>rfl⟩,rfl,Nat.zero_le _⟩ ?_
 rintro i R H4⟨⟨tw,g8,hx,kp,MR⟩,HX,hi⟩
 by_cases au:i<l.length
 ·obtain⟨x,qE⟩:=cF au
  have ix:=lS (e:=Bh a) (n:=5) (fun _=>rfl) (by decide) (k:=k) qE
  have mI:=aF (show i<9223372036854775807 by omega)
  obtain⟨hd,lW⟩:∃hd,hd=o5 (a.v x):=⟨_,rfl⟩
  have cn:bg a x=hd.bh:=by rw[lW];rfl
  have I9:=sZ (p:=je a now r) qE
  have o0:∀y:B,Ext H4 (H4++[y]):=fun y=>⟨_,rfl⟩
  by_cases h0:0≤hd.bh
  ·by_cases h3:hd.bh≤now-r
   ·have Bn:je a now r x=true:=by simp[je,cn,h0,h3]
    rw[Bn]at I9
    have QO:=oC a now r (l.take i)
    have Gl:=DN kp
    obtain⟨t',H',ha,qR,uv⟩:=mT (enc:=eW) (n:=2) (fun _=>rfl) (bytes:=24) [x] (kp.ext (o0 (.cells [.str x.1,.int .u64 x.2,.str hd.value,.sl .arg (hd.keys.map eS),.int .i64 hd.bh]))) (Nat.le_trans hx.len (o0 _).len) (by simp) (ja (by simp at QO ⊢;omega) (by omega))
    simp -implicitDefEqProofs only[op,ef,cl,sq,reduceIte,j2,j3,j4,j5,j6,j7,j8,j9,y1,S1,eW]at ha
    simp -implicitDefEqProofs only[ar,ak,op,ef,cl,sq,reduceIte,j2,j3,j4,j5,j6,j7,j8,j9,y1,S1,S2,g8,HX,au,aa,ix,Bh,←lW,h0,h3,hw,Gl,ha,mI]
    have uj:dN a now r (l.take (i+1))=dN a now r (l.take i)++[x]:=by simpa[dN]using I9
    exact⟨i+1,by omega,.i ⟨t',rfl,uv.ext H3 (Nat.le_refl _) (hx.trans (o0 _)),by rw[uj];exact qR,fun h=>by rw[uj]at h;simp at h⟩,rfl,by omega⟩
   ·have Bn:je a now r x=false:=by simp[je,cn,h3]
    rw[Bn]at I9
    simp -implicitDefEqProofs only[ar,ak,op,ef,cl,sq,reduceIte,j2,j3,j4,j5,j6,j7,j8,j9,y1,S1,S2,g8,HX,au,aa,ix,Bh,←lW,h0,h3,hw,mI]
    have uj:dN a now r (l.take (i+1))=dN a now r (l.take i):=by simpa[dN]using I9
    exact⟨i+1,by omega,.i ⟨tw,rfl,hx.trans (o0 _),by rw[uj];exact kp.ext (o0 _),by rw[uj];exact MR⟩,rfl,by omega⟩
  ·have Bn:je a now r x=false:=by simp[je,cn,h0]
   rw[Bn]at I9
   simp -implicitDefEqProofs only[ar,ak,op,ef,cl,sq,reduceIte,j2,j3,j4,j5,j6,j7,j8,j9,y1,S1,S2,g8,HX,au,aa,ix,Bh,←lW,h0,mI]
   have uj:dN a now r (l.take (i+1))=dN a now r (l.take i):=by simpa[dN]using I9
   exact⟨i+1,by omega,.i ⟨tw,rfl,hx.trans (o0 _),by rw[uj];exact kp.ext (o0 _),by rw[uj];exact MR⟩,rfl,by omega⟩
 ·have tJ:i=l.length:=by omega
  subst tJ
  rw[List.take_length]at kp MR
  simp -implicitDefEqProofs only[ar,ak,op,ef,cl,sq,reduceIte,j2,j3,j4,j5,j6,j7,j8,j9,y1,S1,List.length_map,g8,HX,au]
  exact⟨tj.trans hx,tw,l,dM.le (enc:=eW) (n:=2) kp tj.len,MR,hn,oG,rfl⟩
def o6 (D:List Nm)(m:Nm):Bool:=D.any fun x=>decide (x=m)
theorem s7 {D:List Nm}{m:Nm}:o6 D m=true↔m∈D:=by simp[o6]
theorem vZ {D:List Nm}{m:Nm}(h:m∉D):o6 D m=false:=by
 cases e:o6 D m with
 | false=>rfl
 | true=>exact absurd (s7.1 e) h
def Ab.jD (a:Ab)(D:List Nm):Ab:=⟨fun m=>if o6 D m=true then none else a.v m,a.l⟩
theorem Bp (a:Ab):a.jD []=a:=by cases a;rfl
theorem HY (a:Ab)(D:List Nm)(x:Nm):(a.jD D).cut x=a.jD (D++[x]):=qU (fun m=>by
 have e:o6 (D++[x]) m=(o6 D m||decide (x=m)):=by simp[o6]
 simp -implicitDefEqProofs only[Ab.cut,Ab.jD,e]
 by_cases h:m=x
 ·subst h;simp
 ·simp[h,Ne.symm h]) fun _=>rfl
theorem DP {a:Ab}{now r:Int}{l:List Nm}{x:Nm}(hn:Names a l)(hx:x∈dN a now r l):∃h,a.v x=some h∧0≤h.bh∧h.bh≤now-r:=by
 obtain⟨h1,h2⟩:=List.mem_filter.1 hx
 have h3:=(hn.2 x).1 h1
 simp -implicitDefEqProofs only[Ab.has,Option.isSome_iff_exists]at h3
 obtain⟨h,h3⟩:=h3
 simp -implicitDefEqProofs only[je,bg,h3,o5,Option.getD_some,Bool.and_eq_true,decide_eq_true_eq]at h2
 exact⟨h,h3,h2⟩
theorem DQ {a:Ab}{now r:Int}{l:List Nm}(hn:Names a l):(dN a now r l).Nodup:=hn.nd.sublist List.filter_sublist
theorem l9 {b:Bk}{a:Ab}{F:Nat→Prop}{m:Nat}(now r:Int){H:ae}(h:jC H b a F m)(hF:∀c,F c→c<H.length)(hm:m≤8000000)(ht:cM now)(hr:qb r):W env (.call 11 [.ptr b.s 0,.int .i64 now,.int .i64 r]) H (fun o H'=>∃t l,dM eW 2 H.length H' t (dN a now r l)∧Names a l∧l.length≤m∧o=.val (.bE [t,.int .i64 0])∧jC H' b (a.jD (dN a now r l)) F m∧bO F H H'):=by
 refine W.cJ rfl rfl rfl ?_
 simp -implicitDefEqProofs only[Gp,op,ef,cl,sq,reduceIte,j2,j3,j4,j5,j6,j7,j8,j9,y1,S1]
 refine af _ _ _ _ _ _ _ _ (Bm now r h hm ht hr) ?_
 rintro u H1⟨nH,t,l,HZ,_,hn,oG,hu⟩
 cases hu
 obtain⟨D,hD⟩:∃D,D=dN a now r l:=⟨_,rfl⟩
 have Qm:=oC a now r l
 have L5:=fun x=>DP (a:=a) (now:=now) (r:=r) (l:=l) (x:=x) hn
 have yX:=DQ (now:=now) (r:=r) hn
 rw[←hD]at Qm L5 yX HZ
 have hlen:=hU HZ
 simp -implicitDefEqProofs only[op,ef,cl,sq,reduceIte,j2,j3,j4,j5,j6,j7,j8,j9,y1,S1,hlen]
 refine W.fZ [(0,_),(8,_),(9,_),(19,_),(20,_)] (fun (i:Nat) R H'=>At H' (fun H'=>jC H' b (a.jD (D.take i)) F m∧bO F H H'∧dM eW 2 H.length H' t D)∧R 21=.int .i64 i∧i≤D.length) (fun i=>D.length-i) 0 ⟨.i ⟨by rw[List.take_zero,Bp];exact h.ext nH,aK nH,HZ⟩,rfl,Nat.zero_le _⟩ ?_
 rintro i R H2⟨⟨ha,hf,HZ⟩,DR,hi⟩
 by_cases au:i<D.length
 ·obtain⟨x,qE⟩:=cF au
  obtain⟨c,hc,ix,lx⟩:=pZ (enc:=eW) (n:=2) (fun _=>rfl) (by decide) HZ qE
  have lx:mE 2 (i*2) (some (.cells (aJ eW D)))=some [.str x.1,.int .u64 x.2]:=lx
  have mI:=aF (show i<9223372036854775807 by omega)
  obtain⟨hd,hv,h0,_⟩:=L5 x (List.mem_of_getElem? qE)
  have U2:x∉D.take i:=fun hh=>by
   obtain⟨j,hj,e2⟩:=List.getElem_of_mem hh
   have vT:j<i∧j<D.length:=by simp -implicitDefEqProofs only[List.length_take]at hj;omega
   have Ko:D[j]?=some x:=by rw[←e2];simp[List.getElem?_eq_getElem vT.2]
   have:=(List.getElem?_inj vT.2 yX).1 (Ko.trans qE.symm)
   omega
  have rI:(a.jD (D.take i)).v (x.1,x.2)=some hd:=by simp -implicitDefEqProofs only[Ab.jD,vZ U2,Bool.false_eq_true,if_false];exact hv
  have o0:∀y:B,Ext H2 (H2++[y]):=fun y=>⟨_,rfl⟩
  simp -implicitDefEqProofs only[ar,ak,op,ef,cl,sq,reduceIte,j2,j3,j4,j5,j6,j7,j8,j9,y1,S1,S2,hlen,DR,au,aa,ix,hc,lx]
  refine af _ _ _ _ _ _ _ _ (Lw x.1 x.2 (ha.ext (o0 _)) hm) ?_
  rintro u H3 (⟨hh,_⟩|⟨h',hh,I3,_⟩|⟨h',hh,I3,hu,Ja,uC⟩)
  ·rw[rI]at hh;cases hh
  ·rw[rI]at hh;cases hh;omega
  cases hu
  rw[HY,←bA qE]at Ja
  have Qn:=lr (HZ.ext (o0 _)) uC fun c _ hc LG=>by have:=hF c LG;omega
  simp -implicitDefEqProofs only[ar,ak,op,ef,cl,sq,reduceIte,j2,j3,j4,j5,j6,j7,j8,j9,y1,S1,DR,mI]
  exact⟨i+1,by omega,.i ⟨Ja,(hf.ext (o0 _)).trans uC fun c h=>.inl h,Qn⟩,rfl,by omega⟩
 ·have tJ:i=D.length:=by omega
  subst tJ
  rw[List.take_length]at ha
  simp -implicitDefEqProofs only[ar,ak,op,ef,cl,sq,reduceIte,j2,j3,j4,j5,j6,j7,j8,j9,y1,S1,hlen,DR,au]
  exact⟨t,l,by rw[←hD];exact HZ,hn,oG,rfl,by rw[←hD];exact ha,hf⟩
def uJ (a:Ab):Prop:=∀m h,a.v m=some h→h.bh=-1∨cM h.bh
theorem uJ.emp:uJ Ab.emp:=fun m h e=>by cases e
theorem uJ.put {a:Ab}(h:uJ a){n:Nat}{l:List (ByteArray×ByteArray)}{ks:List ByteArray}{now:Int}(ht:cM now):uJ (a.put n l ks now):=fun m x e=>by
 simp -implicitDefEqProofs only[Ab.put]at e
 cases h1:a.v m with
 | some y=>rw[h1]at e;cases e;exact h m _ h1
 | none =>
  rw[h1]at e
  simp only at e
  split at e
  ·cases h2:ah l m.1 with
   | none=>rw[h2]at e;cases e
   | some v =>
    rw[h2]at e;cases e
    simp only
    split
    ·exact .inr ht
    ·exact .inl rfl
  ·cases e
theorem uJ.qT {a:Ab}(h:uJ a){n:Nat}{now:Int}(ht:cM now):uJ (a.qT n now):=fun m x e=>by
 simp -implicitDefEqProofs only[Ab.qT]at e
 cases h1:a.v m with
 | none=>rw[h1]at e;cases e
 | some y =>
  rw[h1]at e;simp -implicitDefEqProofs only[Option.map_some,Option.some.injEq]at e;subst e
  split
  ·exact .inr ht
  ·exact h m y h1
theorem uJ.st {a:Ab}(h:uJ a){m:Nm}(hm:a.has m=true):bg a m=-1∨cM (bg a m):=by
 obtain⟨x,hx⟩:=Option.isSome_iff_exists.1 hm
 have:=h m x hx
 simp -implicitDefEqProofs only[bg,hx,o5,Option.getD_some];exact this
structure qV (a:Ab)(l:List Nm)(r at_:Int)(is:Bool):Prop where
 some:is=true↔∃m∈l,0≤bg a m
 on:is=true→∃m∈l,0≤bg a m∧at_=bg a m+r
 least:∀m∈l,0≤bg a m→at_≤bg a m+r
 off:is=false→at_=0
theorem qV.skip {a:Ab}{l:List Nm}{r t:Int}{is:Bool}(h:qV a l r t is){m:Nm}(hm:0≤bg a m→is=true∧t≤bg a m+r):qV a (l++[m]) r t is:=by
 refine⟨?_,fun e=>?_,fun x hx h0=>?_,h.off⟩
 ·rw[h.some]
  constructor
  ·rintro⟨x,hx,h0⟩;exact⟨x,List.mem_append_left _ hx,h0⟩
  ·rintro⟨x,hx,h0⟩
   rcases List.mem_append.1 hx with hx|hx
   ·exact⟨x,hx,h0⟩
   ·simp at hx;subst hx;exact h.some.1 (hm h0).1
 ·obtain⟨x,hx,h0⟩:=h.on e;exact⟨x,List.mem_append_left _ hx,h0⟩
 ·rcases List.mem_append.1 hx with hx|hx
  ·exact h.least x hx h0
  ·simp at hx;subst hx;exact(hm h0).2
theorem qV.take {a:Ab}{l:List Nm}{r t:Int}{is:Bool}(h:qV a l r t is){m:Nm}(h0:0≤bg a m)(hm:is=true→bg a m+r<t):qV a (l++[m]) r (bg a m+r) true:=by
 refine⟨⟨fun _=>⟨m,by simp,h0⟩,fun _=>rfl⟩,fun _=>⟨m,by simp,h0,rfl⟩,fun x hx h1=>?_,fun e=>by cases e⟩
 rcases List.mem_append.1 hx with hx|hx
 ·have:=h.least x hx h1
  have:=hm (h.some.2 ⟨x,hx,h1⟩)
  omega
 ·simp at hx;subst hx;exact Int.le_refl _
theorem Ia {b:Bk}{a:Ab}{F:Nat→Prop}{m:Nat}(r:Int){H:ae}(h:jC H b a F m)(hm:m≤8000000)(hT:uJ a)(hr:qb r):W env (.call 24 [.ptr b.s 0,.int .i64 r]) H (fun o H'=>Ext H H'∧∃l t is,Names a l∧qV a l r t is∧o=.val (.bE [.int .i64 t,.bool is,.int .i64 0])):=by
 have h2:(decide (0≤r)&&decide (r≤1048576))=true:=by simp[hr.1,hr.2]
 refine W.cJ rfl rfl rfl ?_
 simp -implicitDefEqProofs only[Gv,op,ef,cl,sq,reduceIte,j2,j3,j4,j5,j6,j7,j8,j9,y1,S1,eV,dS]
 refine af _ _ _ _ _ _ _ _ (E1 r _) ?_
 rintro u H2⟨hu,rfl⟩
 cases hu
 simp -implicitDefEqProofs only[op,ef,cl,sq,reduceIte,j2,j3,j4,j5,j6,j7,j8,j9,y1,S1,h2]
 refine af _ _ _ _ _ _ _ _ (E0 h hm) ?_
 rintro u H3⟨tj,k,l,pX,hn,oG,hu⟩
 cases hu
 simp -implicitDefEqProofs only[op,ef,cl,sq,reduceIte,j2,j3,j4,j5,j6,j7,j8,j9,y1,S1,List.length_map]
 refine W.fZ [(1,_),(19,_),(20,_)] (fun (i:Nat) R H'=>At H' (fun H'=>Ext H3 H'∧∃t is,R 7=.int .i64 t∧R 8=.bool is∧qV a (l.take i) r t is)∧R 21=.int .i64 i∧i≤l.length) (fun i=>l.length-i) 0 ⟨.i ⟨Ext.rfl',0,false,rfl,rfl,⟨(by simp),fun e=>(by cases e),(by simp),fun _=>rfl⟩⟩,rfl,Nat.zero_le _⟩ ?_
 rintro i R H4⟨⟨hx,t,is,g7,g8,hv⟩,DR,hi⟩
 by_cases au:i<l.length
 ·obtain⟨x,qE⟩:=cF au
  have ix:=lS (e:=Bh a) (n:=5) (fun _=>rfl) (by decide) (k:=k) qE
  have mI:=aF (show i<9223372036854775807 by omega)
  have cn:=hT.st ((hn.2 x).1 (List.mem_of_getElem? qE))
  obtain⟨st,hs⟩:∃st,st=bg a x:=⟨_,rfl⟩
  have gh:(o5 (a.v x)).bh=st:=by rw[hs];rfl
  have hw:IntKind.i64.wrap (st+r)=st+r:=by
   unfold cM qb at *
   rw[wrap64 (by omega)]
  have o0:∀y:B,Ext H3 (H4++[y]):=fun y=>hx.app _
  by_cases h0:0≤st
  ·cases is
   ·simp -implicitDefEqProofs only[ar,ak,op,ef,cl,sq,reduceIte,j2,j3,j4,j5,j6,j7,j8,j9,y1,S1,S2,g7,g8,DR,au,aa,ix,Bh,gh,h0,hw,mI]
    refine⟨i+1,by omega,.i ⟨o0 _,st+r,true,rfl,rfl,?_⟩,rfl,by omega⟩
    rw[bA qE,hs];exact hv.take (hs▸h0) (fun e=>by cases e)
   ·by_cases hl:st+r<t
    ·simp -implicitDefEqProofs only[ar,ak,op,ef,cl,sq,reduceIte,j2,j3,j4,j5,j6,j7,j8,j9,y1,S1,S2,g7,g8,DR,au,aa,ix,Bh,gh,h0,hl,hw,mI]
     refine⟨i+1,by omega,.i ⟨o0 _,st+r,true,rfl,rfl,?_⟩,rfl,by omega⟩
     rw[bA qE,hs];exact hv.take (hs▸h0) (fun _=>hs▸hl)
    ·simp -implicitDefEqProofs only[ar,ak,op,ef,cl,sq,reduceIte,j2,j3,j4,j5,j6,j7,j8,j9,y1,S1,S2,g7,g8,DR,au,aa,ix,Bh,gh,h0,hl,hw,mI]
     refine⟨i+1,by omega,.i ⟨o0 _,t,true,rfl,rfl,?_⟩,rfl,by omega⟩
     rw[bA qE];exact hv.skip fun _=>⟨rfl,by rw[←hs];omega⟩
  ·simp -implicitDefEqProofs only[ar,ak,op,ef,cl,sq,reduceIte,j2,j3,j4,j5,j6,j7,j8,j9,y1,S1,S2,g7,g8,DR,au,aa,ix,Bh,gh,h0,hw,mI]
   refine⟨i+1,by omega,.i ⟨o0 _,t,is,rfl,rfl,?_⟩,rfl,by omega⟩
   rw[bA qE];exact hv.skip fun h=>absurd (hs▸h) h0
 ·have tJ:i=l.length:=by omega
  subst tJ
  rw[List.take_length]at hv
  simp -implicitDefEqProofs only[ar,ak,op,ef,cl,sq,reduceIte,j2,j3,j4,j5,j6,j7,j8,j9,y1,S1,List.length_map,g7,g8,DR,au]
  exact⟨tj.trans hx,l,t,is,hn,hv,rfl⟩
def gH (s:Ab×Int)(o:mZ):Ab×Int :=
 if o.kind=1 then(if (bQ o).isEmpty=true then s.1 else s.1.put (tn o) (bQ o) (ik o) s.2,s.2)
 else if o.kind=2 then(s.1.qT (tn o) s.2,s.2)else(s.1,s.2+(o.id%8:Nat))
def xM (l:List mZ):Ab×Int:=l.foldl gH (Ab.emp,0)
theorem Bq {l:List mZ}{i:Nat}{o:mZ}(h:l[i]?=some o):xM (l.take (i+1))=gH (xM (l.take i)) o:=by
 rw[bA h];simp[xM]
structure v9 (s:Ab×Int)(i:Nat):Prop where
 t:0≤s.2∧s.2≤7*i
 st:uJ s.1
 MS:∀k,(s.1.l k).isSome=true→k∈names 63
 key:∀m,s.1.has m=true→m.1∈names 63
theorem we {a:Ab}{n:Nat}{l:List (ByteArray×ByteArray)}{ks:List ByteArray}{now:Int}{m:Nm}:(a.put n l ks now).has m=(a.has m||(decide (m.2=n)&&(ah l m.1).isSome)):=by
 simp -implicitDefEqProofs only[Ab.has,Ab.put]
 cases h:a.v m with
 | some x=>simp
 | none =>
  by_cases e:m.2=n
  ·simp[e]
  ·simp[e]
theorem wg {a:Ab}{n:Nat}{now:Int}{m:Nm}:(a.qT n now).has m=a.has m:=by
 simp -implicitDefEqProofs only[Ab.has,Ab.qT,Option.isSome_map]
theorem DS {m:Nat}{x:ByteArray}(h:x∈names m):x∈names 63:=by
 obtain⟨j,h1,h2,h3⟩:=(dv 6).1 h
 refine(dv 6).2 ⟨j,h1,?_,h3⟩
 have:∀j:Fin 6,(63:Nat).testBit j=true:=by decide
 exact this ⟨j,h1⟩
theorem xN {α β:Type}[DecidableEq α]{es:List (α×β)}{k:α}(h:(ah es k).isSome=true):k∈es.map (·.1):=by rw[mem_keys];exact h
theorem v9.step {s:Ab×Int}{i:Nat}(h:v9 s i)(hi:i≤1048576)(o:mZ):v9 (gH s o) (i+1):=by
 have ht:cM s.2:=⟨h.t.1,by have:=h.t.2;omega⟩
 unfold gH
 split
 ·split
  ·exact⟨⟨h.t.1,by have:=h.t.2;simp only;omega⟩,h.st,h.MS,h.key⟩
  ·refine⟨⟨h.t.1,by have:=h.t.2;simp only;omega⟩,h.st.put ht,h.MS,fun m hm=>?_⟩
   simp -implicitDefEqProofs only[we,Bool.or_eq_true,Bool.and_eq_true]at hm
   rcases hm with hm|hm
   ·exact h.key m hm
   ·have:=xN hm.2
    simp -implicitDefEqProofs only[bQ,List.map_map,List.mem_map]at this
    obtain⟨x,hx,e⟩:=this
    exact e▸DS hx
 ·split
  ·refine⟨⟨h.t.1,by have:=h.t.2;simp only;omega⟩,h.st.qT ht,fun k hk=>?_,fun m hm=>h.key m (by rw[wg]at hm;exact hm)⟩
   simp -implicitDefEqProofs only[Ab.qT]at hk
   split at hk
   ·rename_i hc;exact h.key (k,_) hc.1
   ·exact h.MS k hk
  ·refine⟨⟨?_,?_⟩,h.st,h.MS,h.key⟩
   ·have:=h.t.1;simp only;omega
   ·have:=h.t.2;simp only;omega
theorem wh:∀(l:List mZ),l.length≤1048576→∀i,i≤l.length→v9 (xM (l.take i)) i
 | l,_,0,_=>by
  rw[List.take_zero]
  exact⟨⟨Int.le_refl _,Int.le_refl _⟩,uJ.emp,fun k h=>(by cases h),fun m h=>(by cases h)⟩
 | l,hl,i+1,h=>by
  obtain⟨o,ho⟩:=cF (l:=l) (i:=i) (by omega)
  rw[Bq ho]
  exact(wh l hl i (by omega)).step (by omega) o
theorem Qo {b:Bk}{a:Ab}{F:Nat→Prop}{m:Nat}(o:mZ)(k k':SK)(now:Int){H:ae}(h:jC H b a F m)(hn:m+6≤8000000)(pX:jh k' (ik o))(ht:cM now) :
  W env (.call 14 [.ptr b.s 0,.int .u64 (tn o:Nat),.sl k ((bQ o).map eP),.sl k' ((ik o).map eS),.int .i64 now]) H (fun u H'=>∃F',(u=if (bQ o).isEmpty=true then .val (.bE [.bool false,.int .i64 1])else .val (.bE [.bool (a.fresh (tn o) (bQ o)),.int .i64 0]))∧jC H' b (if (bQ o).isEmpty=true then a else a.put (tn o) (bQ o) (ik o) now) F' (m+6)∧bO F H H'∧Qh F F' H H'):=by
 have h6:=uH o
 have k6:=xL o
 by_cases he:(bQ o).isEmpty=true
 ·refine W.use (LD (tn o) k k' (bQ o) (ik o) now h (by omega) (by omega) fun hh=>?_) fun u H' ⟨hu,hx⟩=>⟨F,?_,?_,aK hx,fun c h=>.inl h⟩
  ·have:=hh.1.2.2.1
   rw[List.isEmpty_iff.1 he]at this;simp at this
  ·rw[if_pos he];exact hu
  ·rw[if_pos he];exact(h.ext hx).le (by omega)
 ·refine W.use (HQ (tn o) k k' (bQ o) (ik o) now h (by omega) pX (LC o fun e=>he (by rw[e];rfl)) ht) fun u H' ⟨F',hu,ha,hf,hg⟩=>⟨F',?_,?_,hf,hg⟩
  ·rw[if_neg he];exact hu
  ·rw[if_neg he];exact ha.le (by omega)
theorem Ib (k:SK)(l:List mZ)(hl:l.length≤1048576)(ho:∀o∈l,I8 o)(H:ae):W env (.call 8 [.sl k (l.map eO)]) H (fun u H'=>Ext H H'∧∃b F,u=.val (.bE [.ptr b.s 0,.int .i64 (xM l).2])∧jC H' b (xM l).1 F 6400000∧∀c,F c→H.length≤c∧c<H'.length):=by
 refine W.cJ rfl rfl rfl ?_
 simp -implicitDefEqProofs only[Oa,op,ef,cl,sq,reduceIte,j2,j3,j4,j5,j6,j7,j8,j9,y1,S1]
 refine af _ _ _ _ _ _ _ _ (Lr _) ?_
 rintro u H1⟨nH,b,F0,hu,h1,Qp⟩
 cases hu
 simp -implicitDefEqProofs only[op,ef,cl,sq,reduceIte,j2,j3,j4,j5,j6,j7,j8,j9,y1,S1]
 have NB:=nH.len
 refine W.fZ [(0,_),(4,_)] (fun (i:Nat) R H'=>At H' (fun H'=>∃F,jC H' b (xM (l.take i)).1 F (6*i)∧bO (fun _=>False) H H'∧(∀c,F c→H.length≤c∧c<H'.length)∧R 5=.int .i64 (xM (l.take i)).2)∧R 6=.int .i64 i∧i≤l.length) (fun i=>l.length-i) 0 ⟨.i ⟨F0,h1,aK nH,Qp,rfl⟩,rfl,Nat.zero_le _⟩ ?_
 rintro i R H2⟨⟨F,ha,hf,hF,g5⟩,g6,hi⟩
 have hb:=wh l hl i hi
 obtain⟨s,hs⟩:∃s,s=xM (l.take i):=⟨_,rfl⟩
 rw[←hs]at hb ha g5
 by_cases au:i<l.length
 ·obtain⟨o,u6⟩:=cF au
  have kC:=ho o (List.mem_of_getElem? u6)
  have ix:=lS (e:=eO) (n:=5) (fun _=>rfl) (by decide) (k:=k) u6
  have mI:=aF (show i<9223372036854775807 by omega)
  have l5:∀Hx,ku Hx 5 (.cy (eO o))=some (eO o):=fun _=>rfl
  have rh:=Bq u6
  rw[←hs]at rh
  have ht:cM s.2:=⟨hb.t.1,by have:=hb.t.2;omega⟩
  simp -implicitDefEqProofs only[ar,ak,op,ef,cl,sq,reduceIte,j2,j3,j4,j5,j6,j7,j8,j9,y1,S1,List.length_map,eV,dS,g5,g6,au,aa,ix,l5]
  refine af _ _ _ _ _ _ _ _ (DM o kC _) ?_
  rintro u H3⟨tj,k1,k2,oH,uY,hu⟩
  cases hu
  have Ja:=ha.ext tj
  have uC:=hf.ext tj
  have l0:m4 0 (.cy (eO o))=some (.cy (eO o)):=rfl
  have Qq:∀Hx,ku Hx 1 (.cy (eO o))=some [.int .i64 o.kind]:=fun _=>rfl
  have l1:m4 1 (.cy (eO o))=some (.cy [.int .u64 o.id,.int .u8 o.keys,.int .u8 o.some,.str o.value]):=rfl
  have VX:=tj.len
  by_cases Br:o.kind=1
  ·have e1:(o.kind==1)=true:=by simp[Br]
   simp -implicitDefEqProofs only[ar,ak,op,ef,cl,sq,reduceIte,j2,j3,j4,j5,j6,j7,j8,j9,y1,S1,g5,g6,aa,ix,l5,List.length_cons,List.length_nil,l0,Qq,e1]
   refine af _ _ _ _ _ _ _ _ (LA o kC _) ?_
   rintro u H4⟨hu,vX⟩
   cases hu
   have vX:Ext H3 H4:=vX
   simp -implicitDefEqProofs only[ar,ak,op,ef,cl,sq,reduceIte,j2,j3,j4,j5,j6,j7,j8,j9,y1,S1,g5,g6]
   refine af _ _ _ _ _ _ _ _ (Qo o k1 k2 s.2 (Ja.ext vX) (by omega) uY ht) ?_
   rintro u H5⟨F',hu,Qr,HK,U3⟩
   have U4:=vX.len
   have U5:=HK.1
   simp -implicitDefEqProofs only[ar,ak,op,ef,cl,sq,reduceIte,j2,j3,j4,j5,j6,j7,j8,j9,y1,S1,g5,g6,mI]
   have cn:gH s o=(if (bQ o).isEmpty=true then s.1 else s.1.put (tn o) (bQ o) (ik o) s.2,s.2):=by rw[gH,if_pos Br]
   refine⟨i+1,by omega,.i ⟨F',?_,(uC.ext vX).trans HK (fun c h=>.inr (hF c h).1),fun c hc=>?_,?_⟩,rfl,by omega⟩
   ·rw[rh,cn];exact Qr.le (by omega)
   ·rcases U3 c hc with h|h
    ·have:=hF c h;exact⟨this.1,by omega⟩
    ·have:=hf.1;exact⟨by omega,h.2⟩
   ·rw[rh,cn]
  ·have e1:(o.kind==1)=false:=by simp[Br]
   by_cases DT:o.kind=2
   ·have e2:(o.kind==2)=true:=by simp[DT]
    simp -implicitDefEqProofs only[ar,ak,op,ef,cl,sq,reduceIte,j2,j3,j4,j5,j6,j7,j8,j9,y1,S1,g5,g6,aa,ix,l5,l0,Qq,e1,e2]
    refine af _ _ _ _ _ _ _ _ (LA o kC _) ?_
    rintro u H4⟨hu,vX⟩
    cases hu
    have vX:Ext H3 H4:=vX
    simp -implicitDefEqProofs only[ar,ak,op,ef,cl,sq,reduceIte,j2,j3,j4,j5,j6,j7,j8,j9,y1,S1,g5,g6]
    refine af _ _ _ _ _ _ _ _ (HR (tn o) s.2 (Ja.ext vX) (by omega) (Bi o) ht) ?_
    rintro u H5⟨D,_,_,hu,Qr,HK⟩
    cases hu
    have U4:=vX.len
    have U5:=HK.1
    simp -implicitDefEqProofs only[ar,ak,op,ef,cl,sq,reduceIte,j2,j3,j4,j5,j6,j7,j8,j9,y1,S1,g5,g6,mI]
    have cn:gH s o=(s.1.qT (tn o) s.2,s.2):=by rw[gH,if_neg Br,if_pos DT]
    refine⟨i+1,by omega,.i ⟨F,?_,(uC.ext vX).trans HK (fun c h=>.inr (hF c h).1),fun c hc=>?_,?_⟩,rfl,by omega⟩
    ·rw[rh,cn];exact Qr.le (by omega)
    ·have:=hF c hc;exact⟨this.1,by omega⟩
    ·rw[rh,cn]
   ·have e2:(o.kind==2)=false:=by simp[DT]
    have h7:=Qi o.id kC.1
    have wc:IntKind.i64.wrap ((o.id%8:Nat):Int)=((o.id%8:Nat):Int):=by rw[wrap64 (by omega)]
    have wt:IntKind.i64.wrap (s.2+((o.id%8:Nat):Int))=s.2+((o.id%8:Nat):Int):=by
     have:=ht.1;have:=ht.2;rw[wrap64 (by omega)]
    simp -implicitDefEqProofs only[ar,ak,op,ef,cl,sq,reduceIte,j2,j3,j4,j5,j6,j7,j8,j9,y1,S1,g5,g6,aa,ix,l5,l0,Qq,l1,e1,e2,NW,h7,wc,wt,mI]
    have cn:gH s o=(s.1,s.2+(o.id%8:Nat)):=by rw[gH,if_neg Br,if_neg DT]
    refine⟨i+1,by omega,.i ⟨F,?_,uC,fun c hc=>?_,?_⟩,rfl,by omega⟩
    ·rw[rh,cn];exact Ja.le (by omega)
    ·have:=hF c hc;exact⟨this.1,by omega⟩
    ·rw[rh,cn]
 ·have tJ:i=l.length:=by omega
  subst tJ
  rw[List.take_length]at hs
  subst hs
  simp -implicitDefEqProofs only[ar,ak,op,ef,cl,sq,reduceIte,j2,j3,j4,j5,j6,j7,j8,j9,y1,S1,List.length_map,eV,dS,g5,g6,au]
  exact⟨qS hf,b,F,rfl,ha.le (by omega),hF⟩
structure Bs (H0 H:ae)(b:Bk)(a:Ab)(F:Nat→Prop)(m:Nat):Prop where
 at_:jC H b a F m
 rq:bO (fun _=>False) H0 H
 new:∀c,F c→H0.length≤c∧c<H.length
theorem Bs.ext {H0 H H':ae}{b:Bk}{a:Ab}{F:Nat→Prop}{m:Nat}(h:Bs H0 H b a F m)(hx:Ext H H'):Bs H0 H' b a F m:=⟨h.at_.ext hx,h.rq.ext hx,fun c hc=>by have:=h.new c hc;have:=hx.len;omega⟩
theorem Bs.go {H0 H H':ae}{b:Bk}{a a':Ab}{F F':Nat→Prop}{m m':Nat}(h:Bs H0 H b a F m)(ha:jC H' b a' F' m')(hf:bO F H H')(hg:Qh F F' H H'):Bs H0 H' b a' F' m':=⟨ha,h.rq.more hf fun c hc=>(h.new c hc).1,fun c hc=>by
 have l1:=h.rq.1
 have l2:=hf.1
 rcases hg c hc with h'|h'
 ·have:=h.new c h';omega
 ·omega⟩
theorem Bs.go' {H0 H H':ae}{b:Bk}{a a':Ab}{F:Nat→Prop}{m m':Nat}(h:Bs H0 H b a F m)(ha:jC H' b a' F m')(hf:bO F H H'):Bs H0 H' b a' F m':=h.go ha hf fun _ h=>.inl h
def p1:List (ByteArray×ByteArray):=[(tA,tX)]
def p2:List (ByteArray×ByteArray):=[(tA,tY)]
theorem LH:mG 65536 p1 [tA]:=by
 refine⟨by decide,fv.1 (by decide +kernel),by decide,fun i hi p hp=>?_⟩
 have:i=0:=by simp[p1]at hi;omega
 subst this
 simp[p1]at hp;subst hp
 exact⟨fun h=>by omega,by simp,by decide⟩
theorem LI:mG 131072 p2 [tA]:=by
 refine⟨by decide,fv.1 (by decide +kernel),by decide,fun i hi p hp=>?_⟩
 have:i=0:=by simp[p2]at hi;omega
 subst this
 simp[p2]at hp;subst hp
 exact⟨fun h=>by omega,by simp,by decide⟩
def aL:Ab:=(((Ab.emp.put 65536 p1 [tA] 0).qT 65536 0).put 131072 p2 [tA] 1).qT 131072 3
def nL:List Nm:=[(tA,65536),(tA,131072)]
theorem qW:Names aL nL:=by
 refine⟨by simp -implicitDefEqProofs only[nL,List.pairwise_cons];exact⟨fun x hx=>by simp at hx;subst hx;decide +kernel,by simp⟩,fun m=>?_⟩
 simp -implicitDefEqProofs only[aL,wg,we,p1,p2,bz,cI,nL,List.mem_cons,List.not_mem_nil,or_false]
 obtain⟨k,n⟩:=m
 simp -implicitDefEqProofs only[Ab.has,Ab.emp,Prod.mk.injEq,Option.isSome_none,Bool.false_or,Bool.or_eq_true,Bool.and_eq_true,decide_eq_true_eq]
 by_cases hk:k=tA<;>simp[hk]
theorem Qs:dN aL 12 10 nL=[]:=by decide +kernel
theorem Qt:dN aL 13 10 nL=[(tA,65536)]:=by decide +kernel
theorem LJ:bg aL (tA,65536)=3:=by decide +kernel
theorem Qu:bg aL (tA,131072)=-1:=by decide +kernel
theorem Qv {t:Int}{is:Bool}(h:qV aL nL 10 t is):t=13∧is=true:=by
 have RR:is=true:=h.some.2 ⟨(tA,65536),by simp[nL],by rw[LJ];decide⟩
 obtain⟨m,hm,h0,e⟩:=h.on RR
 simp -implicitDefEqProofs only[nL,List.mem_cons,List.not_mem_nil,or_false]at hm
 rcases hm with rfl|rfl
 ·rw[LJ]at e;exact⟨e,RR⟩
 ·rw[Qu]at h0;omega
theorem Qw:∀k,(aL.jD [(tA,65536)]).has (k,65536)=false:=fun k=>by
 have hn:=qW.2 (k,65536)
 simp -implicitDefEqProofs only[Ab.has,Ab.jD]
 by_cases h:k=tA
 ·subst h;rfl
 ·have:o6 [(tA,65536)] (k,65536)=false:=by simp[o6,Ne.symm h]
  rw[this]
  have hh:aL.has (k,65536)=false:=by
   cases e:aL.has (k,65536)with
   | false=>rfl
   | true=>have:=hn.2 e;simp[nL,h]at this
  simpa[Ab.has]using hh
theorem U6:uJ aL:=(((uJ.emp.put ⟨by decide,by decide⟩).qT ⟨by decide,by decide⟩).put ⟨by decide,by decide⟩).qT ⟨by decide,by decide⟩
theorem Ic (H:ae):W env (.call 7 []) H (qz (.bool true) H):=by
 refine W.cJ rfl rfl rfl ?_
 simp -implicitDefEqProofs only[N9,op,ef,cl,sq,reduceIte,j2,j3,j4,j5,j6,j7,j8,j9,y1,S1]
 refine af _ _ _ _ _ _ _ _ (Lr _) ?_
 rintro u H1⟨nH,b,F0,hu,h1,Qp⟩
 cases hu
 have v1:Bs H H1 b Ab.emp F0 0:=⟨h1,aK nH,Qp⟩
 simp -implicitDefEqProofs only[op,ef,cl,sq,reduceIte,j2,j3,j4,j5,j6,j7,j8,j9,y1,S1,eV,dS]
 refine af _ _ _ _ _ _ _ _ (HQ 65536 .full .full p1 [tA] 0 v1.at_ (by decide) (fun h=>by cases h) LH ⟨by decide,by decide⟩) ?_
 rintro u H2⟨F2,hu,a2,f2,g2⟩
 cases hu
 have v2:=v1.go a2 f2 g2
 simp -implicitDefEqProofs only[op,ef,cl,sq,reduceIte,j2,j3,j4,j5,j6,j7,j8,j9,y1,S1]
 refine af _ _ _ _ _ _ _ _ (HR 65536 0 v2.at_ (by decide) (by decide) ⟨by decide,by decide⟩) ?_
 rintro u H3⟨D3,_,_,hu,a3,f3⟩
 cases hu
 have v3:=v2.go' a3 f3
 simp -implicitDefEqProofs only[op,ef,cl,sq,reduceIte,j2,j3,j4,j5,j6,j7,j8,j9,y1,S1]
 refine af _ _ _ _ _ _ _ _ (HQ 131072 .full .full p2 [tA] 1 v3.at_ (by decide) (fun h=>by cases h) LI ⟨by decide,by decide⟩) ?_
 rintro u H4⟨F4,hu,a4,f4,g4⟩
 cases hu
 have v4:=v3.go a4 f4 g4
 simp -implicitDefEqProofs only[op,ef,cl,sq,reduceIte,j2,j3,j4,j5,j6,j7,j8,j9,y1,S1]
 refine af _ _ _ _ _ _ _ _ (HR 131072 3 v4.at_ (by decide) (by decide) ⟨by decide,by decide⟩) ?_
 rintro u H5⟨D5,_,_,hu,a5,f5⟩
 cases hu
 have v5:Bs H H5 b aL F4 (0+p1.length+p2.length):=v4.go' a5 f5
 simp -implicitDefEqProofs only[op,ef,cl,sq,reduceIte,j2,j3,j4,j5,j6,j7,j8,j9,y1,S1]
 refine af _ _ _ _ _ _ _ _ (Bm 12 10 v5.at_ (by decide) ⟨by decide,by decide⟩ ⟨by decide,by decide⟩) ?_
 rintro u H6⟨x6,t6,l6,m6,_,n6,_,hu⟩
 cases n6.uniq qW
 cases hu
 rw[Qs]at m6
 have e6:=hU m6
 have v6:=v5.ext x6
 simp -implicitDefEqProofs only[op,ef,cl,sq,reduceIte,j2,j3,j4,j5,j6,j7,j8,j9,y1,S1]
 refine af _ _ _ _ _ _ _ _ (Ia 10 v6.at_ (by decide) U6 ⟨by decide,by decide⟩) ?_
 rintro u H7⟨x7,l7,t7,VY,n7,U7,hu⟩
 cases n7.uniq qW
 cases hu
 obtain⟨rfl,rfl⟩:=Qv U7
 have v7:=v6.ext x7
 simp -implicitDefEqProofs only[op,ef,cl,sq,reduceIte,j2,j3,j4,j5,j6,j7,j8,j9,y1,S1]
 refine af _ _ _ _ _ _ _ _ (l9 13 10 v7.at_ (fun c hc=>(v7.new c hc).2) (by decide) ⟨by decide,by decide⟩ ⟨by decide,by decide⟩) ?_
 rintro u H8⟨t8,l8,m8,n8,_,hu,a8,f8⟩
 cases n8.uniq qW
 cases hu
 rw[Qt]at a8 m8
 have e8:=hU m8
 obtain⟨c8,U8,RS,RT⟩:=pZ (enc:=eW) (n:=2) (fun _=>rfl) (by decide) m8 (i:=0) rfl
 have v8:=v7.go' a8 f8
 have z0:bB (.int .i64 0)=some 0:=rfl
 have e1:bf (eW (tA,65536)) [T.str ⟨#[97]⟩,T.int .u64 65536]=some true:=by decide +kernel
 have e2:=HT (tA,65536)
 simp -implicitDefEqProofs only[Nat.zero_mul]at RS RT
 simp -implicitDefEqProofs only[op,ef,cl,sq,reduceIte,j2,j3,j4,j5,j6,j7,j8,j9,y1,S1,e6,e8,z0,RS,U8,RT,e1,e2]
 refine af _ _ _ _ _ _ _ _ (LF 65536 v8.at_) ?_
 rintro u H9⟨rfl,D,hD,U9,hu⟩
 cases hu
 have Va:D=[]:=by
  cases D with
  | nil=>rfl
  | cons x D=>have:=(U9 x).1 (by simp);rw[Qw]at this;cases this
 subst Va
 simp -implicitDefEqProofs only[op,ef,cl,sq,reduceIte,j2,j3,j4,j5,j6,j7,j8,j9,y1,S1,Int.cast_ofNat_Int]
 first|exact qS v8.rq|simp[zM (qS v8.rq)]
def MT (H:ae)(t:T)(l:List Nm):Prop:=(∀Hx,ey Hx .sl t=some l.length)∧∀i x,l[i]?=some x→∃p,ew 2 i t=some p∧ku H 2 p=some (eW x)
theorem dM.rd {H:ae}{t:T}{l:List Nm}{n0:Nat}(h:dM eW 2 n0 H t l):MT H t l:=⟨hU h,fun i x hx=>by
 obtain⟨c,hc,ia,ld⟩:=pZ (enc:=eW) (n:=2) (fun _=>rfl) (by decide) h hx
 exact⟨_,ia,by rw[qA,hc];exact ld⟩⟩
theorem LK (H:ae)(k:SK)(l:List Nm):MT H (.sl k (l.map eW)) l:=⟨fun _=>by simp[ey],fun i x hx=>⟨_,lS (e:=eW) (n:=2) (fun _=>rfl) (by decide) hx,rfl⟩⟩
theorem qX {H:ae}{t t':T}{l l':List Nm}(h:MT H t l)(h':MT H t' l')(hl:l.length≤16777216):W env (.call 10 [t,t']) H (oZ (.bool (decide (l=l'))) H):=by
 have e1:=h.1
 have e2:=h'.1
 refine W.cJ rfl rfl rfl ?_
 by_cases oG:l.length=l'.length
 rotate_left
 ·have ba:¬l=l':=fun h=>oG (by rw[h])
  simp -implicitDefEqProofs only[Di,op,ef,cl,sq,reduceIte,j2,j3,j4,j5,j6,j7,j8,j9,y1,S1,e1,e2,oG,ba]
 have LL:l'.length=l.length:=oG.symm
 simp -implicitDefEqProofs only[Di,op,ef,cl,sq,reduceIte,j2,j3,j4,j5,j6,j7,j8,j9,y1,S1,e1,e2,LL]
 refine W.fZ [(0,_),(1,_)] (fun (i:Nat) R H'=>H'=H∧R 5=.int .i64 i∧i≤l.length∧l.take i=l'.take i) (fun i=>l.length-i) 0 ⟨rfl,rfl,Nat.zero_le _,by simp⟩ ?_
 rintro i R H1⟨rfl,h5,hi,ht⟩
 have wi:=aF (show i<9223372036854775807 by omega)
 by_cases au:i<l.length
 ·obtain⟨x,hx⟩:=cF au
  obtain⟨y,hy⟩:=cF (l:=l') (i:=i) (by omega)
  obtain⟨p,ix,lx⟩:=h.2 i x hx
  obtain⟨p',iy,ly⟩:=h'.2 i y hy
  by_cases I7:x=y
  ·subst I7
   simp -implicitDefEqProofs only[ar,ak,op,ef,cl,sq,reduceIte,j2,j3,j4,j5,j6,j7,j8,j9,y1,S1,e1,h5,au,aa,ix,iy,lx,ly,HT,RQ,wi]
   exact⟨i+1,by omega,rfl,au,xK ht hx hy⟩
  ·have ba:=Ly hx hy I7
   simp -implicitDefEqProofs only[ar,ak,op,ef,cl,sq,reduceIte,j2,j3,j4,j5,j6,j7,j8,j9,y1,S1,e1,h5,au,aa,ix,iy,lx,ly,HT,RQ,I7,ba]
 ·have gr:i=l.length:=by omega
  have he:l=l':=by rw[gr,List.take_length,←LL,List.take_length]at ht;exact ht
  simp -implicitDefEqProofs only[ar,ak,op,ef,cl,sq,reduceIte,j2,j3,j4,j5,j6,j7,j8,j9,y1,S1,e1,h5,au]
  simp[he]
def wk (a:Ab)(now:Int):Prop:=∀m h,a.v m=some h→h.bh≤now
theorem wk.put {a:Ab}{now:Int}(h:wk a now)(h0:0≤now){n:Nat}{l:List (ByteArray×ByteArray)}{ks:List ByteArray}:wk (a.put n l ks now) now:=fun m x e=>by
 simp -implicitDefEqProofs only[Ab.put]at e
 cases h1:a.v m with
 | some y=>rw[h1]at e;cases e;exact h m _ h1
 | none =>
  rw[h1]at e
  simp only at e
  split at e
  ·cases h2:ah l m.1 with
   | none=>rw[h2]at e;cases e
   | some v =>
    rw[h2]at e;cases e
    simp only
    split<;>omega
  ·cases e
theorem wk.qT {a:Ab}{now:Int}(h:wk a now){n:Nat}:wk (a.qT n now) now:=fun m x e=>by
 simp -implicitDefEqProofs only[Ab.qT]at e
 cases h1:a.v m with
 | none=>rw[h1]at e;cases e
 | some y =>
  have hy:=h m y h1
  rw[h1]at e;simp -implicitDefEqProofs only[Option.map_some,Option.some.injEq]at e;subst e
  split
  ·exact Int.le_refl _
  ·exact hy
theorem wk.mono {a:Ab}{now LM:Int}(h:wk a now)(hn:now≤LM):wk a LM:=fun m x e=>Int.le_trans (h m x e) hn
theorem wk.step {s:Ab×Int}(h:wk s.1 s.2)(h0:0≤s.2)(o:mZ):wk (gH s o).1 (gH s o).2:=by
 unfold gH
 split
 ·split
  ·exact h
  ·exact h.put h0
 ·split
  ·exact h.qT
  ·exact h.mono (by simp only;omega)
theorem RU:∀(l:List mZ),l.length≤1048576→∀i,i≤l.length→wk (xM (l.take i)).1 (xM (l.take i)).2
 | l,_,0,_=>by
  rw[List.take_zero]
  exact fun m h e=>by cases e
 | l,hl,i+1,h=>by
  obtain⟨o,ho⟩:=cF (l:=l) (i:=i) (by omega)
  rw[Bq ho]
  exact(RU l hl i (by omega)).step (wh l hl i (by omega)).t.1 o
theorem Ie {a:Ab}{now:Int}(h:wk a now){l:List Nm}(hn:Names a l)(h0:0≤now):dN a (now+40) 2 l=dN a (now+40) 1 l:=by
 unfold dN
 refine List.filter_congr fun x hx=>?_
 have hm:=(hn.2 x).1 hx
 obtain⟨v,hv⟩:=Option.isSome_iff_exists.1 hm
 have hs:=h x v hv
 have e:bg a x=v.bh:=by simp[bg,hv,o5]
 unfold je
 rw[e]
 have h1:v.bh≤now+40-2:=by omega
 have h2:v.bh≤now+40-1:=by omega
 simp[h1,h2]
theorem xO {a:Ab}{now r:Int}{l l2:List Nm}(hn:Names a l)(h2:Names (a.jD (dN a now r l)) l2):dN (a.jD (dN a now r l)) now r l2=[]:=by
 obtain⟨D,hD⟩:∃D,D=dN a now r l:=⟨_,rfl⟩
 rw[←hD]at h2 ⊢
 refine List.filter_eq_nil_iff.2 fun x hx hd=>?_
 have hm:=(h2.2 x).1 hx
 have jj:x∉D:=fun hh=>by
  simp -implicitDefEqProofs only[Ab.has,Ab.jD,s7.2 hh,if_true]at hm;cases hm
 have hv:(a.jD D).v x=a.v x:=by simp -implicitDefEqProofs only[Ab.jD,vZ jj,Bool.false_eq_true,if_false]
 have hs:bg (a.jD D) x=bg a x:=by simp -implicitDefEqProofs only[bg,hv]
 refine jj ?_
 rw[hD]
 refine List.mem_filter.2 ⟨(hn.2 x).2 (by simpa only[Ab.has,hv]using hm),?_⟩
 unfold je at hd ⊢
 rw[hs]at hd;exact hd
theorem Ig {α:Type}{enc:α→List T}{n:Nat}(hn:∀x,(enc x).length=n)(Vb:∀x,(enc x).map T.erase=enc x){E:Env}{R:aj}{H:ae}{K:aj→ae→Prop}{l0:List O}{d:Option Nat}{s:List Rd}{g:Gd}{bytes t bb ty:Nat}{l new:List α}{ky:SK}
  (ht:R t=.aE bb 0 l.length n) (hy:R ty=.sl ky (new.map enc)) (hb:H[bb]?=some (.cells (aJ enc l))) (h0:0<l.length) (gk:new≠[]) (hr:cr (l.length+new.length) bytes=true)
  (h:∀kw H',Ext (H.set bb (.fz (aJ enc l))) H'→AH H.length H' kw→n5 R H' s∧eI E l0 (aR R d (.sl kw ((l++new).map enc))) H' K):gC E R H K l0 d s (.app n bytes false (.r t) (.r ty)) g none:=by
 have ba:ty≠t:=fun e=>by rw[e,ht]at hy;cases hy
 obtain⟨kw,H',ha,kp,cn⟩:=kg (n0:=H.length) (H:=H.set bb (.fz (aJ enc l))++[.tok l.length]) (k:=.own H.length l.length) (bytes:=bytes) (l.map enc) (new.map enc) (.inr (.inr ⟨_,_,rfl,Nat.le_refl _,aZ (by simp)⟩)) (by simp) (by simpa using gk) (by simpa using hr)
 refine zw (t:=t) (y:=.r ty) (v:=.sl kw ((l++new).map enc)) (H':=H') E R H K l0 d s ht hb (cO hn l).symm h0 ?_ (h kw H' (cn.ext _ (by simp) ⟨_,rfl⟩) kp)
 have Vc:(new.map enc).map (·.map T.erase)=new.map enc:=by rw[List.map_map];exact List.map_congr_left fun x _=>Vb x
 rw[Vc,←List.map_append]at ha
 have h1:iq R t (.sl (.own H.length l.length) (l.map enc)) ty=R ty:=by simp[iq,ba]
 have h2:iq R t (.sl (.own H.length l.length) (l.map enc)) t=.sl (.own H.length l.length) (l.map enc):=by simp[iq]
 have h3:aP (H.set bb (.fz (aJ enc l))++[.tok l.length]) n (.sl ky (new.map enc))=some (new.map enc):=by simp[aP,hn]
 simp -implicitDefEqProofs only[ai,X.ev,vN hn,h1,h2,hy,h3,Bool.false_eq_true,if_false,all_map hn,if_true]
 exact ha
def dp {α:Type}(f:α→α)(l:List α)(i:Nat):List α:=(l.take i).map f++l.drop i
section
variable {α:Type} {f:α→α} {l:List α} {i:Nat} {x:α}
theorem qY:dp f l 0=l:=by simp[dp]
theorem fw:(dp f l i).length=l.length:=by simp[dp];omega
theorem xP:dp f l l.length=l.map f:=by simp[dp]
theorem wm (h:l[i]?=some x):l.drop i=x :: l.drop (i+1):=by
 obtain⟨hi,e⟩:=List.getElem?_eq_some_iff.1 h
 rw[←e];exact List.drop_eq_getElem_cons hi
theorem jw (h:l[i]?=some x):(dp f l i)[i]?=some x:=by
 have hi:=(List.getElem?_eq_some_iff.1 h).1
 unfold dp
 rw[List.getElem?_append_right (by simp;omega),wm h]
 have:i-((l.take i).map f).length=0:=by simp;omega
 rw[this];rfl
theorem qc (h:l[i]?=some x):(dp f l i).set i (f x)=dp f l (i+1):=by
 have hi:=(List.getElem?_eq_some_iff.1 h).1
 unfold dp
 rw[bA h,wm h,List.set_append_right _ _ (by simp;omega)]
 have:i-((l.take i).map f).length=0:=by simp;omega
 rw[this];simp
end
theorem jC.Bd {H:ae}{b:Bk}{a:Ab}{F:Nat→Prop}{n:Nat}(h:jC H b a F n){L:Nat}(x:B)(hF:¬F L):jC (H.set L x) b a F n:=by
 obtain⟨s,h1,h2⟩:=h
 exact⟨s,h1.Bd hF,h2⟩
theorem Bt {H:ae}{t:T}{l:List Nm}{i c q n0:Nat}{x:Nm}(h:dM eW 2 n0 H t l)(hx:l[i]?=some x)(hi:ew 2 i t=some (.ptr c q)):tb t=some c:=by
 rcases h with⟨e,_⟩|⟨c',e1,_,_⟩
 ·rw[e]at hx;cases hx
 ·rw[e1,ie]at hi
  split at hi
  ·simp -implicitDefEqProofs only[reduceCtorEq,if_false,Option.some.injEq,T.ptr.injEq]at hi
   rw[e1,←hi.1];rfl
  ·cases hi
def E3 (H:ae)(t:T)(l:List Nm):Prop:=(l=[]∧t=.sl .nil [])∨∃c,t=.aE c 0 l.length 2∧H[c]?=some (.fz (aJ eW l))
theorem E3.len {H:ae}{t:T}{l:List Nm}(h:E3 H t l):∀Hx,ey Hx .sl t=some l.length:=fun Hx=>by
 rcases h with⟨rfl,rfl⟩|⟨c,rfl,_⟩<;>rfl
theorem E3.rq {H H':ae}{t:T}{l:List Nm}{G:Nat→Prop}(h:E3 H t l)(hf:bO G H H')(hg:∀c,tb t=some c→¬G c):E3 H' t l:=by
 rcases h with h|⟨c,rfl,hc⟩
 ·exact .inl h
 ·exact .inr ⟨c,rfl,hf.get hc (hg c rfl)⟩
structure Ls (H:ae)(b:Bk)(a:Ab)(F:Nat→Prop)(m L:Nat)(ts:Nat→T)(p:Nat)(qs:Nat→List Nm):Prop where
 at_:jC H b a F m
 fl:∀c,F c→c<H.length
 lL:H[L]?=some (.cells [ts 0,ts 1,ts 2])
 nL:¬F L
 mu:∀j,j<3→p≤j→dM eW 2 0 H (ts j) (qs j)
 fz:∀j,j<3→j<p→E3 H (ts j) (qs j)
 nn:∀j,j<3→qs j=[]→ts j=.sl .nil []
 nF:∀j c,j<3→tb (ts j)=some c→¬F c∧c≠L
 ne:∀i j c,i<3→j<3→tb (ts i)=some c→tb (ts j)=some c→i=j
section
variable {H H':ae} {b:Bk} {a a':Ab} {F:Nat→Prop} {m m' L p:Nat} {ts:Nat→T} {qs:Nat→List Nm}
theorem Ls.len (h:Ls H b a F m L ts p qs){j:Nat}(hj:j<3):∀Hx,ey Hx .sl (ts j)=some (qs j).length:=by
 by_cases hp:p≤j
 ·exact hU (h.mu j hj hp)
 ·exact(h.fz j hj (by omega)).len
theorem Ls.go (h:Ls H b a F m L ts p qs){G:Nat→Prop}(ha:jC H' b a' F m')(hf:bO G H H')(hG:¬G L)(RW:∀j c,j<3→tb (ts j)=some c→¬G c):Ls H' b a' F m' L ts p qs :=
 ⟨ha,fun c hc=>Nat.lt_of_lt_of_le (h.fl c hc) hf.1,hf.get h.lL hG,h.nL,fun j hj hp=>lr (h.mu j hj hp) hf fun c hc _=>RW j c hj hc,fun j hj hp=>(h.fz j hj hp).rq hf fun c hc=>RW j c hj hc,h.nn,h.nF,h.ne⟩
theorem Ls.ext (h:Ls H b a F m L ts p qs)(hx:Ext H H'):Ls H' b a F m L ts p qs:=h.go (h.at_.ext hx) (aK (F:=fun _=>False) hx) id fun _ _ _ _=>id
theorem Ls.cu (h:Ls H b a F m L ts p qs){j c:Nat}(hj:j<3)(hc:tb (ts j)=some c):c<H.length:=by
 by_cases hp:p≤j
 ·rcases h.mu j hj hp with⟨_,e⟩|⟨c',e,eB,_⟩
  ·rw[e]at hc;cases hc
  ·rw[e]at hc;cases hc;exact a6 eB
 ·rcases h.fz j hj (by omega)with⟨_,e⟩|⟨c',e,eB⟩
  ·rw[e]at hc;cases hc
  ·rw[e]at hc;cases hc;exact a6 eB
theorem Ls.set (h:Ls H b a F m L ts 0 qs){j c:Nat}(hj:j<3)(hc:tb (ts j)=some c){l':List Nm}(hl:l'.length=(qs j).length)(h0:l'≠[]):Ls (H.set c (.cells (aJ eW l'))) b a F m L ts 0 (fun i=>if i=j then l' else qs i):=by
 have hn:=h.nF j c hj hc
 have hf:bO (fun x=>x=c) H (H.set c (.cells (aJ eW l'))):=(bO.refl (fun x=>x=c) H).set (.inl rfl) _
 refine⟨h.at_.Bd _ hn.1,fun x hx=>by rw[List.length_set];exact h.fl x hx,hf.get h.lL (fun e=>hn.2 e.symm),h.nL,fun i hi _=>?_,fun i _ hi=>(by omega),fun i hi he=>?_,h.nF,h.ne⟩
 ·by_cases e:i=j
  ·subst e
   rw[if_pos rfl]
   rcases h.mu i hi (Nat.zero_le _)with⟨_,e⟩|⟨c',e,eB,_⟩
   ·rw[e]at hc;cases hc
   ·rw[e]at hc;cases hc
    exact .inr ⟨_,by rw[e,hl],cK (a6 eB),Nat.zero_le _⟩
  ·rw[if_neg e]
   exact lr (h.mu i hi (Nat.zero_le _)) hf fun x hx _ ex=>e (h.ne i j c hi hj (ex▸hx) hc)
 ·by_cases e:i=j
  ·subst e;rw[if_pos rfl]at he;exact absurd he h0
  ·rw[if_neg e]at he;exact h.nn i hi he
theorem Ls.still (h:Ls H b a F m L ts p qs)(hp:p<3):∃Hb,Ls Hb b a F m L ts (p+1) qs∧((ts p=.sl .nil []∧qs p=[]∧Hb=H) ∨
  ∃c,ts p=.aE c 0 (qs p).length 2∧H[c]?=some (.cells (aJ eW (qs p)))∧0<(qs p).length∧Hb=H.set c (.fz (aJ eW (qs p)))):=by
 by_cases e:qs p=[]
 ·have et:=h.nn p hp e
  refine⟨H,⟨h.at_,h.fl,h.lL,h.nL,fun j hj vT=>h.mu j hj (by omega),fun j hj vT=>?_,h.nn,h.nF,h.ne⟩,.inl ⟨et,e,rfl⟩⟩
  by_cases ej:j=p
  ·subst ej;exact .inl ⟨e,et⟩
  ·exact h.fz j hj (by omega)
 ·rcases h.mu p hp (Nat.le_refl _)with⟨e',_⟩|⟨c,et,hc,_⟩
  ·exact absurd e' e
  have DU:tb (ts p)=some c:=by rw[et];rfl
  have hn:=h.nF p c hp DU
  have hf:bO (fun x=>x=c) H (H.set c (.fz (aJ eW (qs p)))):=(bO.refl (fun x=>x=c) H).set (.inl rfl) _
  refine⟨_,⟨h.at_.Bd _ hn.1,fun x hx=>by rw[List.length_set];exact h.fl x hx,hf.get h.lL (fun e=>hn.2 e.symm),h.nL,fun j hj vT=>?_,fun j hj vT=>?_,h.nn,h.nF,h.ne⟩,.inr ⟨c,et,hc,List.length_pos_iff.2 e,rfl⟩⟩
  ·exact lr (h.mu j hj (by omega)) hf fun x hx _ ex=>by have:=h.ne j p c hj hp (ex▸hx) DU;omega
  ·by_cases ej:j=p
   ·subst ej;exact .inr ⟨c,et,cK (a6 hc)⟩
   ·exact(h.fz j hj (by omega)).rq hf fun x hx ex=>ej (h.ne j p c hj hp (ex▸hx) DU)
end
def nz (i:Nat):ByteArray:=match i with
 | 0=>⟨#[48]⟩
 | 1=>⟨#[49]⟩
 | _=>⟨#[50]⟩
def wo (i:Nat)(_:Nm):Nm:=(nz i,0)
def qZ (D:List Nm)(i k j:Nat):List Nm:=if j<i then D.map (wo j)else if j=i then dp (wo i) D k else D
theorem ra (D:List Nm)(i k j:Nat):(qZ D i k j).length=D.length:=by
 unfold qZ;split
 ·simp
 ·split
  ·exact fw
  ·rfl
theorem LN (D:List Nm):qZ D 0 0=fun _=>D:=by
 funext j;unfold qZ;rw[if_neg (by omega)];split
 ·exact qY
 ·rfl
theorem DV (D:List Nm)(i:Nat):qZ D i D.length=qZ D (i+1) 0:=by
 funext j;unfold qZ
 by_cases h1:j<i
 ·rw[if_pos h1,if_pos (by omega)]
 ·by_cases h2:j=i
  ·subst h2;rw[if_neg h1,if_pos rfl,if_pos (by omega),xP]
  ·rw[if_neg h1,if_neg h2,if_neg (by omega)]
   split
   ·exact qY.symm
   ·rfl
theorem E4 (D:List Nm)(i k:Nat):qZ D i k i=dp (wo i) D k:=by unfold qZ;rw[if_neg (by omega),if_pos rfl]
theorem DW {D:List Nm}{i k:Nat}{x:Nm}(hx:D[k]?=some x):(fun j=>if j=i then(dp (wo i) D k).set k (wo i x)else qZ D i k j)=qZ D i (k+1):=by
 funext j
 by_cases e:j=i
 ·subst e;rw[if_pos rfl,E4,qc hx]
 ·rw[if_neg e];unfold qZ;split
  ·rfl
  ·simp[e]
theorem LO {D:List Nm}{j:Nat}(hj:j<3):qZ D 3 0 j=D.map (wo j):=by unfold qZ;rw[if_pos hj]
abbrev Ih:T:=.sl .full [[.str ⟨#[48]⟩],[.str ⟨#[49]⟩],[.str ⟨#[50]⟩]]
theorem Bu {i:Nat}(hi:i<3):ew 1 i Ih=some (.cy [.str (nz i)]):=by
 have hc:i=0∨i=1∨i=2:=by omega
 rcases hc with rfl|rfl|rfl<;>rfl
theorem Bv {L i:Nat}(hi:i<3):ew 1 i (.aE L 0 3 1)=some (.ptr L i):=by
 rw[ie,if_pos hi,if_neg (by decide)];simp
theorem Bw (ts:Nat→T){i:Nat}(hi:i<3):mE 1 i (some (.cells [ts 0,ts 1,ts 2]))=some [ts i]:=by
 have hc:i=0∨i=1∨i=2:=by omega
 rcases hc with rfl|rfl|rfl<;>rfl
abbrev s8:ByteArray:=⟨#[109,111,114,101]⟩
theorem LP (C0:C)(hC:ig Dh.body 0=some (.loop C0)){H:ae}{b:Bk}{a:Ab}{F:Nat→Prop}{m L:Nat}{ts:Nat→T}{D:List Nm}{R:aj}(hd:D.length≤8000000)
  (h:Ls H b a F m L ts 0 (fun _=>D)) (MM:R 12=.aE L 0 3 1) (PS:R 13=Ih) (Ve:R 14=.int .i64 0) :
  W env (.code (.loop C0) R) H (vO 0 (fun _ H'=>Ls H' b a F m L ts 0 (qZ D 3 0))):=by
 simp[Dh,ig,sq]at hC
 subst hC
 refine W.fZ [(12,.aE L 0 3 1),(13,Ih)] (fun (i:Nat) R H'=>At H' (fun H'=>Ls H' b a F m L ts 0 (qZ D i 0))∧R 14=.int .i64 i∧i≤3) (fun i=>3-i) 0 ⟨.i (by rw[LN];exact h),Ve,Nat.zero_le _⟩ ?_ ⟨MM,PS,trivial⟩
 rintro i R H1⟨h1,MU,hi⟩
 have h1:Ls H1 b a F m L ts 0 (qZ D i 0):=h1
 by_cases au:i<3
 ·have mI:=aF (show i<9223372036854775807 by omega)
  have tz:((i:Nat):Int)<3:=by omega
  have ia:=Bv (L:=L) au
  have ld:=Bw ts au
  have na:=Bu au
  simp -implicitDefEqProofs only[ar,ak,op,ef,cl,sq,reduceIte,j2,j3,j4,j5,j6,j7,j8,j9,y1,S1,MU,tz]
  refine W.fZ [(12,_),(13,_),(14,_)] (fun (k:Nat) R H'=>At H' (fun H'=>Ls H' b a F m L ts 0 (qZ D i k))∧R 15=.int .i64 k∧k≤D.length) (fun k=>D.length-k) 0 ⟨.i h1,rfl,Nat.zero_le _⟩ ?_
  rintro k R H2⟨h2,RX,hk⟩
  have h2:Ls H2 b a F m L ts 0 (qZ D i k):=h2
  have hL:=h2.lL
  have hlen:=h2.len au
  rw[ra]at hlen
  by_cases jv:k<D.length
  ·obtain⟨x,hx⟩:=cF jv
   have Ii:=aF (show k<9223372036854775807 by omega)
   have hm:=h2.mu i au (Nat.zero_le _)
   rw[E4]at hm
   obtain⟨c,hc,ix,_⟩:=pZ (enc:=eW) (n:=2) (fun _=>rfl) (by decide) hm (jw (f:=wo i) hx)
   have cn:=jr (enc:=eW) (n:=2) (fun _=>rfl) (y:=wo i x) (jw (f:=wo i) hx) H2 c [.str (nz i),.int .u64 0] 0 (by simp) rfl
   simp -implicitDefEqProofs only[Nat.add_zero]at cn
   have DU:=Bt hm (jw (f:=wo i) hx) ix
   have h3:=h2.set au DU (l':=(dp (wo i) D k).set k (wo i x)) (by rw[List.length_set,fw,ra]) (fun e=>by
    have:=congrArg List.length e;rw[List.length_set,fw]at this;simp at this;rw[this]at jv;simp at jv)
   rw[DW hx]at h3
   simp -implicitDefEqProofs only[ar,ak,op,ef,cl,sq,reduceIte,j2,j3,j4,j5,j6,j7,j8,j9,y1,S1,MU,RX,aa,ia,hL,ld,hlen,jv,na,ix,hc,cn,Ii]
   exact⟨k+1,by omega,.i h3,rfl,by omega⟩
  ·have D8:k=D.length:=by omega
   subst D8
   rw[DV]at h2
   simp -implicitDefEqProofs only[ar,ak,op,ef,cl,sq,reduceIte,j2,j3,j4,j5,j6,j7,j8,j9,y1,S1,MU,RX,aa,ia,hL,ld,hlen,jv,mI]
   exact⟨i+1,by omega,.i h2,rfl,by omega⟩
 ·have Hm:i=3:=by omega
  subst Hm
  simp -implicitDefEqProofs only[ar,ak,op,ef,cl,sq,reduceIte,j2,j3,j4,j5,j6,j7,j8,j9,y1,S1,MU]
  exact⟨rfl,h1⟩
theorem LQ (C0:C)(hC:ig Dh.body 4=some (.loop C0)){H:ae}{b:Bk}{a:Ab}{F:Nat→Prop}{m L N:Nat}{ts:Nat→T}{Q:Nat→List Nm}{R:aj}(hN:N≤8000000)(hQ:∀j,(Q j).length=N)
  (h:Ls H b a F m L ts 0 Q) (MM:R 12=.aE L 0 3 1) (Vf:R 16=.int .i64 0) :
  W env (.code (.loop C0) R) H (vO 4 (fun _ H'=>Ls H' b a F m L ts 3 Q)):=by
 simp[Dh,ig,sq]at hC
 subst hC
 refine W.fZ [(12,.aE L 0 3 1)] (fun (i:Nat) R H'=>At H' (fun H'=>Ls H' b a F m L ts i Q)∧R 16=.int .i64 i∧i≤3) (fun i=>3-i) 0 ⟨.i h,Vf,Nat.zero_le _⟩ ?_ ⟨MM,trivial⟩
 rintro i R H1⟨h1,Qy,hi⟩
 have h1:Ls H1 b a F m L ts i Q:=h1
 by_cases au:i<3
 ·have mI:=aF (show i<9223372036854775807 by omega)
  have tz:((i:Nat):Int)<3:=by omega
  have ia:=Bv (L:=L) au
  have ld:=Bw ts au
  have hL:=h1.lL
  obtain⟨Hb,hb,cn⟩:=h1.still au
  simp -implicitDefEqProofs only[ar,ak,op,ef,cl,sq,reduceIte,j2,j3,j4,j5,j6,j7,j8,j9,y1,S1,Qy,tz,aa,ia,hL,ld]
  refine W.fZ [(12,_),(16,_)] (fun (k:Nat) R H'=>At H' (fun H'=>(k=0∧R 17=ts i∧H'=H1∧∃c,ts i=.aE c 0 (Q i).length 2∧H1[c]?=some (.cells (aJ eW (Q i)))∧0<(Q i).length∧Hb=H1.set c (.fz (aJ eW (Q i)))) ∨
   ∃kw,R 17=.sl kw ((Q i++List.replicate k (s8,0)).map eW)∧Ext Hb H'∧AH Hb.length H' kw)∧R 18=.int .i64 k∧k≤40) (fun k=>40-k) 0 ⟨.i ?_,rfl,Nat.zero_le _⟩ ?_
  ·rcases cn with⟨e1,e2,rfl⟩|cn
   ·exact .inr ⟨.nil,by rw[e1,e2];rfl,Ext.rfl',kX _ _⟩
   ·exact .inl ⟨rfl,rfl,rfl,cn⟩
  rintro k R H2⟨h2,MV,hk⟩
  have VZ:=hQ i
  by_cases jv:k<40
  ·have Ii:=aF (show k<9223372036854775807 by omega)
   have Qz:((k:Nat):Int)<40:=by omega
   have QA:List.replicate (k+1) ((s8,0):Nm)=List.replicate k (s8,0)++[(s8,0)]:=List.replicate_succ'
   rcases h2 with⟨rfl,Jb,rfl,c,e1,hc,h0,rfl⟩|⟨kw,Jb,hx,kp⟩
   ·simp -implicitDefEqProofs only[ar,ak,op,ef,cl,sq,reduceIte,j2,j3,j4,j5,j6,j7,j8,j9,y1,S1,Jb,MV,e1]
    refine Ig (enc:=eW) (n:=2) (fun _=>rfl) (fun _=>rfl) (l:=Q i) (new:=[(s8,0)]) (ky:=.full) (bb:=c) (by simp -implicitDefEqProofs only[op,ef,cl,sq,reduceIte,j2,j3,j4,j5,j6,j7,j8,j9,y1,S1]) (by simp -implicitDefEqProofs only[op,ef,cl,sq,reduceIte,j2,j3,j4,j5,j6,j7,j8,j9,y1,S1,eW,s8];rfl) hc h0 (by simp) (ja (by simp;omega) (by omega)) fun kw H' hx kp=>?_
    simp -implicitDefEqProofs only[ar,ak,op,ef,cl,sq,reduceIte,j2,j3,j4,j5,j6,j7,j8,j9,y1,S1,MV]
    exact⟨1,by omega,.i (.inr ⟨kw,rfl,hx,by simpa using kp⟩),rfl,by omega⟩
   ·have dI:=all_map (enc:=eW) (n:=2) (fun _=>rfl) (Q i++List.replicate k (s8,0))
    obtain⟨k',H',ha,qR,uv⟩:=kg (bytes:=24) ((Q i++List.replicate k (s8,0)).map eW) [[T.str s8,T.int .u64 0]] kp hx.len (by simp) (ja (by simp;omega) (by omega))
    simp -implicitDefEqProofs only[op,ef,cl,sq,reduceIte,j2,j3,j4,j5,j6,j7,j8,j9,y1,S1]at ha
    simp -implicitDefEqProofs only[ar,ak,op,ef,cl,sq,reduceIte,j2,j3,j4,j5,j6,j7,j8,j9,y1,S1,Jb,MV,Qz,dI,ha,Ii]
    refine⟨k+1,by omega,.i (.inr ⟨k',?_,uv.ext Hb (Nat.le_refl _) hx,qR⟩),rfl,by omega⟩
    rw[QA]
    simp -implicitDefEqProofs only[op,ef,cl,sq,reduceIte,j2,j3,j4,j5,j6,j7,j8,j9,y1,S1,←List.append_assoc,List.map_append,eW]
    rfl
  ·have QB:k=40:=by omega
   subst QB
   rcases h2 with⟨e,_⟩|⟨kw,Jb,hx,kp⟩
   ·cases e
   have h3:=hb.ext hx
   have Vg:=h3.lL
   have hlen:=h3.len au
   have Ju:(Q i++List.replicate 40 ((s8,0):Nm))[(Q i).length]?=some (s8,0):=by rw[List.getElem?_append_right (Nat.le_refl _)];simp
   obtain⟨Z,hZ⟩:∃Z,Z=Q i++List.replicate 40 ((s8,0):Nm):=⟨_,rfl⟩
   rw[←hZ]at Ju Jb
   have ix:=lS (e:=eW) (n:=2) (fun _=>rfl) (by decide) (k:=kw) Ju
   have l0:m4 0 (.cy (eW (s8,0)))=some (.cy (eW (s8,0))):=rfl
   have l1:∀Hx,ku Hx 1 (.cy (eW (s8,0)))=some [.str s8]:=fun _=>rfl
   have hs:fS s8 ⟨#[109,111,114,101]⟩=true:=by rw[dn];exact decide_eq_true rfl
   simp -implicitDefEqProofs only[ar,ak,op,ef,cl,sq,reduceIte,j2,j3,j4,j5,j6,j7,j8,j9,y1,S1,Qy,Jb,MV,aa,ia,Vg,ld,hlen,ix,l0,l1,hs,mI]
   exact⟨i+1,by omega,.i h3,rfl,by omega⟩
 ·have Hm:i=3:=by omega
  subst Hm
  simp -implicitDefEqProofs only[ar,ak,op,ef,cl,sq,reduceIte,j2,j3,j4,j5,j6,j7,j8,j9,y1,S1,Qy]
  exact⟨rfl,h1⟩
end Go.Proofs.Ytodegnhallgnkaa.St
end
