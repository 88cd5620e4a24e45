/- Part of a proof of a law of this seat: the machine of plain values, its simulation, and the contracts of the functions that the law reaches. Conditions: none beyond the given row. -/
import Derived.Test.YtbkgokabcnogdaaGreatM3
open Int renaming reduceLT → j2, reduceLE → j3, reduceBEq → j4, reduceBNe → j5, reduceEq → j6
open Nat renaming reduceAdd → j7, reduceLeDiff → j8, reduceLT → j9, reduceEqDiff → y1
set_option linter.unusedSimpArgs false
set_option linter.unusedVariables false
set_option linter.unnecessarySimpa false
set_option maxHeartbeats 4000000
section
namespace Go.Proofs.YtbkgokabcnogdaaGreat.St
open Go.Rmp Go.Proofs.YtbkgokabcnogdaaGreat.Ir
set_option maxRecDepth 10000
set_option maxHeartbeats 8000000
def bkOf:C→Nat→Option C
 | .block id a,n=>if id=n then some a else bkOf a n
 | .seq a b,n=>match bkOf a n with | some c=>some c | .none=>bkOf b n
 | .cond _ a b,n=>match bkOf a n with | some c=>some c | .none=>bkOf b n
 | .loop a,n=>bkOf a n
 | _,_=>.none
def seqN:C→Nat→C
 | .seq a _,0=>a
 | .seq _ b,k+1=>seqN b k
 | c,_=>c
structure PR (R:Regs) (c n a b lim:Nat) (wb wp:Bool):Prop where
 r0:R 0=.msl c 0 n 2
 r1:R 1=.int .i64 a
 r2:R 2=.int .i64 b
 r3:R 3=.int .i64 lim
 r4:R 4=.fn 27 []
 r10:R 10=.bool wb
 r11:R 11=.bool wp
 r12:R 12=.int .i64 (b-a:Nat)
open Go.Sort in
theorem seg3 (A:C) (hA:(bkOf ir99.body 1).map (seqN · 3)=some A) (c n a b lim:Nat) (wb wp:Bool) (d:Array Nm) (R:Regs) (H0 H:Heap) (K:Out→Heap→Prop) (hp:PR R c n a b lim wb wp) (hd:SC c n H0 (fun x=>x=d) H) (hb:b≤n) (hab:a+12<b) (hs:n<16777216) (hl:1≤lim∧lim<1000)
  (rest:∀ R' H',PR R' c n a b (if (!wb)=true then lim-1 else lim) wb wp→SC c n H0 (fun x=>x=if (!wb)=true then breakPatterns d a b else d) H'→K (.ex .normal R') H'):wpC env A R H K:=by
 simp [ir99,bkOf,seqN,sq] at hA
 subst hA
 obtain ⟨h0,h1,h2,h3,h4,h10,h11,h12⟩:=hp
 obtain ⟨di,hc,hn,rfl,hfr⟩:=hd
 cases wb with
 | true =>
  simp -implicitDefEqProofs (maxSteps:=1000000) (disch:=omega) only [op,ef,cl,sq,reduceIte,j2,j3,j4,j5,j6,j7,j8,j9,y1,S1,h0,h1,h2,h3,h4,h10,h11,h12]
  exact rest _ _ ⟨by simp -implicitDefEqProofs only [op,ef,cl,sq,reduceIte,j2,j3,j4,j5,j6,j7,j8,j9,y1,S1,h0],by simp -implicitDefEqProofs only [op,ef,cl,sq,reduceIte,j2,j3,j4,j5,j6,j7,j8,j9,y1,S1,h1],by simp -implicitDefEqProofs only [op,ef,cl,sq,reduceIte,j2,j3,j4,j5,j6,j7,j8,j9,y1,S1,h2],by simp -implicitDefEqProofs only [op,ef,cl,sq,reduceIte,j2,j3,j4,j5,j6,j7,j8,j9,y1,S1,h3],by simp -implicitDefEqProofs only [op,ef,cl,sq,reduceIte,j2,j3,j4,j5,j6,j7,j8,j9,y1,S1,h4],by simp -implicitDefEqProofs only [op,ef,cl,sq,reduceIte,j2,j3,j4,j5,j6,j7,j8,j9,y1,S1,h10],by simp -implicitDefEqProofs only [op,ef,cl,sq,reduceIte,j2,j3,j4,j5,j6,j7,j8,j9,y1,S1,h11],by simp -implicitDefEqProofs only [op,ef,cl,sq,reduceIte,j2,j3,j4,j5,j6,j7,j8,j9,y1,S1,h12]⟩ ⟨di,hc,hn,rfl,hfr⟩
 | false =>
  simp -implicitDefEqProofs (maxSteps:=1000000) (disch:=omega) only [op,ef,cl,sq,reduceIte,j2,j3,j4,j5,j6,j7,j8,j9,y1,S1,h0,h1,h2,h3,h4,h10,h11,h12]
  refine callB_of _ _ _ _ _ _ _ _ (break77 c n di a b _ hn hc hb hab hs) ?_
  rintro u H2 ⟨hu,d2,hd2,hs2,e2,hf2⟩
  cases hu
  simp -implicitDefEqProofs (maxSteps:=1000000) (disch:=omega) only [natOf_nat,iadm,ldm1,ldm2,stm0,stm1,stm2,wA,wA1,wS,wS1,wM,S2,op,ef,cl,sq,reduceIte,j2,j3,j4,j5,j6,j7,j8,j9,y1,S1,h0,h1,h2,h3,h4,h10,h11,h12]
  exact rest _ _ ⟨by simp -implicitDefEqProofs only [op,ef,cl,sq,reduceIte,j2,j3,j4,j5,j6,j7,j8,j9,y1,S1,h0],by simp -implicitDefEqProofs only [op,ef,cl,sq,reduceIte,j2,j3,j4,j5,j6,j7,j8,j9,y1,S1,h1],by simp -implicitDefEqProofs only [op,ef,cl,sq,reduceIte,j2,j3,j4,j5,j6,j7,j8,j9,y1,S1,h2],by simp -implicitDefEqProofs only [op,ef,cl,sq,reduceIte,j2,j3,j4,j5,j6,j7,j8,j9,y1,S1],by simp -implicitDefEqProofs only [op,ef,cl,sq,reduceIte,j2,j3,j4,j5,j6,j7,j8,j9,y1,S1,h4],by simp -implicitDefEqProofs only [op,ef,cl,sq,reduceIte,j2,j3,j4,j5,j6,j7,j8,j9,y1,S1,h10],by simp -implicitDefEqProofs only [op,ef,cl,sq,reduceIte,j2,j3,j4,j5,j6,j7,j8,j9,y1,S1,h11],by simp -implicitDefEqProofs only [op,ef,cl,sq,reduceIte,j2,j3,j4,j5,j6,j7,j8,j9,y1,S1,h12]⟩ ⟨d2,hd2,hs2,e2,hfr.trans hf2 fun _ h=>.inl h⟩
open Go.Sort in
theorem seg5 (A:C) (hA:(bkOf ir99.body 1).map (seqN · 5)=some A) (c n a b lim:Nat) (wb wp:Bool) (d:Array Nm) (pv:Nat) (hi:Hint) (R:Regs) (H0 H:Heap) (K:Out→Heap→Prop) (hp:PR R c n a b lim wb wp) (h13:R 13=.int .i64 pv) (h14:R 14=.int .i64 (hintN hi)) (hd:SC c n H0 (fun x=>x=d) H) (hb:b≤n) (hab:a+12<b) (hs:n<16777216) (hpv:a≤pv∧pv<b)
  (rest:∀ R' H',PR R' c n a b lim wb wp→R' 13=.int .i64 (if hi=.decreasing then (b-1)-(pv-a) else pv:Nat)→R' 14=.int .i64 (hintN (if hi=.decreasing then Hint.increasing else hi))→SC c n H0 (fun x=>x=if hi=.decreasing then reverseRange d a b else d) H'→K (.ex .normal R') H'):wpC env A R H K:=by
 simp [ir99,bkOf,seqN,sq] at hA
 subst hA
 obtain ⟨h0,h1,h2,h3,h4,h10,h11,h12⟩:=hp
 obtain ⟨di,hc,hn,rfl,hfr⟩:=hd
 have e:((hintN hi)==2)=decide (hi=.decreasing):=by cases hi <;> decide
 by_cases hh:hi=.decreasing
 ·rw [decide_eq_true hh] at e
  simp -implicitDefEqProofs (maxSteps:=1000000) (disch:=omega) only [op,ef,cl,sq,reduceIte,j2,j3,j4,j5,j6,j7,j8,j9,y1,S1,h0,h1,h2,h3,h4,h10,h11,h12,h13,h14,e]
  refine callB_of _ _ _ _ _ _ _ _ (rev79 c n di a b _ hn hc hb (by omega) (by omega)) ?_
  rintro u H2 ⟨hu,d2,hd2,hs2,e2,hf2⟩
  cases hu
  simp -implicitDefEqProofs (maxSteps:=1000000) (disch:=omega) only [natOf_nat,iadm,ldm1,ldm2,stm0,stm1,stm2,wA,wA1,wS,wS1,wM,S2,op,ef,cl,sq,reduceIte,j2,j3,j4,j5,j6,j7,j8,j9,y1,S1,h0,h1,h2,h3,h4,h10,h11,h12,h13,h14]
  refine rest _ _ ⟨?_,?_,?_,?_,?_,?_,?_,?_⟩ ?_ ?_ ⟨d2,hd2,hs2,?_,hfr.trans hf2 fun _ h=>.inl h⟩
  all_goals simp -implicitDefEqProofs only [op,ef,cl,sq,reduceIte,j2,j3,j4,j5,j6,j7,j8,j9,y1,S1,h0,h1,h2,h3,h4,h10,h11,h12,if_pos hh,hintN]
  exact e2
 ·rw [decide_eq_false hh] at e
  simp -implicitDefEqProofs (maxSteps:=1000000) (disch:=omega) only [op,ef,cl,sq,reduceIte,j2,j3,j4,j5,j6,j7,j8,j9,y1,S1,h0,h1,h2,h3,h4,h10,h11,h12,h13,h14,e]
  refine rest _ _ ⟨?_,?_,?_,?_,?_,?_,?_,?_⟩ ?_ ?_ ⟨di,hc,hn,?_,hfr⟩
  all_goals simp -implicitDefEqProofs only [op,ef,cl,sq,reduceIte,j2,j3,j4,j5,j6,j7,j8,j9,y1,S1,h0,h1,h2,h3,h4,h10,h11,h12,h13,h14,if_neg hh]
open Go.Sort in
theorem seg6 (A:C) (hA:(bkOf ir99.body 1).map (seqN · 6)=some A) (c n a b lim:Nat) (wb wp:Bool) (d:Array Nm) (pv:Nat) (hi:Hint) (R:Regs) (H0 H:Heap) (K:Out→Heap→Prop) (hp:PR R c n a b lim wb wp) (h13:R 13=.int .i64 pv) (h14:R 14=.int .i64 (hintN hi)) (hd:SC c n H0 (fun x=>x=d) H) (hb:b≤n) (hab:a+12<b) (hs:n<16777216)
  (pi:Array Nm × Bool) (hpi:pi=if (wb&&wp&&hi=.increasing)=true then partialInsertionSort ltM d a b else (d,false))
  (rest1:∀ R' H',pi.2=true→SC c n H0 (fun x=>x=pi.1) H'→K (.ex .ret R') H')
  (rest2:∀ R' H',pi.2=false→PR R' c n a b lim wb wp→R' 13=.int .i64 pv→SC c n H0 (fun x=>x=pi.1) H'→K (.ex .normal R') H'):wpC env A R H K:=by
 simp [ir99,bkOf,seqN,sq] at hA
 subst hA
 obtain ⟨h0,h1,h2,h3,h4,h10,h11,h12⟩:=hp
 obtain ⟨di,hc,hn,rfl,hfr⟩:=hd
 have e:((hintN hi)==1)=decide (hi=.increasing):=by cases hi <;> decide
 have no:(wb&&wp&&decide (hi=.increasing))=false→∀ R',PR R' c n a b lim wb wp→R' 13=.int .i64 pv→K (.ex .normal R') H:=fun h R' q q'=>rest2 R' H (by rw [hpi,h];rfl) q q' ⟨di,hc,hn,by rw [hpi,h];rfl,hfr⟩
 cases wb with
 | false =>
  simp -implicitDefEqProofs only [op,ef,cl,sq,reduceIte,j2,j3,j4,j5,j6,j7,j8,j9,y1,S1,h0,h1,h2,h3,h4,h10,h11,h12,h13,h14]
  refine no rfl _ ⟨?_,?_,?_,?_,?_,?_,?_,?_⟩ ?_
  all_goals simp -implicitDefEqProofs only [op,ef,cl,sq,reduceIte,j2,j3,j4,j5,j6,j7,j8,j9,y1,S1,h0,h1,h2,h3,h4,h10,h11,h12,h13]
 | true =>
  cases wp with
  | false =>
   simp -implicitDefEqProofs only [op,ef,cl,sq,reduceIte,j2,j3,j4,j5,j6,j7,j8,j9,y1,S1,h0,h1,h2,h3,h4,h10,h11,h12,h13,h14]
   refine no rfl _ ⟨?_,?_,?_,?_,?_,?_,?_,?_⟩ ?_
   all_goals simp -implicitDefEqProofs only [op,ef,cl,sq,reduceIte,j2,j3,j4,j5,j6,j7,j8,j9,y1,S1,h0,h1,h2,h3,h4,h10,h11,h12,h13]
  | true =>
   by_cases hh:hi=.increasing
   ·rw [decide_eq_true hh] at e
    rw [decide_eq_true hh] at hpi
    simp -implicitDefEqProofs only [op,ef,cl,sq,reduceIte,j2,j3,j4,j5,j6,j7,j8,j9,y1,S1,h0,h1,h2,h3,h4,h10,h11,h12,h13,h14,e]
    refine callB_of _ _ _ _ _ _ _ _ (pins80 c n di a b _ hn hc hb (by omega) (by omega)) ?_
    rintro u H2 ⟨hu,d2,hd2,hs2,e2,hf2⟩
    cases hu
    rw [if_pos (show (true&&true&&true)=true from rfl)] at hpi
    rw [← hpi] at e2 ⊢
    cases hb2:pi.2 with
    | true =>
     simp -implicitDefEqProofs only [op,ef,cl,sq,reduceIte,j2,j3,j4,j5,j6,j7,j8,j9,y1,S1]
     exact rest1 _ _ hb2 ⟨d2,hd2,hs2,e2,hfr.trans hf2 fun _ h=>.inl h⟩
    | false =>
     simp -implicitDefEqProofs only [op,ef,cl,sq,reduceIte,j2,j3,j4,j5,j6,j7,j8,j9,y1,S1]
     refine rest2 _ _ hb2 ⟨?_,?_,?_,?_,?_,?_,?_,?_⟩ ?_ ⟨d2,hd2,hs2,e2,hfr.trans hf2 fun _ h=>.inl h⟩
     all_goals simp -implicitDefEqProofs only [op,ef,cl,sq,reduceIte,j2,j3,j4,j5,j6,j7,j8,j9,y1,S1,h0,h1,h2,h3,h4,h10,h11,h12,h13]
   ·rw [decide_eq_false hh] at e
    simp -implicitDefEqProofs only [op,ef,cl,sq,reduceIte,j2,j3,j4,j5,j6,j7,j8,j9,y1,S1,h0,h1,h2,h3,h4,h10,h11,h12,h13,h14,e]
    refine no (by rw [decide_eq_false hh];rfl) _ ⟨?_,?_,?_,?_,?_,?_,?_,?_⟩ ?_
    all_goals simp -implicitDefEqProofs only [op,ef,cl,sq,reduceIte,j2,j3,j4,j5,j6,j7,j8,j9,y1,S1,h0,h1,h2,h3,h4,h10,h11,h12,h13]
open Go.Sort in
theorem seg7 (A:C) (hA:(bkOf ir99.body 1).map (seqN · 7)=some A) (c n a b lim:Nat) (wb wp:Bool) (d:Array Nm) (pv:Nat) (R:Regs) (H0 H:Heap) (K:Out→Heap→Prop) (hp:PR R c n a b lim wb wp) (h13:R 13=.int .i64 pv) (hd:SC c n H0 (fun x=>x=d) H) (hb:b≤n) (hab:a+12<b) (hs:n<16777216) (hpv:a≤pv∧pv<b)
  (rest1:∀ R' H',(a > 0&&!ltM d[a-1]! d[pv]!)=true→R' 0=.msl c 0 n 2→R' 1=.int .i64 (partitionEqual ltM d a b pv).1→R' 2=.int .i64 b→R' 3=.int .i64 lim→R' 4=.fn 27 []→R' 10=.bool wb→R' 11=.bool wp→SC c n H0 (fun x=>x=(partitionEqual ltM d a b pv).2) H'→K (.ex (.exit 1) R') H')
  (rest2:∀ R' H',(a > 0&&!ltM d[a-1]! d[pv]!)=false→PR R' c n a b lim wb wp→R' 13=.int .i64 pv→SC c n H0 (fun x=>x=d) H'→K (.ex .normal R') H'):wpC env A R H K:=by
 simp [ir99,bkOf,seqN,sq] at hA
 subst hA
 obtain ⟨h0,h1,h2,h3,h4,h10,h11,h12⟩:=hp
 obtain ⟨di,hd,hn,rfl,hfr⟩:=hd
 have lc:=glt hd
 by_cases ha:0<a
 ·simp -implicitDefEqProofs (maxSteps:=1000000) (disch:=omega) only [natOf_nat,iadm,ldm1,ldm2,stm0,stm1,stm2,wA,wA1,wS,wS1,wM,S2,op,ef,cl,sq,reduceIte,j2,j3,j4,j5,j6,j7,j8,j9,y1,S1,h0,h1,h2,h3,h4,h10,h11,h12,h13,ha,hd,lc]
  refine b_vg _ _ _ _ _ _ _ (by simp -implicitDefEqProofs (maxSteps:=1000000) (disch:=omega) only [natOf_nat,iadm,ldm1,ldm2,stm0,stm1,stm2,wA,wA1,wS,wS1,wM,S2,op,ef,cl,sq,reduceIte,j2,j3,j4,j5,j6,j7,j8,j9,y1,S1,h0,h1,h2,h3,h4,h10,h11,h12,h13,ha,hd,lc]) ?_
  simp -implicitDefEqProofs (maxSteps:=1000000) (disch:=omega) only [natOf_nat,iadm,ldm1,ldm2,stm0,stm1,stm2,wA,wA1,wS,wS1,wM,S2,op,ef,cl,sq,reduceIte,j2,j3,j4,j5,j6,j7,j8,j9,y1,S1,callvB,h0,h1,h2,h3,h4,h10,h11,h12,h13,ha,hd,lc,List.append_nil]
  refine callB_of _ _ _ _ _ _ _ _ (byName36 di[a-1]! di[pv]! _) ?_
  rintro u H3 ⟨hu,hx⟩
  cases hu
  have hx:Ext H H3:=hx
  have hd:=hx.get hd
  have lc:=glt hd
  have hfr:=hfr.trans (ext_frm (F:=fun _=>False) hx) (fun _ h=>h.elim)
  have lt1:ltM di[a-1]! di[pv]! = decide (cmpM di[a-1]! di[pv]!<0):=rfl
  by_cases c1:cmpM di[a-1]! di[pv]!<0
  ·simp -implicitDefEqProofs (maxSteps:=1000000) (disch:=omega) only [natOf_nat,iadm,ldm1,ldm2,stm0,stm1,stm2,wA,wA1,wS,wS1,wM,S2,op,ef,cl,sq,reduceIte,j2,j3,j4,j5,j6,j7,j8,j9,y1,S1,h0,h1,h2,h3,h4,h10,h11,h12,h13,ha,hd,lc,c1]
   refine rest2 _ _ (by rw [lt1,dect c1];simp) ⟨?_,?_,?_,?_,?_,?_,?_,?_⟩ ?_ ⟨di,hd,hn,rfl,hfr⟩
   all_goals simp -implicitDefEqProofs only [op,ef,cl,sq,reduceIte,j2,j3,j4,j5,j6,j7,j8,j9,y1,S1,h0,h1,h2,h3,h4,h10,h11,h12,h13]
  ·simp -implicitDefEqProofs (maxSteps:=1000000) (disch:=omega) only [natOf_nat,iadm,ldm1,ldm2,stm0,stm1,stm2,wA,wA1,wS,wS1,wM,S2,op,ef,cl,sq,reduceIte,j2,j3,j4,j5,j6,j7,j8,j9,y1,S1,h0,h1,h2,h3,h4,h10,h11,h12,h13,ha,hd,lc,c1]
   refine callB_of _ _ _ _ _ _ _ _ (peq81 c n di a b pv _ hn hd hb (by omega) (by omega) (by omega)) ?_
   rintro u H4 ⟨hu,d2,hd2,hs2,e2,hf2⟩
   cases hu
   simp -implicitDefEqProofs only [op,ef,cl,sq,reduceIte,j2,j3,j4,j5,j6,j7,j8,j9,y1,S1]
   refine rest1 _ _ (by rw [lt1,decf c1];simp;exact ha) ?_ ?_ ?_ ?_ ?_ ?_ ?_ ⟨d2,hd2,hs2,e2,hfr.trans hf2 fun _ h=>.inl h⟩
   all_goals simp -implicitDefEqProofs only [op,ef,cl,sq,reduceIte,j2,j3,j4,j5,j6,j7,j8,j9,y1,S1,h0,h1,h2,h3,h4,h10,h11,h12,h13]
 ·simp -implicitDefEqProofs only [op,ef,cl,sq,reduceIte,j2,j3,j4,j5,j6,j7,j8,j9,y1,S1,h0,h1,h2,h3,h4,h10,h11,h12,h13,ha]
  refine rest2 _ _ (by rw [decide_eq_false ha];rfl) ⟨?_,?_,?_,?_,?_,?_,?_,?_⟩ ?_ ⟨di,hd,hn,rfl,hfr⟩
  all_goals simp -implicitDefEqProofs only [op,ef,cl,sq,reduceIte,j2,j3,j4,j5,j6,j7,j8,j9,y1,S1,h0,h1,h2,h3,h4,h10,h11,h12,h13]
set_option maxHeartbeats 8000000
def seqT:C→Nat→C
 | c,0=>c
 | .seq _ b,k+1=>seqT b k
 | c,_=>c
open Go.Sort in
theorem pdq_step {d d1 d2:Array Nm} {a b lim lim1 pv:Nat} {wb wp:Bool} {cp:Nat × Hint} {hi:Hint} {pi:Array Nm × Bool} (h12:¬ b-a≤12) (hl:¬ lim=0)
  (e1:d1=if (!wb)=true then breakPatterns d a b else d) (el:lim1=if (!wb)=true then lim-1 else lim) (ec:cp=choosePivot ltM d1 a b) (e2:d2=if cp.2=.decreasing then reverseRange d1 a b else d1)
  (ep:pv=if cp.2=.decreasing then (b-1)-(cp.1-a) else cp.1) (eh:hi=if cp.2=.decreasing then .increasing else cp.2) (epi:pi=if (wb&&wp&&hi=.increasing)=true then partialInsertionSort ltM d2 a b else (d2,false)) :
  pdq ltM d a b lim wb wp=if pi.2=true then pi.1 else if (a > 0&&!ltM pi.1[a-1]! pi.1[pv]!)=true then (if a<(partitionEqual ltM pi.1 a b pv).1∧(partitionEqual ltM pi.1 a b pv).1≤b then pdq ltM (partitionEqual ltM pi.1 a b pv).2 (partitionEqual ltM pi.1 a b pv).1 b lim1 wb wp else (partitionEqual ltM pi.1 a b pv).2)
   else (if a≤(partition ltM pi.1 a b pv).1∧(partition ltM pi.1 a b pv).1<b then if (partition ltM pi.1 a b pv).1-a<b-(partition ltM pi.1 a b pv).1 then pdq ltM (pdq ltM (partition ltM pi.1 a b pv).2.2 a (partition ltM pi.1 a b pv).1 lim1 true true) ((partition ltM pi.1 a b pv).1+1) b lim1 (decide ((partition ltM pi.1 a b pv).1-a≥(b-a) / 8)) (partition ltM pi.1 a b pv).2.1
    else pdq ltM (pdq ltM (partition ltM pi.1 a b pv).2.2 ((partition ltM pi.1 a b pv).1+1) b lim1 true true) a (partition ltM pi.1 a b pv).1 lim1 (decide (b-(partition ltM pi.1 a b pv).1≥(b-a) / 8)) (partition ltM pi.1 a b pv).2.1 else (partition ltM pi.1 a b pv).2.2):=by
 subst epi eh ep e2 ec el e1
 rw [pdq,if_neg h12,if_neg hl]
 rfl
open Go.Sort in
theorem peq_range (d:Array Nm) {a b pv:Nat} (h1:a≤pv) (h2:pv<b) (hb:b≤d.size):a<(partitionEqual ltM d a b pv).1∧(partitionEqual ltM d a b pv).1≤b:=by
 have:=partEqLoop_spec (lt:=ltM) a b b (a+1) (b-1) (swp d a pv) (by omega) (by omega) (by omega) (by omega) (by rw [swp_size];exact hb) (fun t h h'=>by omega) (fun t h h'=>by omega)
 exact ⟨this.1,this.2.1⟩
theorem seg0 (A:C) (hA:(bkOf ir99.body 1).map (seqN · 0)=some A) (c n a b lim:Nat) (wb wp:Bool) (R:Regs) (H:Heap) (K:Out→Heap→Prop) (h0:R 0=.msl c 0 n 2) (h1:R 1=.int .i64 a) (h2:R 2=.int .i64 b) (h3:R 3=.int .i64 lim) (h4:R 4=.fn 27 []) (h10:R 10=.bool wb) (h11:R 11=.bool wp) (hab:a≤b) (hb:b<16777216)
  (rest:∀ R',PR R' c n a b lim wb wp→K (.ex .normal R') H):wpC env A R H K:=by
 simp [ir99,bkOf,seqN,sq] at hA
 subst hA
 simp -implicitDefEqProofs (maxSteps:=1000000) (disch:=omega) only [natOf_nat,iadm,ldm1,ldm2,stm0,stm1,stm2,wA,wA1,wS,wS1,wM,S2,op,ef,cl,sq,reduceIte,j2,j3,j4,j5,j6,j7,j8,j9,y1,S1,h0,h1,h2,h3,h4,h10,h11]
 refine rest _ ⟨?_,?_,?_,?_,?_,?_,?_,?_⟩
 all_goals simp -implicitDefEqProofs only [op,ef,cl,sq,reduceIte,j2,j3,j4,j5,j6,j7,j8,j9,y1,S1,h0,h1,h2,h3,h4,h10,h11]
open Go.Sort in
theorem seg1 (A:C) (hA:(bkOf ir99.body 1).map (seqN · 1)=some A) (c n a b lim:Nat) (wb wp:Bool) (d:Array Nm) (R:Regs) (H0 H:Heap) (K:Out→Heap→Prop) (hp:PR R c n a b lim wb wp) (hd:SC c n H0 (fun x=>x=d) H) (hb:b≤n) (hab:a≤b) (hs:n<16777216)
  (rest1:∀ R' H',b-a≤12→SC c n H0 (fun x=>x=insertionSort ltM d a b) H'→K (.ex .ret R') H')
  (rest2:∀ R',¬ b-a≤12→PR R' c n a b lim wb wp→K (.ex .normal R') H):wpC env A R H K:=by
 simp [ir99,bkOf,seqN,sq] at hA
 subst hA
 obtain ⟨h0,h1,h2,h3,h4,h10,h11,h12⟩:=hp
 obtain ⟨di,hc,hn,rfl,hfr⟩:=hd
 by_cases hle:b-a≤12
 ·simp -implicitDefEqProofs only [op,ef,cl,sq,reduceIte,j2,j3,j4,j5,j6,j7,j8,j9,y1,S1,h0,h1,h2,h3,h4,h10,h11,h12,hle]
  have hi:=ins75 c di a b H hc (by omega) hab (by omega)
  rw [hn] at hi
  refine callB_of _ _ _ _ _ _ _ _ hi ?_
  rintro u H2 ⟨hu,hd2,hf2⟩
  cases hu
  simp -implicitDefEqProofs only [op,ef,cl,sq,reduceIte,j2,j3,j4,j5,j6,j7,j8,j9,y1,S1]
  exact rest1 _ _ hle ⟨_,hd2,by rw [(insertionSort_holds ltM_swo di a b hab (by omega)).1.1];exact hn,rfl,hfr.trans hf2 fun _ h=>.inl h⟩
 ·simp -implicitDefEqProofs only [op,ef,cl,sq,reduceIte,j2,j3,j4,j5,j6,j7,j8,j9,y1,S1,h0,h1,h2,h3,h4,h10,h11,h12,hle]
  refine rest2 _ hle ⟨?_,?_,?_,?_,?_,?_,?_,?_⟩
  all_goals simp -implicitDefEqProofs only [op,ef,cl,sq,reduceIte,j2,j3,j4,j5,j6,j7,j8,j9,y1,S1,h0,h1,h2,h3,h4,h10,h11,h12]
open Go.Sort in
theorem seg2 (A:C) (hA:(bkOf ir99.body 1).map (seqN · 2)=some A) (c n a b lim:Nat) (wb wp:Bool) (d:Array Nm) (R:Regs) (H0 H:Heap) (K:Out→Heap→Prop) (hp:PR R c n a b lim wb wp) (hd:SC c n H0 (fun x=>x=d) H) (hb:b≤n) (hab:a+12<b) (hs:n<16777216)
  (rest1:∀ R' H',lim=0→SC c n H0 (fun x=>x=heapSort ltM d a b) H'→K (.ex .ret R') H')
  (rest2:∀ R',¬ lim=0→PR R' c n a b lim wb wp→K (.ex .normal R') H):wpC env A R H K:=by
 simp [ir99,bkOf,seqN,sq] at hA
 subst hA
 obtain ⟨h0,h1,h2,h3,h4,h10,h11,h12⟩:=hp
 obtain ⟨di,hc,hn,rfl,hfr⟩:=hd
 by_cases hl:lim=0
 ·subst hl
  have e:(((0:Nat):Int)==0)=true:=rfl
  simp -implicitDefEqProofs only [op,ef,cl,sq,reduceIte,j2,j3,j4,j5,j6,j7,j8,j9,y1,S1,h0,h1,h2,h3,h4,h10,h11,h12,e]
  refine callB_of _ _ _ _ _ _ _ _ (heap76 c n di a b _ hn hc hb (by omega) (by omega)) ?_
  rintro u H2 ⟨hu,d2,hd2,hs2,e2,hf2⟩
  cases hu
  simp -implicitDefEqProofs only [op,ef,cl,sq,reduceIte,j2,j3,j4,j5,j6,j7,j8,j9,y1,S1]
  exact rest1 _ _ rfl ⟨_,hd2,hs2,e2,hfr.trans hf2 fun _ h=>.inl h⟩
 ·have e:((lim:Int)==0)=false:=by simp;omega
  simp -implicitDefEqProofs only [op,ef,cl,sq,reduceIte,j2,j3,j4,j5,j6,j7,j8,j9,y1,S1,h0,h1,h2,h3,h4,h10,h11,h12,e]
  refine rest2 _ hl ⟨?_,?_,?_,?_,?_,?_,?_,?_⟩
  all_goals simp -implicitDefEqProofs only [op,ef,cl,sq,reduceIte,j2,j3,j4,j5,j6,j7,j8,j9,y1,S1,h0,h1,h2,h3,h4,h10,h11,h12]
open Go.Sort in
theorem seg4 (A:C) (hA:(bkOf ir99.body 1).map (seqN · 4)=some A) (c n a b lim:Nat) (wb wp:Bool) (d:Array Nm) (R:Regs) (H0 H:Heap) (K:Out→Heap→Prop) (hp:PR R c n a b lim wb wp) (hd:SC c n H0 (fun x=>x=d) H) (hb:b≤n) (hab:a+12<b) (hs:n<16777216)
  (rest:∀ R' H',PR R' c n a b lim wb wp→R' 13=.int .i64 (choosePivot ltM d a b).1→R' 14=.int .i64 (hintN (choosePivot ltM d a b).2)→SC c n H0 (fun x=>x=d) H'→K (.ex .normal R') H'):wpC env A R H K:=by
 simp [ir99,bkOf,seqN,sq] at hA
 subst hA
 obtain ⟨h0,h1,h2,h3,h4,h10,h11,h12⟩:=hp
 obtain ⟨di,hc,hn,rfl,hfr⟩:=hd
 simp -implicitDefEqProofs only [op,ef,cl,sq,reduceIte,j2,j3,j4,j5,j6,j7,j8,j9,y1,S1,h0,h1,h2,h3,h4,h10,h11,h12]
 refine callB_of _ _ _ _ _ _ _ _ (choose78 c n di a b _ hn hc hb hab (by omega)) ?_
 rintro u H2 ⟨hu,hx⟩
 cases hu
 simp -implicitDefEqProofs only [op,ef,cl,sq,reduceIte,j2,j3,j4,j5,j6,j7,j8,j9,y1,S1]
 refine rest _ _ ⟨?_,?_,?_,?_,?_,?_,?_,?_⟩ ?_ ?_ ⟨di,hx.get hc,hn,rfl,hfr.trans (ext_frm (F:=fun _=>False) hx) (fun _ h=>h.elim)⟩
 all_goals simp -implicitDefEqProofs only [op,ef,cl,sq,reduceIte,j2,j3,j4,j5,j6,j7,j8,j9,y1,S1,h0,h1,h2,h3,h4,h10,h11,h12]
theorem wQ8 {a:Nat} (h:a<9223372036854775808):IntKind.i64.wrap ((a:Int).tdiv 8)=((a / 8:Nat):Int):=by rw [Int.tdiv_eq_ediv_of_nonneg (by omega),wrap64 (by omega)];omega
open Go.Sort in
theorem seg8 (A:C) (hA:(bkOf ir99.body 1).map (seqT · 8)=some A) (c n a b lim:Nat) (wb wp:Bool) (d:Array Nm) (pv:Nat) (R:Regs) (H0 H:Heap) (K:Out→Heap→Prop) (hp:PR R c n a b lim wb wp) (h13:R 13=.int .i64 pv) (hd:SC c n H0 (fun x=>x=d) H) (hb:b≤n) (hab:a+12<b) (hs:n<16777216) (hpv:a≤pv∧pv<b)
  (ih:∀ a' b' (d':Array Nm) H',b'-a'<b-a→a'≤b'→b'≤n→d'.size=n→H'[c]?=some (.cells (msC eN d'.toList))→W env (.call 99 [.msl c 0 n 2,.int .i64 a',.int .i64 b',.int .i64 lim,.fn 27 []]) H' (SrtN c n (pdq ltM d' a' b' lim true true) H'))
  (rest:∀ R' H' a' b' (d':Array Nm) (wb':Bool),a≤a'→a'≤b'→b'≤b→b'-a'<b-a→R' 0=.msl c 0 n 2→R' 1=.int .i64 (a':Nat)→R' 2=.int .i64 (b':Nat)→R' 3=.int .i64 lim→R' 4=.fn 27 []→R' 10=.bool wb'→R' 11=.bool (partition ltM d a b pv).2.1 →
   pdq ltM d' a' b' lim wb' (partition ltM d a b pv).2.1=(if (partition ltM d a b pv).1-a<b-(partition ltM d a b pv).1 then pdq ltM (pdq ltM (partition ltM d a b pv).2.2 a (partition ltM d a b pv).1 lim true true) ((partition ltM d a b pv).1+1) b lim (decide ((partition ltM d a b pv).1-a≥(b-a) / 8)) (partition ltM d a b pv).2.1
    else pdq ltM (pdq ltM (partition ltM d a b pv).2.2 ((partition ltM d a b pv).1+1) b lim true true) a (partition ltM d a b pv).1 lim (decide (b-(partition ltM d a b pv).1≥(b-a) / 8)) (partition ltM d a b pv).2.1) →
   SC c n H0 (fun x=>x=d') H'→K (.ex .normal R') H'):wpC env A R H K:=by
 simp [ir99,bkOf,seqT,sq] at hA
 subst hA
 obtain ⟨h0,h1,h2,h3,h4,h10,h11,h12⟩:=hp
 obtain ⟨di,hc,hn,rfl,hfr⟩:=hd
 have hrg:=partition_holds ltM ltM_swo di a b pv hpv.1 hpv.2 (by omega)
 simp -implicitDefEqProofs only [op,ef,cl,sq,reduceIte,j2,j3,j4,j5,j6,j7,j8,j9,y1,S1,h0,h1,h2,h3,h4,h10,h11,h12,h13]
 refine callB_of _ _ _ _ _ _ _ _ (part82 c n di a b pv _ hn hc hb (by omega) (by omega) (by omega)) ?_
 rintro u H2 ⟨hu,d2,hd2,hs2,e2,hf2⟩
 cases hu
 generalize partition ltM di a b pv=r at *
 obtain ⟨mid,ap,d4⟩:=r
 simp only at hrg e2 rest ⊢
 subst e2
 obtain ⟨m1,m2,_⟩:=hrg
 have hfr2:=hfr.trans hf2 fun _ h=>.inl h
 by_cases hlt:mid-a<b-mid
 ·rw [if_pos hlt] at rest
  simp -implicitDefEqProofs (maxSteps:=1000000) (disch:=omega) only [natOf_nat,iadm,ldm1,ldm2,stm0,stm1,stm2,wA,wA1,wS,wS1,wM,S2,op,ef,cl,sq,reduceIte,j2,j3,j4,j5,j6,j7,j8,j9,y1,S1,wQ8,h0,h1,h2,h3,h4,h10,h11,h12,h13,hlt]
  refine callB_of _ _ _ _ _ _ _ _ (ih a mid d2 _ (by omega) m1 (by omega) hs2 hd2) ?_
  rintro u H3 ⟨hu,d3,hd3,hs3,e3,hf3⟩
  cases hu
  simp -implicitDefEqProofs (maxSteps:=1000000) (disch:=omega) only [natOf_nat,iadm,ldm1,ldm2,stm0,stm1,stm2,wA,wA1,wS,wS1,wM,S2,op,ef,cl,sq,reduceIte,j2,j3,j4,j5,j6,j7,j8,j9,y1,S1,h0,h1,h2,h3,h4,h10,h11,h12,h13]
  refine rest _ _ (mid+1) b d3 (decide ((b-a) / 8≤mid-a)) (by omega) (by omega) (Nat.le_refl _) (by omega) ?_ ?_ ?_ ?_ ?_ ?_ ?_ (by rw [e3]) ⟨d3,hd3,hs3,rfl,hfr2.trans hf3 fun _ h=>.inl h⟩
  all_goals simp -implicitDefEqProofs only [op,ef,cl,sq,reduceIte,j2,j3,j4,j5,j6,j7,j8,j9,y1,S1,h0,h1,h2,h3,h4,h10,h11,h12]
 ·rw [if_neg hlt] at rest
  simp -implicitDefEqProofs (maxSteps:=1000000) (disch:=omega) only [natOf_nat,iadm,ldm1,ldm2,stm0,stm1,stm2,wA,wA1,wS,wS1,wM,S2,op,ef,cl,sq,reduceIte,j2,j3,j4,j5,j6,j7,j8,j9,y1,S1,wQ8,h0,h1,h2,h3,h4,h10,h11,h12,h13,hlt]
  refine callB_of _ _ _ _ _ _ _ _ (ih (mid+1) b d2 _ (by omega) m2 (by omega) hs2 hd2) ?_
  rintro u H3 ⟨hu,d3,hd3,hs3,e3,hf3⟩
  cases hu
  simp -implicitDefEqProofs (maxSteps:=1000000) (disch:=omega) only [natOf_nat,iadm,ldm1,ldm2,stm0,stm1,stm2,wA,wA1,wS,wS1,wM,S2,op,ef,cl,sq,reduceIte,j2,j3,j4,j5,j6,j7,j8,j9,y1,S1,h0,h1,h2,h3,h4,h10,h11,h12,h13]
  refine rest _ _ a mid d3 (decide ((b-a) / 8≤b-mid)) (by omega) (by omega) (by omega) (by omega) ?_ ?_ ?_ ?_ ?_ ?_ ?_ (by rw [e3]) ⟨d3,hd3,hs3,rfl,hfr2.trans hf3 fun _ h=>.inl h⟩
  all_goals simp -implicitDefEqProofs only [op,ef,cl,sq,reduceIte,j2,j3,j4,j5,j6,j7,j8,j9,y1,S1,h0,h1,h2,h3,h4,h10,h11,h12]
set_option maxHeartbeats 8000000
open Go.Sort in
theorem pdq64 (c n:Nat) (hs:n<16777216):∀ m a b lim (d:Array Nm) H,b-a=m→a≤b→b≤n→lim<1000→d.size=n→H[c]?=some (.cells (msC eN d.toList)) →
  W env (.call 99 [.msl c 0 n 2,.int .i64 (a:Nat),.int .i64 (b:Nat),.int .i64 (lim:Nat),.fn 27 []]) H (SrtN c n (pdq ltM d a b lim true true) H):=by
 intro m
 induction m using Nat.strongRecOn with
 | _ m ih =>
 intro a b lim d H hm hab hb hlim hn hc
 subst hm
 refine W.fnI rfl rfl rfl ?_
 simp -implicitDefEqProofs only [ir99,op,ef,cl,sq,reduceIte,j2,j3,j4,j5,j6,j7,j8,j9,y1,S1]
 refine W.loopI (fun (q:Nat × Nat × Nat × Bool × Bool) R H'=>At H' (fun H'=>SC c n H (fun di=>pdq ltM di q.1 q.2.1 q.2.2.1 q.2.2.2.1 q.2.2.2.2=pdq ltM d a b lim true true) H')∧R 0=.msl c 0 n 2∧R 1=.int .i64 q.1∧R 2=.int .i64 q.2.1∧R 3=.int .i64 q.2.2.1∧R 4=.fn 27 []∧R 10=.bool q.2.2.2.1∧R 11=.bool q.2.2.2.2∧a≤q.1∧q.1≤q.2.1∧q.2.1≤b∧q.2.2.1≤lim) (fun q=>q.2.1-q.1) (a,b,lim,true,true) ⟨.i ⟨d,hc,hn,rfl,Frm.refl _ _⟩,rfl,rfl,rfl,rfl,rfl,rfl,rfl,Nat.le_refl _,hab,Nat.le_refl _,Nat.le_refl _⟩ ?_
 rintro ⟨a1,b1,l1,wb,wp⟩ R H1 ⟨⟨di,hd,hsz,hP,hfr⟩,h0,h1,h2,h3,h4,h10,h11,q1,q2,q3,q4⟩
 simp only at hP h1 h2 h3 h10 h11 q1 q2 q3 q4 ⊢
 rw [c_block,c_seq]
 refine seg0 _ rfl c n a1 b1 l1 wb wp R H1 _ h0 h1 h2 h3 h4 h10 h11 q2 (by omega) ?_
 intro R1 p1
 rw [then_n,cont_ap,c_seq]
 refine seg1 _ rfl c n a1 b1 l1 wb wp di R1 H H1 _ p1 ⟨di,hd,hsz,rfl,hfr⟩ (by omega) q2 hs ?_ ?_
 ·rintro R' H' hle ⟨d',hd',hs',rfl,hf'⟩
  rw [pdq,if_pos hle] at hP
  simp -implicitDefEqProofs only [op,ef,cl,sq,reduceIte,j2,j3,j4,j5,j6,j7,j8,j9,y1,S1]
  exact ⟨rfl,_,hd',hs',hP,hf'⟩
 intro R2 h12 p2
 rw [then_n,cont_ap,c_seq]
 refine seg2 _ rfl c n a1 b1 l1 wb wp di R2 H H1 _ p2 ⟨di,hd,hsz,rfl,hfr⟩ (by omega) (by omega) hs ?_ ?_
 ·rintro R' H' hl0 ⟨d',hd',hs',rfl,hf'⟩
  rw [pdq,if_neg h12,if_pos hl0] at hP
  simp -implicitDefEqProofs only [op,ef,cl,sq,reduceIte,j2,j3,j4,j5,j6,j7,j8,j9,y1,S1]
  exact ⟨rfl,_,hd',hs',hP,hf'⟩
 intro R3 hl0 p3
 rw [then_n,cont_ap,c_seq]
 refine seg3 _ rfl c n a1 b1 l1 wb wp di R3 H H1 _ p3 ⟨di,hd,hsz,rfl,hfr⟩ (by omega) (by omega) hs (by omega) ?_
 rintro R4 H4 p4 ⟨d1,hd4,hs4,e1,hf4⟩
 obtain ⟨lim1,el⟩:∃ l,l=if (!wb)=true then l1-1 else l1:=⟨_,rfl⟩
 have hll:lim1≤l1:=by rw [el];split <;> omega
 rw [← el] at p4
 rw [then_n,cont_ap,c_seq]
 refine seg4 _ rfl c n a1 b1 lim1 wb wp d1 R4 H H4 _ p4 ⟨d1,hd4,hs4,rfl,hf4⟩ (by omega) (by omega) hs ?_
 rintro R5 H5 p5 h13 h14 ⟨d1',hd5,hs5,e1',hf5⟩
 subst e1'
 have hcr:=choosePivot_holds ltM d1' a1 b1 (by omega)
 obtain ⟨cp,ec⟩:∃ x,x=choosePivot ltM d1' a1 b1:=⟨_,rfl⟩
 rw [← ec] at h13 h14 hcr
 rw [then_n,cont_ap,c_seq]
 refine seg5 _ rfl c n a1 b1 lim1 wb wp d1' cp.1 cp.2 R5 H H5 _ p5 h13 h14 ⟨d1',hd5,hs5,rfl,hf5⟩ (by omega) (by omega) hs hcr ?_
 rintro R6 H6 p6 h13 h14 ⟨d2,hd6,hs6,e2,hf6⟩
 obtain ⟨pv,ep⟩:∃ x,x=if cp.2=.decreasing then (b1-1)-(cp.1-a1) else cp.1:=⟨_,rfl⟩
 obtain ⟨hi,eh⟩:∃ x,x=if cp.2=.decreasing then Hint.increasing else cp.2:=⟨_,rfl⟩
 rw [← ep] at h13
 rw [← eh] at h14
 have hpv:a1≤pv∧pv<b1:=by rw [ep];split <;> omega
 rw [then_n,cont_ap,c_seq]
 obtain ⟨pi,epi⟩:∃ x,x=if (wb&&wp&&hi=.increasing)=true then partialInsertionSort ltM d2 a1 b1 else (d2,false):=⟨_,rfl⟩
 rw [pdq_step h12 hl0 e1 el ec e2 ep eh epi] at hP
 refine seg6 _ rfl c n a1 b1 lim1 wb wp d2 pv hi R6 H H6 _ p6 h13 h14 ⟨d2,hd6,hs6,rfl,hf6⟩ (by omega) (by omega) hs pi epi ?_ ?_
 ·rintro R' H' hpt ⟨d',hd',hs',rfl,hf'⟩
  rw [if_pos hpt] at hP
  simp -implicitDefEqProofs only [op,ef,cl,sq,reduceIte,j2,j3,j4,j5,j6,j7,j8,j9,y1,S1]
  exact ⟨rfl,_,hd',hs',hP,hf'⟩
 rintro R7 H7 hpf p7 h13 ⟨d3,hd7,hs7,e3,hf7⟩
 rw [if_neg (by rw [hpf];simp),← e3] at hP
 rw [then_n,cont_ap,c_seq]
 refine seg7 _ rfl c n a1 b1 lim1 wb wp d3 pv R7 H H7 _ p7 h13 ⟨d3,hd7,hs7,rfl,hf7⟩ (by omega) (by omega) hs hpv ?_ ?_
 ·rintro R' H' hgt g0 g1 g2 g3 g4 g10 g11 ⟨d',hd',hs',e',hf'⟩
  have hr:=peq_range d3 hpv.1 hpv.2 (by omega)
  rw [if_pos hgt,if_pos hr,← e'] at hP
  simp -implicitDefEqProofs only [op,ef,cl,sq,reduceIte,j2,j3,j4,j5,j6,j7,j8,j9,y1,S1]
  exact ⟨((partitionEqual ltM d3 a1 b1 pv).1,b1,lim1,wb,wp),by simp only;omega,.i ⟨_,hd',hs',hP,hf'⟩,g0,g1,g2,g3,g4,g10,g11,by simp only;omega,by simp only;omega,by simp only;omega,by simp only;omega⟩
 rintro R8 H8 hgt p8 h13 ⟨d3',hd8,hs8,e3',hf8⟩
 subst e3'
 have hr:=partition_holds ltM ltM_swo d3' a1 b1 pv hpv.1 hpv.2 (by omega)
 rw [if_neg (by rw [hgt];simp),if_pos ⟨hr.1,hr.2.1⟩] at hP
 rw [then_n,cont_ap]
 refine seg8 _ rfl c n a1 b1 lim1 wb wp d3' pv R8 H H8 _ p8 h13 ⟨d3',hd8,hs8,rfl,hf8⟩ (by omega) (by omega) hs hpv (fun a' b' d' H' hlt ha' hb' hs' hc'=>ih _ (by omega) a' b' lim1 d' H' rfl ha' hb' (by omega) hs' hc') ?_
 rintro R' H' a' b' d' wb' ha' hab' hb' hlt g0 g1 g2 g3 g4 g10 g11 e' ⟨d'',hd',hs',rfl,hf'⟩
 simp -implicitDefEqProofs only [op,ef,cl,sq,reduceIte,j2,j3,j4,j5,j6,j7,j8,j9,y1,S1]
 exact ⟨(a',b',lim1,wb',(partition ltM d3' a1 b1 pv).2.1),by simp only;omega,.i ⟨_,hd',hs',by simp only;rw [e'];exact hP,hf'⟩,g0,g1,g2,g3,g4,g10,g11,by simp only;omega,hab',by simp only;omega,by simp only;omega⟩
open Go.Sort in
theorem sortF49 (c:Nat) (d:Array Nm) (H:Heap) (hc:H[c]?=some (.cells (msC eN d.toList))) (hs:d.size<16777216) :
  W env (.call 75 [.msl c 0 d.size 2,.fn 27 []]) H (SrtN c d.size (sort ltM d) H):=by
 refine W.fnI rfl rfl rfl ?_
 have w1:IntKind.u64.wrap (d.size:Int)=(d.size:Int):=wrapu (by omega)
 simp -implicitDefEqProofs only [ir75,op,ef,cl,sq,reduceIte,j2,j3,j4,j5,j6,j7,j8,j9,y1,S1,w1]
 refine callB_of _ _ _ _ _ _ _ _ (len65 d.size hs _) ?_
 rintro u H1 ⟨hu,rfl⟩
 cases hu
 have hb:=bits_lt (n:=d.size) (k:=24) hs
 simp -implicitDefEqProofs only [op,ef,cl,sq,reduceIte,j2,j3,j4,j5,j6,j7,j8,j9,y1,S1]
 refine callB_of _ _ _ _ _ _ _ _ (pdq64 c d.size hs _ 0 d.size (bitsLen d.size) d _ rfl (Nat.zero_le _) (Nat.le_refl _) (by omega) rfl hc) ?_
 rintro u H2 ⟨hu,h2⟩
 cases hu
 simp -implicitDefEqProofs only [op,ef,cl,sq,reduceIte,j2,j3,j4,j5,j6,j7,j8,j9,y1,S1]
 exact ⟨rfl,h2⟩
theorem sorted_listF {d:Array Nm} (hn:d.toList.Nodup):(Go.Sort.sort ltM d).toList.Perm d.toList∧(Go.Sort.sort ltM d).toList.Pairwise (fun a b=>ltM a b=true):=by
 obtain ⟨⟨hs,_,hp⟩,hsort⟩:=Go.Sort.sort_sorts ltM ltM_swo d
 have e1:(Go.Sort.sort ltM d).extract 0 d.size=Go.Sort.sort ltM d:=by
  conv=>lhs;arg 3;rw [← hs]
  simp
 have hperm:(Go.Sort.sort ltM d).toList.Perm d.toList:=by
  rw [e1] at hp
  simpa using hp
 refine ⟨hperm,?_⟩
 have hn2:(Go.Sort.sort ltM d).toList.Nodup:=hperm.nodup_iff.2 hn
 rw [List.pairwise_iff_getElem]
 intro i j hi hj hij
 have h1:=hsort i j (Nat.zero_le _) hij (by rw [← hs];simpa using hj)
 have gi:=arr_get (d:=Go.Sort.sort ltM d) (i:=i) (by simpa using hi)
 have gj:=arr_get (d:=Go.Sort.sort ltM d) (i:=j) (by simpa using hj)
 rw [List.getElem?_eq_getElem hi] at gi
 rw [List.getElem?_eq_getElem hj] at gj
 rw [Option.some.inj gi,Option.some.inj gj]
 cases h:ltM (Go.Sort.sort ltM d)[i]! (Go.Sort.sort ltM d)[j]! with
 | true=>rfl
 | false =>
  have e:=ltM_tri h h1
  rw [← Option.some.inj gi,← Option.some.inj gj] at e
  have:=(List.getElem_inj hn2).1 e
  omega
theorem sortedF34 (es:List (Nm × T)) (c mb:Nat) (H:Heap) (hnd:(es.map (·.1)).Nodup) (hes:es.length≤8000000) (hc:H[c]?=some (.cells [.map mb])) (hm:H[mb]?=some (.map (encK kN es))) :
  W env (.call 38 [.fn 76 [.ptr c 0],.fn 27 []]) H (SortQ es H):=by
 refine W.fnI rfl rfl rfl ?_
 simp -implicitDefEqProofs only [ir38,op,ef,cl,sq,reduceIte,j2,j3,j4,j5,j6,j7,j8,j9,y1,S1]
 refine callB_of _ _ _ _ _ _ _ _ (coll48 es c mb H hnd (by omega) hc hm) ?_
 rintro u H1 ⟨hx,t,vis,hu,hmt,hri⟩
 cases hu
 have hperm:vis.Perm (es.map (·.1)):=(List.perm_ext_iff_of_nodup hri.nvis hnd).2 fun k=>hri.end' k
 have hvl:vis.length=es.length:=by have:=hri.len;simpa using this
 rcases hmt with ⟨rfl,rfl⟩ | ⟨d,rfl,hd,hdn⟩
 ·simp -implicitDefEqProofs only [op,ef,cl,sq,reduceIte,j2,j3,j4,j5,j6,j7,j8,j9,y1,S1]
  refine callB_of _ _ _ _ _ _ _ _ (sortE _) ?_
  rintro u H2 ⟨hu,rfl⟩
  cases hu
  simp -implicitDefEqProofs only [op,ef,cl,sq,reduceIte,j2,j3,j4,j5,j6,j7,j8,j9,y1,S1]
  exact ⟨hx,_,[],rfl,mut_nil _ _ _ _,hperm,List.Pairwise.nil⟩
 ·simp -implicitDefEqProofs only [op,ef,cl,sq,reduceIte,j2,j3,j4,j5,j6,j7,j8,j9,y1,S1]
  have:=sortF49 d vis.toArray H1 (by simpa using hd) (by simpa using (by omega:vis.length<16777216))
  simp -implicitDefEqProofs only [List.size_toArray] at this
  refine callB_of _ _ _ _ _ _ _ _ this ?_
  rintro u H2 ⟨hu,d2,h2,hsz2,rfl,hfr⟩
  cases hu
  simp -implicitDefEqProofs only [op,ef,cl,sq,reduceIte,j2,j3,j4,j5,j6,j7,j8,j9,y1,S1]
  have hs:=sorted_listF (d:=vis.toArray) (by simpa using hri.nvis)
  simp -implicitDefEqProofs only [List.size_toArray] at hs
  refine ⟨ext_of fun a x hax=>hfr.get (hx.get hax) (by have:=glt hax;omega),_,_,rfl,.inr ⟨d,?_,h2,hdn⟩,hs.1.trans hperm,hs.2⟩
  rw [hs.1.length_eq]
theorem mut_n {α:Type} {enc:α→List T} {n:Nat} (hn:∀ x,(enc x).length=n) (h0:n≠0) {n0:Nat} {H:Heap} {t:T} {l:List α} (hm:Mut enc n n0 H t l) {i:Nat} {x:α} (hx:l[i]?=some x):∃ b,H[b]?=some (.cells (msC enc l))∧iadT n i t=some (.ptr b (i*n))∧ldcB n (i*n) (some (.cells (msC enc l)))=some (enc x):=by
 have hi:=(List.getElem?_eq_some_iff.1 hx).1
 rcases hm with ⟨rfl,_⟩ | ⟨b,rfl,hb,_⟩
 ·simp at hi
 ·refine ⟨b,hb,by rw [iad_m];simp [hi,h0],?_⟩
  have:=msC_get hn hx 0 n (by omega)
  simp -implicitDefEqProofs only [Nat.add_zero,List.drop_zero] at this
  rw [this,List.take_of_length_le (by rw [hn];omega)]
def eK (x:Nm × Hd):List T:=[.str x.1.1,.int .u64 x.1.2,.str x.2.value,.sl .arg (x.2.keys.map eS),.int .i64 x.2.stamp]
def keptL (s:Sto) (l:List Nm):List (Nm × Hd):=l.map fun n=>(n,hdOf (mlook s.vs n))
def KeptQ (s:Sto) (H:Heap):Out→Heap→Prop:=fun o H'=>Ext H H'∧∃ k l,KOk k l∧o=.val (.sl k ((keptL s l).map eK))∧l.Perm (s.vs.map (·.1))∧l.Pairwise (fun a b=>ltM a b=true)
theorem kept20 (b:Bk) (s:Sto) (F:Nat→Prop) (H:Heap) (hs:SH H b s F) (hi:SInv s) (hn:s.vs.length≤8000000):W env (.call 10 [.ptr b.s 0]) H (KeptQ s H):=by
 obtain ⟨im,pm,sa⟩:=hs
 refine W.fnI rfl rfl rfl ?_
 simp -implicitDefEqProofs only [ir10,op,ef,cl,sq,reduceIte,j2,j3,j4,j5,j6,j7,j8,j9,y1,S1,sa.hs]
 refine callB_of _ _ _ _ _ _ _ (fun o H'=>o=.val (.fn 76 [.ptr H.length 0])∧H'=H++[.cells [.map b.v]]) ?_ ?_
 ·refine W.fnI rfl rfl rfl ?_
  simp -implicitDefEqProofs only [ir39,op,ef,cl,sq,reduceIte,j2,j3,j4,j5,j6,j7,j8,j9,y1,S1]
  exact rfl
 rintro u H1 ⟨hu,rfl⟩
 cases hu
 have lv:=glt sa.hv
 have hkeys:(encV s.vs).map (·.1)=s.vs.map (·.1):=by simp [encV]
 simp -implicitDefEqProofs only [op,ef,cl,sq,reduceIte,j2,j3,j4,j5,j6,j7,j8,j9,y1,S1]
 refine callB_of _ _ _ _ _ _ _ _ (sortedF34 (encV s.vs) H.length b.v _ (by rw [hkeys];exact hi.nd) (by simpa [encV] using hn) (g_tail rfl) (by rw [g_app lv];exact sa.hv)) ?_
 rintro t H2 ⟨hx2,_,l,hu,hmt,hperm,hpw⟩
 cases hu
 rw [hkeys] at hperm
 have hll:l.length≤8000000:=by rw [hperm.length_eq];simpa using hn
 have hlen:=hmt.len
 have hx0:Ext H H2:=(Ext.rfl'.app _).trans hx2
 simp -implicitDefEqProofs only [op,ef,cl,sq,reduceIte,j2,j3,j4,j5,j6,j7,j8,j9,y1,S1,hlen]
 have hlenH:∀ Hx,lenT Hx .sl t=some l.length:=fun Hx=>by
  rcases hmt with ⟨e,rfl⟩ | ⟨c,rfl,_,_⟩
  ·rw [e];rfl
  ·rfl
 refine W.loopI (fun (i:Nat) R H'=>At H' (fun H'=>∃ kw,R 3=.sl kw ((keptL s (l.take i)).map eK)∧Ext H H'∧Ext H2 H'∧Apd H2.length H' kw∧KOk kw (l.take i))∧R 0=.ptr b.s 0∧R 11=t∧R 12=.int .i64 l.length∧R 13=.int .i64 i∧i≤l.length) (fun i=>l.length-i) 0 ⟨.i ⟨.nil,rfl,hx0,Ext.rfl',apd_nil _ _,fun _=>rfl⟩,rfl,rfl,rfl,rfl,Nat.zero_le _⟩ ?_
 rintro i R H3 ⟨⟨kw,h3,hx3,hx23,hap,hko⟩,h0,h11,h12,h13,hil⟩
 by_cases hlt:i<l.length
 ·obtain ⟨m,hm⟩:=getP hlt
  have ws:=wrap_succ (show i<9223372036854775807 by omega)
  obtain ⟨c,g1,g2,g3⟩:=mut_n (enc:=eN) (n:=2) (fun _=>rfl) (by decide) (hmt.ext hx23) hm
  have sa3:=sa.frm (ext_frm (F:=fun _=>False) hx3) (fun _ _ _ h=>h)
  have l0:=glt sa3.hs
  have lv3:=glt sa3.hv
  have hlk:=fun Hx z ok=>lkpB_K kNok z ok Hx (encV s.vs) m
  simp -implicitDefEqProofs only [kN,eN] at hlk
  have hh:=lkp_hd s.vs m
  simp -implicitDefEqProofs only [op,ef,cl,sq,reduceIte,j2,j3,j4,j5,j6,j7,j8,j9,y1,S1,S2,S3,List.length_set,h0,h11,h12,h13,hlt,natOf_nat,g1,g2,g3,eN,sa3.hs,sa3.hv,l0,lv3,hlk,hh,encHd]
  refine callB_of _ _ _ _ _ _ _ _ (version30 b s F m.1 m.2 _ ⟨im,pm,sa3.frm (ext_frm (F:=fun _=>False) (Ext.rfl'.app _)) (fun _ _ _ h=>h)⟩ hi) ?_
  rintro u H4 ⟨hx4,kk,hkk,hu⟩
  cases hu
  have c0:H4[H3.length]?=some (.cells [.str m.1,.int .u64 m.2]):=hx4.get (by rw [g_tail rfl])
  have hx34:Ext H3 H4:=(Ext.rfl'.app _).trans hx4
  have s4:=hx34.get sa3.hs
  have v4:=hx34.get sa3.hv
  obtain ⟨hd,hhd⟩:∃ hd,hd=hdOf (mlook s.vs m):=⟨_,rfl⟩
  rw [← hhd] at hh hkk
  have hall:=all_map (enc:=eK) (n:=5) (fun _=>rfl) (keptL s (l.take i))
  have hkl:((keptL s (l.take i)).map eK).length≤8000000:=by simp -implicitDefEqProofs only [keptL,List.length_map,List.length_take];omega
  obtain ⟨k',H5,ha,hap',hst⟩:=app_ok (bytes:=72) ((keptL s (l.take i)).map eK) [[T.str m.1,.int .u64 m.2,.str hd.value,.sl .arg (hd.keys.map eS),.int .i64 hd.stamp]] (hap.ext hx34) (Nat.le_trans hx23.len hx34.len) (by simp) (roomT (by simp -implicitDefEqProofs only [List.length_cons,List.length_nil];omega))
  have hnn:=app_nn ha (by simp)
  simp -implicitDefEqProofs only [op,ef,cl,sq,reduceIte,j2,j3,j4,j5,j6,j7,j8,j9,y1,S1] at ha
  simp -implicitDefEqProofs only [op,ef,cl,sq,reduceIte,j2,j3,j4,j5,j6,j7,j8,j9,y1,S1,eVer,h3,c0,s4,v4,hlk,hh,encHd,← hhd,hall,ha,h0,h11,h12,h13,ws]
  refine ⟨i+1,by omega,.i ⟨k',?_,hst.ext H (by have:=hx0.len;omega) (hx3.trans hx34),hst.ext H2 (Nat.le_refl _) (hx23.trans hx34),hap',fun h=>absurd h hnn⟩,rfl,by omega⟩
  rw [take_sn hm]
  simp -implicitDefEqProofs only [keptL,List.map_append,List.map_cons,List.map_nil,eK,← hhd]
 ·have hil':i=l.length:=by omega
  subst hil'
  rw [List.take_length] at h3 hko
  simp -implicitDefEqProofs only [op,ef,cl,sq,reduceIte,j2,j3,j4,j5,j6,j7,j8,j9,y1,S1,h3,h12,h13,hlt]
  exact ⟨hx3,kw,l,hko,rfl,hperm,hpw⟩
def flatP (ps:List (ByteArray × ByteArray)):List ByteArray:=ps.flatMap fun p=>[p.1,p.2]
theorem flatP_len (ps:List (ByteArray × ByteArray)):(flatP ps).length=2*ps.length:=by
 induction ps with
 | nil=>rfl
 | cons p ps ih=>simp -implicitDefEqProofs only [flatP,List.flatMap_cons,List.length_append,List.length_cons,List.length_nil] at ih ⊢;omega
theorem flatP_get:∀ (ps:List (ByteArray × ByteArray)) (j:Nat) (p:ByteArray × ByteArray),ps[j]?=some p→(flatP ps)[2*j]?=some p.1∧(flatP ps)[2*j+1]?=some p.2
 | [],j,p,h=>by simp at h
 | q :: ps,0,p,h=>by simp at h;subst h;exact ⟨rfl,rfl⟩
 | q :: ps,j+1,p,h=>by
  have:=flatP_get ps j p (by simpa using h)
  have e:flatP (q :: ps)=q.1 :: q.2 :: flatP ps:=rfl
  rw [e,show 2*(j+1)=2*j+1+1 by omega]
  exact this
theorem pairs29 (k:SK) (ps:List (ByteArray × ByteArray)) (H:Heap) (hl:ps.length≤1000):W env (.call 35 [.sl k ((flatP ps).map eS)]) H (fun o H'=>Ext H H'∧∃ kw,o=.val (.sl kw (ps.map eP))):=by
 refine W.fnI rfl rfl rfl ?_
 simp -implicitDefEqProofs only [ir35,op,ef,cl,sq,reduceIte,j2,j3,j4,j5,j6,j7,j8,j9,y1,S1]
 refine W.loopI (fun (j:Nat) R H'=>At H' (fun H'=>∃ kw,R 3=.sl kw ((ps.take j).map eP)∧Ext H H'∧Apd H.length H' kw)∧R 0=.sl k ((flatP ps).map eS)∧R 4=.int .i64 ((2*j:Nat):Int)∧j≤ps.length) (fun j=>ps.length-j) 0 ⟨.i ⟨.nil,rfl,Ext.rfl',apd_nil _ _⟩,rfl,rfl,Nat.zero_le _⟩ ?_
 rintro j R H1 ⟨⟨kw,h3,hx,hap⟩,h0,h4,hj⟩
 have w1:IntKind.i64.wrap (((2*j:Nat):Int)+1)=((2*j+1:Nat):Int):=wrap_succ (by omega)
 have w2:IntKind.i64.wrap (((2*j:Nat):Int)+2)=((2*(j+1):Nat):Int):=by rw [wrap64 (by omega)];omega
 have hfl:=flatP_len ps
 by_cases hlt:j<ps.length
 ·obtain ⟨p,hp⟩:=getP hlt
  obtain ⟨g1,g2⟩:=flatP_get ps j p hp
  have i1:=iadX (e:=eS) (n:=1) (fun _=>rfl) (by decide) (k:=k) g1
  have i2:=iadX (e:=eS) (n:=1) (fun _=>rfl) (by decide) (k:=k) g2
  have hc:2*j+1<(flatP ps).length:=by omega
  have hall:=all_map (enc:=eP) (n:=2) (fun _=>rfl) (ps.take j)
  obtain ⟨k',H',ha,hap',hst⟩:=app_ok (bytes:=32) ((ps.take j).map eP) [[T.str p.1,.str p.2]] hap hx.len (by simp) (roomS (by simp;omega) (by omega))
  simp -implicitDefEqProofs only [op,ef,cl,sq,reduceIte,j2,j3,j4,j5,j6,j7,j8,j9,y1,S1] at ha
  simp -implicitDefEqProofs only [op,ef,cl,sq,reduceIte,j2,j3,j4,j5,j6,j7,j8,j9,y1,S1,h0,h3,h4,List.length_map,w1,hc,natOf_nat,i1,i2,eS,hall,ha,w2]
  refine ⟨j+1,by omega,.i ⟨k',?_,hst.ext H (Nat.le_refl _) hx,hap'⟩,rfl,by omega⟩
  simp [take_sn hp,eP]
 ·have hil:j=ps.length:=by omega
  subst hil
  have hc:¬ (2*ps.length+1<(flatP ps).length):=by omega
  rw [List.take_length] at h3
  simp -implicitDefEqProofs only [op,ef,cl,sq,reduceIte,j2,j3,j4,j5,j6,j7,j8,j9,y1,S1,h0,h3,h4,List.length_map,w1,hc]
  exact ⟨hx,kw,rfl⟩
theorem sorted_eq:∀ (l l':List Nm),l.Pairwise (fun a b=>ltM a b=true)→l'.Pairwise (fun a b=>ltM a b=true)→(∀ x,x∈l↔x∈l')→l=l'
 | [],[],_,_,_=>rfl
 | [],b :: l',_,_,h=>by have:=(h b).2 (by simp);simp at this
 | a :: l,[],_,_,h=>by have:=(h a).1 (by simp);simp at this
 | a :: l,b :: l',h1,h2,h=>by
  rw [List.pairwise_cons] at h1 h2
  have e:a=b:=by
   rcases List.mem_cons.1 ((h a).1 (by simp)) with e | e
   ·exact e
   ·rcases List.mem_cons.1 ((h b).2 (by simp)) with e2 | e2
    ·exact e2.symm
    ·have q1:=h2.1 a e
     have q2:=h1.1 b e2
     have:=ltM_trans q1 q2
     rw [ltM_irr] at this;cases this
  subst e
  rw [sorted_eq l l' h1.2 h2.2 fun x=>?_]
  have hx:=h x
  simp -implicitDefEqProofs only [List.mem_cons] at hx
  constructor
  ·intro hm
   rcases hx.1 (.inr hm) with e | e
   ·subst e;have:=h1.1 x hm;rw [ltM_irr] at this;cases this
   ·exact e
  ·intro hm
   rcases hx.2 (.inr hm) with e | e
   ·subst e;have:=h2.1 x hm;rw [ltM_irr] at this;cases this
   ·exact e
theorem mem_keys {α β:Type} [DecidableEq α] {es:List (α × β)} {k:α}:k∈es.map (·.1)↔(mlook es k).isSome=true:=by
 cases h:mlook es k with
 | none=>simp [mlook_none.1 h]
 | some v =>
  simp -implicitDefEqProofs only [Option.isSome_some,iff_true]
  exact List.mem_map.2 ⟨_,mlook_mem h,rfl⟩
theorem len_eq {α:Type} {l l':List α} (h1:l.Nodup) (h2:l'.Nodup) (h:∀ x,x∈l↔x∈l'):l.length=l'.length:=((List.perm_ext_iff_of_nodup h1 h2).2 h).length_eq
def tA:ByteArray:=⟨#[97]⟩
def tB:ByteArray:=⟨#[98]⟩
def tC:ByteArray:=⟨#[99]⟩
def tX:ByteArray:=⟨#[120]⟩
def tY:ByteArray:=⟨#[121]⟩
def tZ:ByteArray:=⟨#[122]⟩
theorem nAB:tA≠tB:=by decide
theorem nAC:tA≠tC:=by decide
theorem nBC:tB≠tC:=by decide
theorem lAB:strLt tA tB=true:=by decide +kernel
theorem lAC:strLt tA tC=true:=by decide +kernel
theorem mayKnown1:MayP 65536 [(tA,tX),(tB,tY)] [tA,tB]:=by
 refine ⟨by decide,⟨fun i hi=>?_,by decide,by decide⟩,by decide,fun i hi=>?_⟩
 ·match i,hi with
  | 0,_=>intro x hx;cases hx;exact ⟨by decide,fun h=>by omega⟩
  | 1,_=>intro x hx;cases hx;exact ⟨by decide,fun _ y hy=>by cases hy;exact lAB⟩
 ·match i,hi with
  | 0,_=>intro x hx;cases hx;exact ⟨fun h=>by omega,by simp,by decide⟩
  | 1,_=>intro x hx;cases hx;exact ⟨fun _ y hy=>by cases hy;exact lAB,by simp,by decide⟩
theorem mayKnown2:MayP 131072 [(tA,tZ)] [tA,tC]:=by
 refine ⟨by decide,⟨fun i hi=>?_,by decide,by decide⟩,by decide,fun i hi=>?_⟩
 ·match i,hi with
  | 0,_=>intro x hx;cases hx;exact ⟨by decide,fun h=>by omega⟩
  | 1,_=>intro x hx;cases hx;exact ⟨by decide,fun _ y hy=>by cases hy;exact lAC⟩
 ·match i,hi with
  | 0,_=>intro x hx;cases hx;exact ⟨fun h=>by omega,by simp,by decide⟩
abbrev l1:List (ByteArray × ByteArray):=[(tA,tX),(tB,tY)]
abbrev l2:List (ByteArray × ByteArray):=[(tA,tZ)]
structure KnownL (s2 s4 s5:Sto) (fr1 fr2:Bool):Prop where
 f1:fr1=true
 f2:fr2=false
 bot:lastOf s2 tA=0
 n1:(s2.pls 65536).length=2
 n2:(s4.pls 131072).length=1
 kept:∀ l:List Nm,l.Perm (s5.vs.map (·.1))→l.Pairwise (fun a b=>ltM a b=true)→l=[(tA,65536),(tA,131072),(tB,65536)]
 len:s5.vs.length≤12
 st0:(hdOf (mlook s5.vs (tA,65536))).stamp=9
 st1:(hdOf (mlook s5.vs (tA,131072))).stamp=-1
 st2:(hdOf (mlook s5.vs (tB,65536))).stamp=-1
 lat:(latest s5 tA).value=tZ
 las:lastOf s5 tB=65536
 dr1:∃ h,mlook s5.vs (tA,131072)=some h∧h.stamp=-1
 dr2:mlook s5.vs (tC,131072)=none
theorem known_law {s1 s2 s3 s4 s5:Sto} {fr1 fr2 fr4:Bool} (p1:PutV Sto.emp s1 65536 l1 [tA,tB] 5 fr1) (p2:PutV s1 s2 65536 l1 [tA,tB] 5 fr2) (i2:SInv s2) (c3:ComV s2 s3 65536 6 (s2.pls 65536))
  (p4:PutV s3 s4 131072 l2 [tA,tC] 7 fr4) (i4:SInv s4) (c5:ComV s4 s5 131072 9 (s4.pls 131072)) (i5:SInv s5):KnownL s2 s4 s5 fr1 fr2:=by
 have emp:∀ m,mlook Sto.emp.vs m=none:=fun m=>rfl
 have mA:(tA,tX)∈l1:=by simp [l1]
 have mB:(tB,tY)∈l1:=by simp [l1]
 have neg:∀ k,¬ (65536<lastOf Sto.emp k):=fun k=>by simp [lastOf,Sto.emp,mlook_nil]
 obtain ⟨k1,_,a1⟩:=p1.new _ mA (emp _)
 obtain ⟨k2,_,b1⟩:=p1.new _ mB (emp _)
 rw [if_neg (neg _)] at a1 b1
 have o1:∀ m:Nm,(m.2≠65536∨m.1∉[tA,tB])→mlook s1.vs m=none:=fun m h=>(p1.other m (by simpa using h)).trans (emp m)
 have e2:∀ m,mlook s2.vs m=mlook s1.vs m:=fun m=>by
  by_cases h:m.2=65536∧m.1∈l1.map (·.1)
  rotate_left
  ·exact p2.other m (if h1:m.2=65536 then .inr (fun h2=>h ⟨h1,h2⟩) else .inl h1)
  ·obtain ⟨h1,h2⟩:=h
   simp -implicitDefEqProofs only [l1,List.map_cons,List.map_nil,List.mem_cons,List.not_mem_nil,or_false] at h2
   obtain ⟨k,n⟩:=m
   simp only at h1 h2
   subst h1
   rcases h2 with rfl | rfl
   ·rw [a1];exact p2.old _ mA _ a1
   ·rw [b1];exact p2.old _ mB _ b1
 have ls2:s2.ls=[]:=p2.ls.trans p1.ls
 have last2:∀ k,lastOf s2 k=0:=fun k=>by simp [lastOf,ls2,mlook_nil]
 have some1:∀ m,(mlook s1.vs m).isSome=true↔m=(tA,65536)∨m=(tB,65536):=fun m=>by
  constructor
  ·intro h
   have h1:m.2=65536∧m.1∈[tA,tB]:=Classical.byContradiction fun hh=>by
    rw [o1 m (if h1:m.2=65536 then .inr (fun h2=>hh ⟨h1,h2⟩) else .inl h1)] at h;cases h
   simp -implicitDefEqProofs only [List.mem_cons,List.not_mem_nil,or_false] at h1
   obtain ⟨h1,h2 | h2⟩:=h1
   ·exact .inl (Prod.ext h2 h1)
   ·exact .inr (Prod.ext h2 h1)
  ·rintro (rfl | rfl)
   ·rw [a1];rfl
   ·rw [b1];rfl
 have pl2:∀ k,k∈s2.pls 65536↔k∈[tA,tB]:=fun k=>by
  rw [i2.plm,e2,some1];simp
 have e3:∀ m,mlook s3.vs m=mlook s1.vs m:=fun m=>by
  rw [← e2]
  obtain ⟨h1,h2⟩:=c3.vs.2 m
  cases e:mlook s2.vs m with
  | none=>exact h1 e
  | some x =>
   refine (h2 x e).2 fun hh=>?_
   have h3:=(some1 m).1 (by rw [← e2,e];rfl)
   rcases h3 with rfl | rfl
   ·exact absurd hh.1.2.2 (by simp)
   ·exact absurd hh.1.2.2 (by simp)
 have ls3A:mlook s3.ls tA=some 65536:=c3.on tA ((pl2 _).2 (by simp)) (by rw [last2];decide)
 have ls3B:mlook s3.ls tB=some 65536:=c3.on tB ((pl2 _).2 (by simp)) (by rw [last2];decide)
 have a4n:mlook s3.vs (tA,131072)=none:=by rw [e3];exact o1 _ (.inl (by simp))
 obtain ⟨k4,_,a4⟩:=p4.new (tA,tZ) (by simp [l2]) a4n
 have neg4:¬ (131072<lastOf s3 tA):=by simp [lastOf,ls3A]
 rw [if_neg neg4] at a4
 have o4:∀ m:Nm,m≠(tA,131072)→mlook s4.vs m=mlook s1.vs m:=fun m h=>by
  rw [← e3]
  refine p4.other m ?_
  by_cases h1:m.2=131072
  ·right
   simp -implicitDefEqProofs only [l2,List.map_cons,List.map_nil,List.mem_singleton]
   exact fun h2=>h (Prod.ext h2 h1)
  ·exact .inl h1
 have last4A:lastOf s4 tA=65536:=by simp [lastOf,p4.ls,ls3A]
 have some4:∀ m,(mlook s4.vs m).isSome=true↔m=(tA,65536)∨m=(tB,65536)∨m=(tA,131072):=fun m=>by
  by_cases h:m=(tA,131072)
  ·subst h;rw [a4];simp
  ·rw [o4 m h,some1];simp [h]
 have pl4:∀ k,k∈s4.pls 131072↔k∈[tA]:=fun k=>by
  rw [i4.plm,some4];simp
 have a4':mlook s4.vs (tA,65536)=some ⟨tX,k1,[tA,tB],-1⟩:=by rw [o4 _ (by simp)];exact a1
 have b4':mlook s4.vs (tB,65536)=some ⟨tY,k2,[tA,tB],-1⟩:=by rw [o4 _ (by simp)];exact b1
 have a5:=((c5.vs.2 (tA,65536)).2 _ a4').1 ⟨⟨(pl4 _).2 (by simp),by rw [last4A];decide,by decide⟩,rfl⟩
 have z5:=((c5.vs.2 (tA,131072)).2 _ a4).2 fun hh=>absurd hh.1.2.2 (by simp)
 have b5:=((c5.vs.2 (tB,65536)).2 _ b4').2 fun hh=>by
  have:=(pl4 tB).1 hh.1.1
  simp -implicitDefEqProofs only [List.mem_singleton] at this
  exact nAB this.symm
 have some5:∀ m,m∈s5.vs.map (·.1)↔m∈[((tA,65536):Nm),(tA,131072),(tB,65536)]:=fun m=>by
  rw [mem_keys,c5.vs.some,some4]
  simp -implicitDefEqProofs only [List.mem_cons,List.not_mem_nil,or_false]
  exact ⟨fun h=>by rcases h with h | h | h <;> simp [h],fun h=>by rcases h with h | h | h <;> simp [h]⟩
 have lt01:ltM (tA,65536) (tA,131072)=true:=(ltM_iff _ _).2 (.inr ⟨rfl,by decide⟩)
 have lt12:ltM (tA,131072) (tB,65536)=true:=(ltM_iff _ _).2 (.inl lAB)
 have srt:[((tA,65536):Nm),(tA,131072),(tB,65536)].Pairwise (fun a b=>ltM a b=true):=by
  simp [lt01,lt12,ltM_trans lt01 lt12]
 have ls5A:mlook s5.ls tA=some 131072:=c5.on tA ((pl4 _).2 (by simp)) (by rw [last4A];decide)
 have ls5B:mlook s5.ls tB=some 65536:=by
  rw [c5.off tB fun hh=>by
   have:=(pl4 tB).1 hh.1
   simp -implicitDefEqProofs only [List.mem_singleton] at this
   exact nAB this.symm,p4.ls]
  exact ls3B
 refine ⟨p1.fresh.2 ⟨_,mA,emp _⟩,?_,last2 _,?_,?_,fun l hp hs=>sorted_eq l _ hs srt fun x=>by rw [hp.mem_iff,some5],?_,by rw [a5];rfl,by rw [z5];rfl,by rw [b5];rfl,?_,by simp [lastOf,ls5B],⟨_,z5,rfl⟩,?_⟩
 ·cases e:fr2 with
  | false=>rfl
  | true =>
   obtain ⟨p,hp,hn⟩:=p2.fresh.1 e
   simp -implicitDefEqProofs only [l1,List.mem_cons,List.not_mem_nil,or_false] at hp
   rcases hp with rfl | rfl
   ·rw [a1] at hn;cases hn
   ·rw [b1] at hn;cases hn
 ·exact len_eq (i2.pnd _) (by simp [nAB]) pl2
 ·exact len_eq (i4.pnd _) (by simp) pl4
 ·have:=len_eq i5.nd (l':=[((tA,65536):Nm),(tA,131072),(tB,65536)]) (by simp [nAB]) some5
  simp -implicitDefEqProofs only [List.length_map,List.length_cons,List.length_nil] at this
  omega
 ·simp [latest,ls5A,z5,hdOf]
 ·have h:=(some5 (tC,131072))
  rw [mem_keys] at h
  cases e:mlook s5.vs (tC,131072) with
  | none=>rfl
  | some x =>
   rw [e] at h
   have:=h.1 rfl
   simp [nAC.symm,nBC.symm] at this
theorem SH.ext {H H':Heap} {b:Bk} {s:Sto} {F:Nat→Prop} (h:SH H b s F) (hx:Ext H H'):SH H' b s F:=by
 obtain ⟨im,pm,sa⟩:=h
 exact ⟨im,pm,sa.frm (ext_frm (F:=fun _=>False) hx) (fun _ _ _ h=>h)⟩
theorem Frm.more {H H' H'':Heap} {G:Nat→Prop} (h:Frm (fun _=>False) H H') (h':Frm G H' H'') (hg:∀ c,G c→H.length≤c):Frm (fun _=>False) H H'':=h.trans h' fun c hc=>.inr (hg c hc)
theorem Frm.ext {H H' H'':Heap} {F:Nat→Prop} (h:Frm F H H') (h':Ext H' H''):Frm F H H'':=h.trans (ext_frm (F:=fun _=>False) h') fun c hc=>hc.elim
theorem frm_ext {H H':Heap} (h:Frm (fun _=>False) H H'):Ext H H':=ext_of fun c x hx=>h.get hx id
theorem li0 {k:SK} {a b c:List T} (h:a.length=5):iadT 5 0 (.sl k [a,b,c])=some (.iptr a):=by simp [iadT,h]
theorem li1 {k:SK} {a b c:List T} (h:b.length=5):iadT 5 1 (.sl k [a,b,c])=some (.iptr b):=by simp [iadT,h]
theorem li2 {k:SK} {a b c:List T} (h:c.length=5):iadT 5 2 (.sl k [a,b,c])=some (.iptr c):=by simp [iadT,h]
theorem known8 (H:Heap):W env (.call 8 []) H (RetG (.bool true) H):=by
 refine W.fnI rfl rfl rfl ?_
 simp -implicitDefEqProofs only [ir8,op,ef,cl,sq,reduceIte,j2,j3,j4,j5,j6,j7,j8,j9,y1,S1]
 refine callB_of _ _ _ _ _ _ _ _ (new7 _) ?_
 rintro u H0 ⟨hx0,b,F0,hu,sh0,hF0⟩
 cases hu
 simp -implicitDefEqProofs only [op,ef,cl,sq,reduceIte,j2,j3,j4,j5,j6,j7,j8,j9,y1,S1,eqRef,nilOf]
 have hp1:((flatP l1).map eS)=[[T.str ⟨#[97]⟩],[T.str ⟨#[120]⟩],[T.str ⟨#[98]⟩],[T.str ⟨#[121]⟩]]:=rfl
 have hp2:((flatP l2).map eS)=[[T.str ⟨#[97]⟩],[T.str ⟨#[122]⟩]]:=rfl
 refine callB_of _ _ _ _ _ _ _ _ (pairs29 .full l1 _ (by decide)) ?_
 rintro u H1 ⟨hx1,kw1,hu⟩
 cases hu
 simp -implicitDefEqProofs only [op,ef,cl,sq,reduceIte,j2,j3,j4,j5,j6,j7,j8,j9,y1,S1]
 refine callB_of _ _ _ _ _ _ _ _ (put28 b Sto.emp F0 65536 kw1 .full l1 [tA,tB] 5 _ (sh0.ext hx1) SInv.emp (by decide) (fun h=>by cases h) mayKnown1 ⟨by decide,by decide⟩) ?_
 rintro u H2 ⟨s1,F1,fr1,hu,sh1,i1,p1,n1,g1,hF1⟩
 cases hu
 simp -implicitDefEqProofs only [op,ef,cl,sq,reduceIte,j2,j3,j4,j5,j6,j7,j8,j9,y1,S1]
 refine callB_of _ _ _ _ _ _ _ _ (pairs29 .full l1 _ (by decide)) ?_
 rintro u H3 ⟨hx3,kw3,hu⟩
 cases hu
 simp -implicitDefEqProofs only [op,ef,cl,sq,reduceIte,j2,j3,j4,j5,j6,j7,j8,j9,y1,S1]
 refine callB_of _ _ _ _ _ _ _ _ (put28 b s1 F1 65536 kw3 .full l1 [tA,tB] 5 _ (sh1.ext hx3) i1 (by simp [Sto.emp] at n1;simp;omega) (fun h=>by cases h) mayKnown1 ⟨by decide,by decide⟩) ?_
 rintro u H4 ⟨s2,F2,fr2,hu,sh2,i2,p2,n2,g2,hF2⟩
 cases hu
 simp -implicitDefEqProofs only [op,ef,cl,sq,reduceIte,j2,j3,j4,j5,j6,j7,j8,j9,y1,S1]
 have f0:Frm (fun _=>False) H H0:=ext_frm hx0
 have len0:=hx0.len
 have len1:=hx1.len
 have len2:=g1.1
 have len3:=hx3.len
 have len4:=g2.1
 have b1:∀ c,F1 c→H.length≤c∧c<H2.length:=fun c h=>by
  rcases hF1 c h with h | h
  ·have:=hF0 c h;omega
  ·omega
 have b2:∀ c,F2 c→H.length≤c∧c<H4.length:=fun c h=>by
  rcases hF2 c h with h | h
  ·have:=b1 c h;omega
  ·omega
 have f4:Frm (fun _=>False) H H4:=(((f0.ext hx1).more g1 fun c h=>(hF0 c h).1).ext hx3).more g2 fun c h=>(b1 c h).1
 refine callB_of _ _ _ _ _ _ _ _ (latest16 b s2 F2 tA _ sh2 i2) ?_
 rintro u H5 ⟨hx5,kk5,_,hu⟩
 cases hu
 have len5:=hx5.len
 simp -implicitDefEqProofs only [op,ef,cl,sq,reduceIte,j2,j3,j4,j5,j6,j7,j8,j9,y1,S1,S2,eVer]
 refine callB_of _ _ _ _ _ _ _ _ (commit14 b s2 F2 65536 6 _ ((sh2.ext hx5).ext ⟨_,rfl⟩) i2 (by simp [Sto.emp] at n1 n2;omega) (by decide) ⟨by decide,by decide⟩) ?_
 rintro u H6 ⟨s3,hu,sh3,i3,c3,n3,_,_,g3⟩
 cases hu
 have len6:=g3.1
 rw [List.length_append,List.length_singleton] at len6
 have c6:H6[H5.length]?=some (.cells [.str tA,.int .u64 (lastOf s2 tA:Nat),.str (latest s2 tA).value,.sl kk5 ((latest s2 tA).keys.map eS)]):=g3.get (by rw [g_tail rfl]) fun h=>by have:=(b2 _ h).2;omega
 have f6:Frm (fun _=>False) H H6:=((f4.ext hx5).app _).more g3 fun c h=>(b2 c h).1
 simp -implicitDefEqProofs only [op,ef,cl,sq,reduceIte,j2,j3,j4,j5,j6,j7,j8,j9,y1,S1]
 refine callB_of _ _ _ _ _ _ _ _ (pairs29 .full l2 _ (by decide)) ?_
 rintro u H7 ⟨hx7,kw7,hu⟩
 cases hu
 have len7:=hx7.len
 simp -implicitDefEqProofs only [op,ef,cl,sq,reduceIte,j2,j3,j4,j5,j6,j7,j8,j9,y1,S1]
 refine callB_of _ _ _ _ _ _ _ _ (put28 b s3 F2 131072 kw7 .full l2 [tA,tC] 7 _ (sh3.ext hx7) i3 (by simp [Sto.emp] at n1 n2;simp;omega) (fun h=>by cases h) mayKnown2 ⟨by decide,by decide⟩) ?_
 rintro u H8 ⟨s4,F4,fr4,hu,sh4,i4,p4,n4,g4,hF4⟩
 cases hu
 have len8:=g4.1
 have b4:∀ c,F4 c→H.length≤c∧c≠H5.length:=fun c h=>by
  rcases hF4 c h with h | h
  ·have:=b2 c h;omega
  ·omega
 have c8:=g4.get (hx7.get c6) fun h=>by have:=(b2 _ h).2;omega
 have f8:Frm (fun _=>False) H H8:=(f6.ext hx7).more g4 fun c h=>(b2 c h).1
 simp -implicitDefEqProofs only [op,ef,cl,sq,reduceIte,j2,j3,j4,j5,j6,j7,j8,j9,y1,S1]
 refine callB_of _ _ _ _ _ _ _ _ (commit14 b s4 F4 131072 9 _ sh4 i4 (by simp [Sto.emp] at n1 n2 n4;omega) (by decide) ⟨by decide,by decide⟩) ?_
 rintro u H9 ⟨s5,hu,sh5,i5,c5,n5,_,_,g5⟩
 cases hu
 have kl:=known_law p1 p2 i2 c3 p4 i4 c5 i5
 have c9:=g5.get c8 fun h=>(b4 _ h).2 rfl
 have f9:Frm (fun _=>False) H H9:=f8.more g5 fun c h=>(b4 c h).1
 simp -implicitDefEqProofs only [op,ef,cl,sq,reduceIte,j2,j3,j4,j5,j6,j7,j8,j9,y1,S1]
 refine callB_of _ _ _ _ _ _ _ _ (kept20 b s5 F4 _ sh5 i5 (Nat.le_trans kl.len (by decide))) ?_
 rintro u H10 ⟨hx10,kw,l,_,hu,hperm,hpw⟩
 cases hu
 have hl:=kl.kept l hperm hpw
 subst hl
 have c10:=hx10.get c9
 have hz:(0:Nat)=0:=rfl
 obtain ⟨h5,hh5,hst5⟩:=kl.dr1
 rw [kl.n1,kl.n2,kl.f1,kl.f2]
 rw [kl.bot] at c10
 have z0:natOf (.int .i64 0)=some 0:=rfl
 have z1:natOf (.int .i64 1)=some 1:=rfl
 have z2:natOf (.int .i64 2)=some 2:=rfl
 simp -implicitDefEqProofs only [op,ef,cl,sq,reduceIte,j2,j3,j4,j5,j6,j7,j8,j9,y1,S1,c10,keptL,kl.st0,kl.st1,kl.st2,eK,li0,li1,li2,z0,z1,z2]
 refine callB_of _ _ _ _ _ _ _ _ (latest16 b s5 F4 tA _ (sh5.ext hx10) i5) ?_
 rintro u H11 ⟨hx11,kk11,_,hu⟩
 cases hu
 rw [kl.lat]
 have eZ:(tZ=(⟨#[122]⟩:ByteArray))=True:=eq_true rfl
 simp -implicitDefEqProofs only [op,ef,cl,sq,reduceIte,j2,j3,j4,j5,j6,j7,j8,j9,y1,S1,eVer,eZ]
 refine callB_of _ _ _ _ _ _ _ _ (last17 b s5 F4 tB _ ((sh5.ext hx10).ext hx11)) ?_
 rintro u H12 ⟨hu,rfl⟩
 cases hu
 rw [kl.las]
 simp -implicitDefEqProofs only [op,ef,cl,sq,reduceIte,j2,j3,j4,j5,j6,j7,j8,j9,y1,S1]
 refine callB_of _ _ _ _ _ _ _ _ (drop15 b s5 F4 tA 131072 _ ((sh5.ext hx10).ext hx11) i5 (by simp [Sto.emp] at n1 n2 n4;omega)) ?_
 rintro u H13 hd
 rcases hd with ⟨hd,_⟩ | ⟨h6,_,_,hu,hx13⟩ | ⟨h6,hd,hne,_⟩
 ·rw [hh5] at hd;cases hd
 rotate_left
 ·rw [hh5] at hd;cases hd;exact absurd hst5 hne
 cases hu
 simp -implicitDefEqProofs only [op,ef,cl,sq,reduceIte,j2,j3,j4,j5,j6,j7,j8,j9,y1,S1]
 refine callB_of _ _ _ _ _ _ _ _ (drop15 b s5 F4 tC 131072 _ (((sh5.ext hx10).ext hx11).ext hx13) i5 (by simp [Sto.emp] at n1 n2 n4;omega)) ?_
 rintro u H14 hd
 rcases hd with ⟨_,hu,hx14⟩ | ⟨h6,hd,_⟩ | ⟨h6,hd,_⟩
 rotate_left
 ·rw [kl.dr2] at hd;cases hd
 ·rw [kl.dr2] at hd;cases hd
 cases hu
 simp -implicitDefEqProofs only [op,ef,cl,sq,reduceIte,j2,j3,j4,j5,j6,j7,j8,j9,y1,S1]
 exact ⟨rfl,frm_ext ((((f9.ext hx10).ext hx11).ext hx13).ext hx14)⟩
def I64 (n:Int):Prop:=-9223372036854775808≤n∧n≤9223372036854775807
theorem texts37 (k k':SK) (l:List ByteArray) (H:Heap) (hl:l.length≤8000000):W env (.call 49 [.sl k (l.map eS),.sl k' (l.map eS)]) H (fun o H'=>o=.val (.bool true)∧H'=H):=by
 refine W.fnI rfl rfl rfl ?_
 have e0:(((l.length:Nat):Int) != ((l.length:Nat):Int))=false:=by simp
 simp -implicitDefEqProofs only [ir49,op,ef,cl,sq,reduceIte,j2,j3,j4,j5,j6,j7,j8,j9,y1,S1,List.length_map,e0]
 refine W.loopI (fun (i:Nat) R H'=>H'=H∧R 0=.sl k (l.map eS)∧R 1=.sl k' (l.map eS)∧R 5=.int .i64 i∧i≤l.length) (fun i=>l.length-i) 0 ⟨rfl,rfl,rfl,rfl,Nat.zero_le _⟩ ?_
 rintro i R _ ⟨rfl,h0,h1,h5,hil⟩
 by_cases hlt:i<l.length
 ·obtain ⟨x,hx⟩:=getP hlt
  have ws:=wrap_succ (show i<9223372036854775807 by omega)
  have i1:=iadX (e:=eS) (n:=1) (fun _=>rfl) (by decide) (k:=k) hx
  have i2:=iadX (e:=eS) (n:=1) (fun _=>rfl) (by decide) (k:=k') hx
  simp -implicitDefEqProofs only [op,ef,cl,sq,reduceIte,j2,j3,j4,j5,j6,j7,j8,j9,y1,S1,h0,h1,h5,List.length_map,hlt,natOf_nat,i1,i2,eS,ws]
  exact ⟨i+1,by omega,rfl,by omega⟩
 ·simp -implicitDefEqProofs only [op,ef,cl,sq,reduceIte,j2,j3,j4,j5,j6,j7,j8,j9,y1,S1,h0,h1,h5,List.length_map,hlt]
theorem same22 (k:ByteArray) (n:Nat) (v:ByteArray) (kk kk':SK) (ks:List ByteArray) (H:Heap) (hl:ks.length≤8000000):W env (.call 22 [.agg (eVer k n v kk ks),.agg (eVer k n v kk' ks)]) H (RetG (.bool true) H):=by
 refine W.fnI rfl rfl rfl ?_
 simp -implicitDefEqProofs only [ir22,eVer,op,ef,cl,sq,reduceIte,j2,j3,j4,j5,j6,j7,j8,j9,y1,S1,S2,S3]
 refine callB_of _ _ _ _ _ _ _ _ (texts37 kk kk' ks _ hl) ?_
 rintro u H1 ⟨hu,rfl⟩
 cases hu
 simp -implicitDefEqProofs only [op,ef,cl,sq,reduceIte,j2,j3,j4,j5,j6,j7,j8,j9,y1,S1]
 exact ⟨rfl,_,List.append_assoc _ _ _⟩
def SrtS (c:Nat) (d':Array ByteArray) (H:Heap):Out→Heap→Prop:=fun o H'=>o=.val (.tup [])∧H'[c]?=some (.cells (msC eS d'.toList))∧Frm (fun x=>x=c) H H'
theorem swp_setS {Hx:Heap} {c:Nat} (d:Array ByteArray) {i j:Nat} (hi:i<d.size) (hj:j<d.size) :
  stcB Hx c [.str d[j]!] (i*1) (some (.cells (msC eS d.toList)))=some (Hx.set c (.cells (msC eS (d.toList.set i d[j]!)))) ∧
  ∀ Hy,stcB Hy c [.str d[i]!] (j*1) (some (.cells (msC eS (d.toList.set i d[j]!))))=some (Hy.set c (.cells (msC eS (Go.Sort.swp d i j).toList))):=by
 have g1:=msC_set (enc:=eS) (n:=1) (y:=d[j]!) (fun _=>rfl) (arr_get hi) Hx c (eS d[j]!) 0 (by simp [eS]) (by simp [eS])
 obtain ⟨z,hz⟩:=getP (l:=d.toList.set i d[j]!) (i:=j) (by simpa using hj)
 have g2:=fun Hy=>msC_set (enc:=eS) (n:=1) (y:=d[i]!) (fun _=>rfl) hz Hy c (eS d[i]!) 0 (by simp [eS]) (by simp [eS])
 refine ⟨by simpa [eS] using g1,fun Hy=>?_⟩
 rw [swp_list]
 simpa [eS] using g2 Hy
theorem ld_atS {d:Array ByteArray} {i:Nat} (h:i<d.size):ldcB 1 (i*1) (some (.cells (msC eS d.toList)))=some [.str d[i]!]:=by
 have:=msC_get (enc:=eS) (n:=1) (fun _=>rfl) (arr_get h) 0 1 (by decide)
 simpa [eS] using this
open Go.Sort in
theorem ins85 (c:Nat) (d:Array ByteArray) (a b:Nat) (H:Heap) (hc:H[c]?=some (.cells (msC eS d.toList))) (hb:b≤d.size) (hab:a≤b) (hs:d.size<4611686018427387903) :
  W env (.call 118 [.msl c 0 d.size 1,.int .i64 a,.int .i64 b]) H (SrtS c (insertionSort strLt d a b) H):=by
 refine W.fnI rfl rfl rfl ?_
 have wa:=wrap_succ (show a<9223372036854775807 by omega)
 simp -implicitDefEqProofs only [ir118,op,ef,cl,sq,reduceIte,j2,j3,j4,j5,j6,j7,j8,j9,y1,S1,wa]
 refine W.loopI (fun (i:Nat) R H'=>At H' (fun H'=>∃ di:Array ByteArray,H'[c]?=some (.cells (msC eS di.toList))∧di.size=d.size∧insOuter strLt a b i di=insertionSort strLt d a b∧Frm (fun x=>x=c) H H')∧R 0=.msl c 0 d.size 1∧R 1=.int .i64 a∧R 2=.int .i64 b∧R 6=.int .i64 i∧a+1≤i) (fun i=>b-i) (a+1) ⟨.i ⟨d,hc,rfl,rfl,Frm.refl _ _⟩,rfl,rfl,rfl,rfl,Nat.le_refl _⟩ ?_
 rintro i R H1 ⟨⟨di,hd,hsz,hins,hfr⟩,h0,h1,h2,h6,hia⟩
 by_cases hlt:i<b
 ·have wi:=wrap_succ (show i<9223372036854775807 by omega)
  simp -implicitDefEqProofs only [op,ef,cl,sq,reduceIte,j2,j3,j4,j5,j6,j7,j8,j9,y1,S1,h0,h1,h2,h6,hlt]
  refine W.loopE 2 (fun (j:Nat) R H'=>At H' (fun H'=>∃ dj:Array ByteArray,H'[c]?=some (.cells (msC eS dj.toList))∧dj.size=d.size∧insInner strLt a j dj=insInner strLt a i di∧Frm (fun x=>x=c) H H')∧R 0=.msl c 0 d.size 1∧R 1=.int .i64 a∧R 2=.int .i64 b∧R 6=.int .i64 i∧R 7=.int .i64 j∧j≤i) (fun j=>j) i
   (fun R H'=>At H' (fun H'=>∃ dj:Array ByteArray,H'[c]?=some (.cells (msC eS dj.toList))∧dj.size=d.size∧dj=insInner strLt a i di∧Frm (fun x=>x=c) H H')∧R 0=.msl c 0 d.size 1∧R 1=.int .i64 a∧R 2=.int .i64 b∧R 6=.int .i64 i) ?_ ?_ ?_
  ·refine ⟨.i ⟨di,hd,hsz,rfl,hfr⟩,?_,?_,?_,?_,?_,Nat.le_refl _⟩
   all_goals (simp -implicitDefEqProofs only [op,ef,cl,sq,reduceIte,j2,j3,j4,j5,j6,j7,j8,j9,y1,S1,h0,h1,h2,h6])
  ·rintro j R H2 ⟨⟨dj,hd2,hsz2,hinn,hfr2⟩,q0,q1,q2,q6,q7,hji⟩
   by_cases hja:a<j
   ·obtain ⟨j',rfl⟩:∃ j',j=j'+1:=⟨j-1,by omega⟩
    have wp:IntKind.i64.wrap (((j'+1:Nat):Int)-1)=(j':Int):=by rw [wrap64 (by omega)];omega
    have j1:j'+1<d.size:=by omega
    have j0:j'<d.size:=by omega
    have i1:iadT 1 (j'+1) (.msl c 0 d.size 1)=some (.ptr c ((j'+1)*1)):=by rw [iad_m];simp [j1]
    have i0:iadT 1 j' (.msl c 0 d.size 1)=some (.ptr c (j'*1)):=by rw [iad_m];simp [j0]
    have v1:=ld_atS (d:=dj) (i:=j'+1) (by omega)
    have v0:=ld_atS (d:=dj) (i:=j') (by omega)
    simp -implicitDefEqProofs only [op,ef,cl,sq,reduceIte,j2,j3,j4,j5,j6,j7,j8,j9,y1,S1,q0,q1,q2,q6,q7,hja,natOf_nat,i1,i0,wp,hd2,v1,v0]
    refine callB_of _ _ _ _ _ _ _ _ (less91 dj[j'+1]! dj[j']! _) ?_
    rintro u H3 ⟨hu,rfl⟩
    cases hu
    have hd3:=hd2
    obtain ⟨s1,s2⟩:=swp_setS (Hx:=H3) (c:=c) dj (i:=j'+1) (j:=j') (by omega) (by omega)
    cases hc0:strLt dj[j'+1]! dj[j']! with
    | true =>
     simp -implicitDefEqProofs only [op,ef,cl,sq,reduceIte,j2,j3,j4,j5,j6,j7,j8,j9,y1,S1,q0,q1,q2,q6,q7,natOf_nat,i1,i0,wp,hd3,v1,v0,s1,S2,s2,glt hd3]
     exact ⟨j',by omega,.i ⟨swp dj (j'+1) j',g_eq (by rw [List.length_set];exact glt hd3),by rw [swp_size];exact hsz2,by rw [← hinn];conv=>{ rhs;rw [insInner,if_pos (by simp -implicitDefEqProofs only [Bool.and_eq_true,decide_eq_true_eq];exact ⟨hja,hc0⟩)] },(hfr2.set (.inl rfl) _).set (.inl rfl) _⟩,rfl,by omega⟩
    | false =>
     simp -implicitDefEqProofs only [op,ef,cl,sq,reduceIte,j2,j3,j4,j5,j6,j7,j8,j9,y1,S1,q0,q1,q2,q6,q7]
     exact .i ⟨dj,hd3,hsz2,by rw [← hinn,insInner];simp [hc0],hfr2⟩
   ·simp -implicitDefEqProofs only [op,ef,cl,sq,reduceIte,j2,j3,j4,j5,j6,j7,j8,j9,y1,S1,q0,q1,q2,q6,q7,hja]
    refine .i ⟨dj,hd2,hsz2,?_,hfr2⟩
    rw [← hinn]
    cases j with
    | zero=>rfl
    | succ j=>rw [insInner,if_neg (by simp -implicitDefEqProofs only [Bool.and_eq_true,decide_eq_true_eq];omega)]
  ·rintro R H2 ⟨⟨dj,hd2,hsz2,hinn,hfr2⟩,q0,q1,q2,q6⟩
   simp -implicitDefEqProofs only [op,ef,cl,sq,reduceIte,j2,j3,j4,j5,j6,j7,j8,j9,y1,S1,q0,q1,q2,q6,wi]
   refine ⟨i+1,by omega,.i ⟨dj,hd2,hsz2,?_,hfr2⟩,rfl,by omega⟩
   rw [← hins,hinn]
   conv=>rhs;rw [insOuter,if_pos hlt]
 ·simp -implicitDefEqProofs only [op,ef,cl,sq,reduceIte,j2,j3,j4,j5,j6,j7,j8,j9,y1,S1,h0,h1,h2,h6,hlt]
  rw [insOuter,if_neg hlt] at hins
  subst hins
  exact ⟨rfl,hd,hfr⟩
theorem strLt_swo:Go.Sort.SWO strLt where
 irrefl:=lt_irr
 trans _ _ _ h1 h2:=lt_trans' h1 h2
 ntrans x y z h1 h2:=by
  cases h:strLt x z with
  | false=>rfl
  | true =>
   cases h3:strLt y x with
   | true=>rw [lt_trans' h3 h] at h2;cases h2
   | false=>have:=lt_tri h1 h3;subst this;rw [h] at h2;cases h2
theorem ins85e (H:Heap):W env (.call 118 [.sl .nil [],.int .i64 0,.int .i64 0]) H (Ret (.tup []) H):=by
 refine W.fnI rfl rfl rfl ?_
 have wa:IntKind.i64.wrap ((0:Int)+1)=1:=by decide
 simp -implicitDefEqProofs only [ir118,op,ef,cl,sq,reduceIte,j2,j3,j4,j5,j6,j7,j8,j9,y1,S1,wa]
 refine W.loopI (fun (_:Nat) R H'=>H'=H∧R 2=.int .i64 0∧R 6=.int .i64 1) (fun _=>0) 0 ⟨rfl,rfl,rfl⟩ ?_
 rintro _ R _ ⟨rfl,h2,h6⟩
 have l0:¬ ((1:Int)<0):=by decide
 simp -implicitDefEqProofs only [op,ef,cl,sq,reduceIte,j2,j3,j4,j5,j6,j7,j8,j9,y1,S1,h2,h6,l0]
 trivial
theorem pdqE69 (m:Nat) (H:Heap):W env (.call 102 [.sl .nil [],.int .i64 0,.int .i64 0,.int .i64 m]) H (Ret (.tup []) H):=by
 refine W.fnI rfl rfl rfl ?_
 have w1:IntKind.i64.wrap ((0:Int)-0)=0:=by decide
 simp -implicitDefEqProofs only [ir102,op,ef,cl,sq,reduceIte,j2,j3,j4,j5,j6,j7,j8,j9,y1,S1]
 refine W.loopI (fun (_:Nat) R H'=>H'=H∧R 0=.sl .nil []∧R 1=.int .i64 0∧R 2=.int .i64 0) (fun _=>0) 0 ⟨rfl,rfl,rfl,rfl⟩ ?_
 rintro _ R _ ⟨rfl,h0,h1,h2⟩
 have l0:(0:Int)≤12:=by decide
 simp -implicitDefEqProofs only [op,ef,cl,sq,reduceIte,j2,j3,j4,j5,j6,j7,j8,j9,y1,S1,h0,h1,h2,w1,l0]
 refine callB_of _ _ _ _ _ _ _ _ (ins85e _) ?_
 rintro u H2 ⟨hu,rfl⟩
 cases hu
 simp -implicitDefEqProofs only [op,ef,cl,sq,reduceIte,j2,j3,j4,j5,j6,j7,j8,j9,y1,S1]
 trivial
theorem sortE55 (H:Heap):W env (.call 78 [.sl .nil []]) H (Ret (.tup []) H):=by
 refine W.fnI rfl rfl rfl ?_
 have w1:IntKind.u64.wrap ((0:Nat):Int)=((0:Nat):Int):=by decide
 have e0:((0:Nat):Int)=0:=rfl
 simp -implicitDefEqProofs only [ir78,op,ef,cl,sq,reduceIte,j2,j3,j4,j5,j6,j7,j8,j9,y1,S1,w1]
 refine callB_of _ _ _ _ _ _ _ _ (lenN 0 (by omega) _) ?_
 rintro u H1 ⟨rfl,m,hu⟩
 cases hu
 simp -implicitDefEqProofs only [op,ef,cl,sq,reduceIte,j2,j3,j4,j5,j6,j7,j8,j9,y1,S1,e0]
 refine callB_of _ _ _ _ _ _ _ _ (pdqE69 m _) ?_
 rintro u H2 ⟨hu,rfl⟩
 cases hu
 simp -implicitDefEqProofs only [op,ef,cl,sq,reduceIte,j2,j3,j4,j5,j6,j7,j8,j9,y1,S1]
 trivial
def SortSQ (es:List (ByteArray × T)) (H:Heap):Out→Heap→Prop:=fun o H'=>Ext H H'∧∃ t l,o=.val t∧Mut eS 1 H.length H' t l∧l.Perm (es.map (·.1))∧l.Pairwise (fun a b=>strLt a b=true)
def eL (x:ByteArray × Nat):List T:=[.str x.1,.int .u64 x.2]
def lastL (s:Sto) (l:List ByteArray):List (ByteArray × Nat):=l.map fun k=>(k,lastOf s k)
def LastsQ (s:Sto) (H:Heap):Out→Heap→Prop:=fun o H'=>Ext H H'∧∃ k l,KOk k l∧o=.val (.sl k ((lastL s l).map eL))∧l.Perm (s.ls.map (·.1))∧l.Pairwise (fun a b=>strLt a b=true)
theorem slasts23 (k k':SK) (l:List (ByteArray × Nat)) (H:Heap) (hl:l.length≤8000000):W env (.call 12 [.sl k (l.map eL),.sl k' (l.map eL)]) H (fun o H'=>o=.val (.bool true)∧H'=H):=by
 refine W.fnI rfl rfl rfl ?_
 have e0:(((l.length:Nat):Int) != ((l.length:Nat):Int))=false:=by simp
 simp -implicitDefEqProofs only [ir12,op,ef,cl,sq,reduceIte,j2,j3,j4,j5,j6,j7,j8,j9,y1,S1,List.length_map,e0]
 refine W.loopI (fun (i:Nat) R H'=>H'=H∧R 0=.sl k (l.map eL)∧R 1=.sl k' (l.map eL)∧R 5=.int .i64 i∧i≤l.length) (fun i=>l.length-i) 0 ⟨rfl,rfl,rfl,rfl,Nat.zero_le _⟩ ?_
 rintro i R _ ⟨rfl,h0,h1,h5,hil⟩
 by_cases hlt:i<l.length
 ·obtain ⟨x,hx⟩:=getP hlt
  have ws:=wrap_succ (show i<9223372036854775807 by omega)
  have i1:=iadX (e:=eL) (n:=2) (fun _=>rfl) (by decide) (k:=k) hx
  have i2:=iadX (e:=eL) (n:=2) (fun _=>rfl) (by decide) (k:=k') hx
  have hA:hasAll [Ty1.str,Ty1.int] [T.str x.1,.int .u64 x.2]=true:=rfl
  have hE:eqCells [T.str x.1,.int .u64 x.2] [T.str x.1,.int .u64 x.2]=some true:=by
   show some (strEq x.1 x.1&&((x.2:Int)==(x.2:Int)&&true))=some true
   rw [strEq_eq]
   simp
  simp -implicitDefEqProofs only [op,ef,cl,sq,reduceIte,j2,j3,j4,j5,j6,j7,j8,j9,y1,S1,h0,h1,h5,List.length_map,hlt,natOf_nat,i1,i2,eL,hA,hE,ws]
  exact ⟨i+1,by omega,rfl,by omega⟩
 ·simp -implicitDefEqProofs only [op,ef,cl,sq,reduceIte,j2,j3,j4,j5,j6,j7,j8,j9,y1,S1,h0,h1,h5,List.length_map,hlt]
set_option maxHeartbeats 8000000
section
variable {c n i j:Nat} {d:Array ByteArray}
theorem iadmO (h:i<n):iadT 1 i (.msl c 0 n 1)=some (.ptr c (i*1)):=by rw [iad_m];simp [h]
theorem len_msO {l:List ByteArray}:(msC eS l).length=l.length*1:=by rw [msC_len (n:=1) (fun _=>rfl)]
theorem ldm1O (h:i<d.size):(i*1+1≤(msC eS d.toList).length)=True:=by rw [len_msO];simp;omega
theorem ldm2O (h:i<d.size):List.take 1 (List.drop (i*1) (msC eS d.toList))=[.str d[i]!]:=by
 have:=ld_atS h
 rw [ldcB_c,if_pos (by rw [len_msO];simp;omega)] at this
 exact Option.some.inj this
theorem stm0O {x:ByteArray} (h:i<d.size):(i*1+1≤(msC eS (d.toList.set j x)).length)=True:=by rw [len_msO];simp;omega
theorem stm1O (h:i<d.size) (h':j<d.size):(List.take (i*1) (msC eS d.toList)++[.str d[j]!])++List.drop (i*1+1) (msC eS d.toList)=msC eS (d.toList.set i d[j]!):=by
 have:=(swp_setS (Hx:=[.cells []]) (c:=0) d h h').1
 rw [stcB_c,if_pos (by rw [len_msO];simp;omega)] at this
 simpa using this
theorem stm2O (h:i<d.size) (h':j<d.size):(List.take (j*1) (msC eS (d.toList.set i d[j]!))++[.str d[i]!])++List.drop (j*1+1) (msC eS (d.toList.set i d[j]!))=msC eS (Go.Sort.swp d i j).toList:=by
 have:=(swp_setS (Hx:=[.cells []]) (c:=0) d h h').2 [.cells []]
 rw [stcB_c,if_pos (by rw [len_msO];simp;omega)] at this
 simpa using this
end
open Go.Sort in
def SCO (c n:Nat) (H:Heap) (P:Array ByteArray→Prop) (H':Heap):Prop:=∃ d:Array ByteArray,H'[c]?=some (.cells (msC eS d.toList))∧d.size=n∧P d∧Frm (fun x=>x=c) H H'
open Go.Sort in
theorem SCO.swp {c n:Nat} {H H1:Heap} {P:Array ByteArray→Prop} {y x:B} {d':Array ByteArray} (hd:H1[c]?=some y) (hs:d'.size=n) (hP:P d') (hf:Frm (fun x=>x=c) H H1):SCO c n H P ((H1.set c x).set c (.cells (msC eS d'.toList))) :=
 ⟨d',g_eq (by rw [List.length_set];exact glt hd),hs,hP,(hf.set (.inl rfl) _).set (.inl rfl) _⟩
open Go.Sort in
def SrtNO (c n:Nat) (d':Array ByteArray) (H:Heap):Out→Heap→Prop:=fun o H'=>o=.val (.tup [])∧SCO c n H (fun x=>x=d') H'
open Go.Sort in
theorem rev89 (c n:Nat) (d:Array ByteArray) (a b:Nat) (H:Heap) (hn:d.size=n) (hc:H[c]?=some (.cells (msC eS d.toList))) (hb:b≤n) (hab:a<b) (hs:n<4611686018427387903) :
  W env (.call 122 [.msl c 0 n 1,.int .i64 a,.int .i64 b]) H (SrtNO c n (reverseRange d a b) H):=by
 refine W.fnI rfl rfl rfl ?_
 simp -implicitDefEqProofs (maxSteps:=1000000) (disch:=omega) only [ir122,op,ef,cl,sq,reduceIte,j2,j3,j4,j5,j6,j7,j8,j9,y1,S1,wS1]
 refine W.loopI (fun (i:Nat) R H'=>At H' (fun H'=>∃ j,R 7=.int .i64 (j:Nat)∧i+j=a+b-1∧a≤i∧SCO c n H (fun di=>reverseLoop i j di=reverseRange d a b) H')∧R 0=.msl c 0 n 1∧R 6=.int .i64 i) (fun i=>a+b-i) a ⟨.i ⟨b-1,rfl,by omega,Nat.le_refl _,d,hc,hn,rfl,Frm.refl _ _⟩,rfl,rfl⟩ ?_
 rintro i R H1 ⟨⟨j,h9,hij,hai,di,hd,hsz,hrev,hfr⟩,h0,h8⟩
 have lc:=glt hd
 by_cases hlt:i<j
 ·simp -implicitDefEqProofs (maxSteps:=1000000) (disch:=omega) only [natOf_nat,iadmO,ldm1O,ldm2O,stm0O,stm1O,stm2O,wA,wA1,wS,wS1,wM,S2,op,ef,cl,sq,reduceIte,j2,j3,j4,j5,j6,j7,j8,j9,y1,S1,h0,h8,h9,hlt,hd,lc]
  exact ⟨i+1,by omega,.i ⟨j-1,rfl,by omega,by omega,.swp hd (by rw [swp_size];exact hsz) (by rw [← hrev];conv=>{ rhs;rw [reverseLoop,if_pos hlt] }) hfr⟩,rfl⟩
 ·simp -implicitDefEqProofs only [op,ef,cl,sq,reduceIte,j2,j3,j4,j5,j6,j7,j8,j9,y1,S1,h0,h8,h9,hlt]
  rw [reverseLoop,if_neg hlt] at hrev
  exact ⟨rfl,di,hd,hsz,hrev,hfr⟩
open Go.Sort in
theorem sift101 (c n:Nat) (d:Array ByteArray) (lo hi first:Nat) (H:Heap) (hn:d.size=n) (hc:H[c]?=some (.cells (msC eS d.toList))) (hb:first+hi≤n) (hlo:lo≤n) (hs:n<2305843009213693951) :
  W env (.call 132 [.msl c 0 n 1,.int .i64 lo,.int .i64 hi,.int .i64 first]) H (SrtNO c n (siftDown strLt hi first lo d) H):=by
 refine W.fnI rfl rfl rfl ?_
 simp -implicitDefEqProofs only [ir132,op,ef,cl,sq,reduceIte,j2,j3,j4,j5,j6,j7,j8,j9,y1,S1]
 refine W.loopI (fun (r:Nat) R H'=>At H' (fun H'=>SCO c n H (fun di=>siftDown strLt hi first r di=siftDown strLt hi first lo d) H')∧R 0=.msl c 0 n 1∧R 2=.int .i64 hi∧R 3=.int .i64 first∧R 0=.msl c 0 n 1∧R 8=.int .i64 r∧r≤n) (fun r=>hi-r) lo ⟨.i ⟨d,hc,hn,rfl,Frm.refl _ _⟩,rfl,rfl,rfl,rfl,rfl,hlo⟩ ?_
 rintro r R H1 ⟨⟨di,hd,hsz,hP,hfr⟩,h0,h2,h3,h4,h10,hr⟩
 have lc:=glt hd
 by_cases hge:2*r+1≥hi
 ·simp -implicitDefEqProofs (maxSteps:=1000000) (disch:=omega) only [natOf_nat,iadmO,ldm1O,ldm2O,stm0O,stm1O,stm2O,wA,wA1,wS,wS1,wM,S2,op,ef,cl,sq,reduceIte,j2,j3,j4,j5,j6,j7,j8,j9,y1,S1,h0,h2,h3,h4,h10,hge]
  rw [siftDown,dif_pos hge] at hP
  exact ⟨rfl,di,hd,hsz,hP,hfr⟩
 by_cases h2hi:2*r+1+1<hi
 ·simp -implicitDefEqProofs (maxSteps:=1000000) (disch:=omega) only [natOf_nat,iadmO,ldm1O,ldm2O,stm0O,stm1O,stm2O,wA,wA1,wS,wS1,wM,S2,op,ef,cl,sq,reduceIte,j2,j3,j4,j5,j6,j7,j8,j9,y1,S1,h0,h2,h3,h4,h10,hge,h2hi,hd,lc]
  refine callB_of _ _ _ _ _ _ _ _ (less91 di[first+(2*r+1)]! di[first+(2*r+1)+1]! _) ?_
  rintro u H2 ⟨hu,hx0⟩
  cases hu
  have hx:Ext H1 H2:=by rw [hx0];exact Ext.rfl'
  have hd:=hx.get hd
  have lc:=glt hd
  have hfr:=hfr.trans (ext_frm (F:=fun _=>False) hx) (fun _ h=>h.elim)
  have lt1:strLt di[first+(2*r+1)]! di[first+(2*r+1)+1]! = decide (strLt di[first+(2*r+1)]! di[first+(2*r+1)+1]! = true):=by simp
  by_cases c1:strLt di[first+(2*r+1)]! di[first+(2*r+1)+1]! = true
  ·simp -implicitDefEqProofs (maxSteps:=1000000) (disch:=omega) only [natOf_nat,iadmO,ldm1O,ldm2O,stm0O,stm1O,stm2O,wA,wA1,wS,wS1,wM,S2,op,ef,cl,sq,reduceIte,j2,j3,j4,j5,j6,j7,j8,j9,y1,S1,h0,h2,h3,h4,h10,hge,h2hi,hd,lc,c1]
   refine callB_of _ _ _ _ _ _ _ _ (less91 di[first+r]! di[first+(2*r+1+1)]! _) ?_
   rintro u H3 ⟨hu,hx0⟩
   cases hu
   have hx:Ext H2 H3:=by rw [hx0];exact Ext.rfl'
   have hd:=hx.get hd
   have lc:=glt hd
   have hfr:=hfr.trans (ext_frm (F:=fun _=>False) hx) (fun _ h=>h.elim)
   have lt2:strLt di[first+r]! di[first+(2*r+1+1)]! = decide (strLt di[first+r]! di[first+(2*r+1+1)]! = true):=by simp
   by_cases c2:strLt di[first+r]! di[first+(2*r+1+1)]! = true
   ·simp -implicitDefEqProofs (maxSteps:=1000000) (disch:=omega) only [natOf_nat,iadmO,ldm1O,ldm2O,stm0O,stm1O,stm2O,wA,wA1,wS,wS1,wM,S2,op,ef,cl,sq,reduceIte,j2,j3,j4,j5,j6,j7,j8,j9,y1,S1,h0,h2,h3,h4,h10,hge,h2hi,hd,lc,c2]
    refine ⟨2*r+1+1,by omega,.i (.swp hd (by rw [swp_size];exact hsz) ?_ hfr),rfl,by omega⟩
    rw [← hP]
    conv=>{ rhs;rw [siftDown,dif_neg hge,if_pos (and_t (dect h2hi) (lt1.trans (dect c1))),if_neg (not_t (lt2.trans (dect c2))),dif_pos h2hi] }
   ·simp -implicitDefEqProofs (maxSteps:=1000000) (disch:=omega) only [natOf_nat,iadmO,ldm1O,ldm2O,stm0O,stm1O,stm2O,wA,wA1,wS,wS1,wM,S2,op,ef,cl,sq,reduceIte,j2,j3,j4,j5,j6,j7,j8,j9,y1,S1,h0,h2,h3,h4,h10,hge,h2hi,hd,lc,c2]
    rw [siftDown,dif_neg hge,if_pos (and_t (dect h2hi) (lt1.trans (dect c1))),if_pos (not_f (lt2.trans (decf c2)))] at hP
    exact ⟨rfl,di,hd,hsz,hP,hfr⟩
  ·simp -implicitDefEqProofs (maxSteps:=1000000) (disch:=omega) only [natOf_nat,iadmO,ldm1O,ldm2O,stm0O,stm1O,stm2O,wA,wA1,wS,wS1,wM,S2,op,ef,cl,sq,reduceIte,j2,j3,j4,j5,j6,j7,j8,j9,y1,S1,h0,h2,h3,h4,h10,hge,h2hi,hd,lc,c1]
   refine callB_of _ _ _ _ _ _ _ _ (less91 di[first+r]! di[first+(2*r+1)]! _) ?_
   rintro u H3 ⟨hu,hx0⟩
   cases hu
   have hx:Ext H2 H3:=by rw [hx0];exact Ext.rfl'
   have hd:=hx.get hd
   have lc:=glt hd
   have hfr:=hfr.trans (ext_frm (F:=fun _=>False) hx) (fun _ h=>h.elim)
   have lt2:strLt di[first+r]! di[first+(2*r+1)]! = decide (strLt di[first+r]! di[first+(2*r+1)]! = true):=by simp
   by_cases c2:strLt di[first+r]! di[first+(2*r+1)]! = true
   ·simp -implicitDefEqProofs (maxSteps:=1000000) (disch:=omega) only [natOf_nat,iadmO,ldm1O,ldm2O,stm0O,stm1O,stm2O,wA,wA1,wS,wS1,wM,S2,op,ef,cl,sq,reduceIte,j2,j3,j4,j5,j6,j7,j8,j9,y1,S1,h0,h2,h3,h4,h10,hge,h2hi,hd,lc,c2]
    refine ⟨2*r+1,by omega,.i (.swp hd (by rw [swp_size];exact hsz) ?_ hfr),rfl,by omega⟩
    rw [← hP]
    conv=>{ rhs;rw [siftDown,dif_neg hge,if_neg (and_f2 (lt1.trans (decf c1))),if_neg (not_t (lt2.trans (dect c2)))] }
   ·simp -implicitDefEqProofs (maxSteps:=1000000) (disch:=omega) only [natOf_nat,iadmO,ldm1O,ldm2O,stm0O,stm1O,stm2O,wA,wA1,wS,wS1,wM,S2,op,ef,cl,sq,reduceIte,j2,j3,j4,j5,j6,j7,j8,j9,y1,S1,h0,h2,h3,h4,h10,hge,h2hi,hd,lc,c2]
    rw [siftDown,dif_neg hge,if_neg (and_f2 (lt1.trans (decf c1))),if_pos (not_f (lt2.trans (decf c2)))] at hP
    exact ⟨rfl,di,hd,hsz,hP,hfr⟩
 ·simp -implicitDefEqProofs (maxSteps:=1000000) (disch:=omega) only [natOf_nat,iadmO,ldm1O,ldm2O,stm0O,stm1O,stm2O,wA,wA1,wS,wS1,wM,S2,op,ef,cl,sq,reduceIte,j2,j3,j4,j5,j6,j7,j8,j9,y1,S1,h0,h2,h3,h4,h10,hge,h2hi,hd,lc]
  try simp -implicitDefEqProofs only [op,ef,cl,sq,reduceIte,j2,j3,j4,j5,j6,j7,j8,j9,y1,S1]
  try simp -implicitDefEqProofs (maxSteps:=1000000) (disch:=omega) only [natOf_nat,iadmO,ldm1O,ldm2O,stm0O,stm1O,stm2O,wA,wA1,wS,wS1,wM,S2,op,ef,cl,sq,reduceIte,j2,j3,j4,j5,j6,j7,j8,j9,y1,S1,h0,h2,h3,h4,h10,hge,h2hi,hd,lc]
  refine callB_of _ _ _ _ _ _ _ _ (less91 di[first+r]! di[first+(2*r+1)]! _) ?_
  rintro u H3 ⟨hu,hx0⟩
  cases hu
  have hx:Ext H1 H3:=by rw [hx0];exact Ext.rfl'
  have hd:=hx.get hd
  have lc:=glt hd
  have hfr:=hfr.trans (ext_frm (F:=fun _=>False) hx) (fun _ h=>h.elim)
  have lt2:strLt di[first+r]! di[first+(2*r+1)]! = decide (strLt di[first+r]! di[first+(2*r+1)]! = true):=by simp
  by_cases c2:strLt di[first+r]! di[first+(2*r+1)]! = true
  ·simp -implicitDefEqProofs (maxSteps:=1000000) (disch:=omega) only [natOf_nat,iadmO,ldm1O,ldm2O,stm0O,stm1O,stm2O,wA,wA1,wS,wS1,wM,S2,op,ef,cl,sq,reduceIte,j2,j3,j4,j5,j6,j7,j8,j9,y1,S1,h0,h2,h3,h4,h10,hge,h2hi,hd,lc,c2]
   refine ⟨2*r+1,by omega,.i (.swp hd (by rw [swp_size];exact hsz) ?_ hfr),rfl,by omega⟩
   rw [← hP]
   conv=>{ rhs;rw [siftDown,dif_neg hge,if_neg (and_f1 (decf h2hi)),if_neg (not_t (lt2.trans (dect c2)))] }
  ·simp -implicitDefEqProofs (maxSteps:=1000000) (disch:=omega) only [natOf_nat,iadmO,ldm1O,ldm2O,stm0O,stm1O,stm2O,wA,wA1,wS,wS1,wM,S2,op,ef,cl,sq,reduceIte,j2,j3,j4,j5,j6,j7,j8,j9,y1,S1,h0,h2,h3,h4,h10,hge,h2hi,hd,lc,c2]
   rw [siftDown,dif_neg hge,if_neg (and_f1 (decf h2hi)),if_pos (not_f (lt2.trans (decf c2)))] at hP
   exact ⟨rfl,di,hd,hsz,hP,hfr⟩
open Go.Sort in
theorem heap86 (c n:Nat) (d:Array ByteArray) (a b:Nat) (H:Heap) (hn:d.size=n) (hc:H[c]?=some (.cells (msC eS d.toList))) (hb:b≤n) (hab:a<b) (hs:n<2305843009213693951) :
  W env (.call 119 [.msl c 0 n 1,.int .i64 a,.int .i64 b]) H (SrtNO c n (heapSort strLt d a b) H):=by
 refine W.fnI rfl rfl rfl ?_
 simp -implicitDefEqProofs (maxSteps:=1000000) (disch:=omega) only [ir119,natOf_nat,iadmO,ldm1O,ldm2O,stm0O,stm1O,stm2O,wA,wA1,wS,wS1,wM,S2,op,ef,cl,sq,reduceIte,j2,j3,j4,j5,j6,j7,j8,j9,y1,S1,wQ2]
 refine W.loopE 0 (fun (k:Nat) R H'=>At H' (fun H'=>SCO c n H (fun di=>heapBuild strLt (b-a) a k di=heapBuild strLt (b-a) a ((b-a-1) / 2+1) d) H')∧R 0=.msl c 0 n 1∧R 0=.msl c 0 n 1∧R 6=.int .i64 a∧R 7=.int .i64 0∧R 8=.int .i64 (b-a:Nat)∧R 9=.int .i64 ((k:Int)-1)∧k≤b-a) (fun k=>k) ((b-a-1) / 2+1)
  (fun R H'=>At H' (fun H'=>SCO c n H (fun di=>di=heapBuild strLt (b-a) a ((b-a-1) / 2+1) d) H')∧R 0=.msl c 0 n 1∧R 0=.msl c 0 n 1∧R 6=.int .i64 a∧R 7=.int .i64 0∧R 8=.int .i64 (b-a:Nat))
  ⟨.i ⟨d,hc,hn,rfl,Frm.refl _ _⟩,rfl,rfl,rfl,rfl,rfl,by simp [upd],by omega⟩ ?_ ?_
 ·rintro k R H1 ⟨⟨di,hd,hsz,hP,hfr⟩,h0,h3,h8,h9,h10,h11,hk⟩
  cases k with
  | zero =>
   rw [show (((0:Nat):Int)-1)=-1 from rfl] at h11
   simp -implicitDefEqProofs (maxSteps:=1000000) (disch:=omega) only [natOf_nat,iadmO,ldm1O,ldm2O,stm0O,stm1O,stm2O,wA,wA1,wS,wS1,wM,S2,op,ef,cl,sq,reduceIte,j2,j3,j4,j5,j6,j7,j8,j9,y1,S1,h0,h3,h8,h9,h10,h11]
   exact .i ⟨di,hd,hsz,hP,hfr⟩
  | succ k =>
   rw [show (((k+1:Nat):Int)-1)=(k:Int) by omega] at h11
   simp -implicitDefEqProofs (maxSteps:=1000000) (disch:=omega) only [natOf_nat,iadmO,ldm1O,ldm2O,stm0O,stm1O,stm2O,wA,wA1,wS,wS1,wM,S2,op,ef,cl,sq,reduceIte,j2,j3,j4,j5,j6,j7,j8,j9,y1,S1,h0,h3,h8,h9,h10,h11,nge0]
   refine callB_of _ _ _ _ _ _ _ _ (sift101 c n di k (b-a) a _ hsz hd (by omega) (by omega) hs) ?_
   rintro u H2 ⟨hu,d2,hd2,hs2,rfl,hf2⟩
   cases hu
   simp -implicitDefEqProofs (maxSteps:=1000000) (disch:=omega) only [wS0,op,ef,cl,sq,reduceIte,j2,j3,j4,j5,j6,j7,j8,j9,y1,S1,h0,h3,h8,h9,h10,h11]
   exact ⟨k,by omega,.i ⟨_,hd2,hs2,hP,hfr.trans hf2 fun _ h=>.inl h⟩,rfl,by omega⟩
 ·rintro R H1 ⟨⟨di,hd,hsz,hP,hfr⟩,h0,h3,h8,h9,h10⟩
  simp -implicitDefEqProofs (maxSteps:=1000000) (disch:=omega) only [natOf_nat,iadmO,ldm1O,ldm2O,stm0O,stm1O,stm2O,wA,wA1,wS,wS1,wM,S2,op,ef,cl,sq,reduceIte,j2,j3,j4,j5,j6,j7,j8,j9,y1,S1,h0,h3,h8,h9,h10]
  refine W.loopI (fun (k:Nat) R H'=>At H' (fun H'=>SCO c n H (fun di=>heapPop strLt a k di=heapSort strLt d a b) H')∧R 0=.msl c 0 n 1∧R 0=.msl c 0 n 1∧R 6=.int .i64 a∧R 7=.int .i64 0∧R 8=.int .i64 (b-a:Nat)∧R 10=.int .i64 ((k:Int)-1)∧k≤b-a) (fun k=>k) (b-a) ⟨.i ⟨di,hd,hsz,by rw [hP];rfl,hfr⟩,?_,?_,?_,?_,?_,?_,Nat.le_refl _⟩ ?_
  ·simp -implicitDefEqProofs only [op,ef,cl,sq,reduceIte,j2,j3,j4,j5,j6,j7,j8,j9,y1,S1,h0]
  ·simp -implicitDefEqProofs only [op,ef,cl,sq,reduceIte,j2,j3,j4,j5,j6,j7,j8,j9,y1,S1,h3]
  ·simp -implicitDefEqProofs only [op,ef,cl,sq,reduceIte,j2,j3,j4,j5,j6,j7,j8,j9,y1,S1,h8]
  ·simp -implicitDefEqProofs only [op,ef,cl,sq,reduceIte,j2,j3,j4,j5,j6,j7,j8,j9,y1,S1,h9]
  ·simp -implicitDefEqProofs only [op,ef,cl,sq,reduceIte,j2,j3,j4,j5,j6,j7,j8,j9,y1,S1,h10]
  ·simp -implicitDefEqProofs only [op,ef,cl,sq,reduceIte,j2,j3,j4,j5,j6,j7,j8,j9,y1,S1];omega
  rintro k R H1 ⟨⟨di,hd,hsz,hP,hfr⟩,h0,h3,h8,h9,h10,h12,hk⟩
  have lc:=glt hd
  cases k with
  | zero =>
   rw [show (((0:Nat):Int)-1)=-1 from rfl] at h12
   simp -implicitDefEqProofs (maxSteps:=1000000) (disch:=omega) only [natOf_nat,iadmO,ldm1O,ldm2O,stm0O,stm1O,stm2O,wA,wA1,wS,wS1,wM,S2,op,ef,cl,sq,reduceIte,j2,j3,j4,j5,j6,j7,j8,j9,y1,S1,h0,h3,h8,h9,h10,h12]
   exact ⟨rfl,di,hd,hsz,hP,hfr⟩
  | succ k =>
   rw [show (((k+1:Nat):Int)-1)=(k:Int) by omega] at h12
   simp -implicitDefEqProofs (maxSteps:=1000000) (disch:=omega) only [natOf_nat,iadmO,ldm1O,ldm2O,stm0O,stm1O,stm2O,wA,wA1,wS,wS1,wM,S2,op,ef,cl,sq,reduceIte,j2,j3,j4,j5,j6,j7,j8,j9,y1,S1,h0,h3,h8,h9,h10,h12,nge0,hd,lc]
   obtain ⟨d1,hd1,hs1,rfl,hf1⟩:=SCO.swp (n:=n) (P:=fun x=>x=swp di a (a+k)) (x:=.cells (msC eS (di.toList.set a di[a+k]!))) hd (by rw [Go.Sort.swp_size];exact hsz) rfl hfr
   refine callB_of _ _ _ _ _ _ _ _ (sift101 c n _ 0 k a _ hs1 hd1 (by omega) (by omega) hs) ?_
   rintro u H2 ⟨hu,d2,hd2,hs2,rfl,hf2⟩
   cases hu
   simp -implicitDefEqProofs (maxSteps:=1000000) (disch:=omega) only [wS0,op,ef,cl,sq,reduceIte,j2,j3,j4,j5,j6,j7,j8,j9,y1,S1,h0,h3,h8,h9,h10,h12]
   exact ⟨k,by omega,.i ⟨_,hd2,hs2,hP,hf1.trans hf2 fun _ h=>.inl h⟩,rfl,by omega⟩
open Go.Sort in
theorem ord106 (c n p sw:Nat) (d:Array ByteArray) (a b:Nat) (H:Heap) (hn:d.size=n) (hc:H[c]?=some (.cells (msC eS d.toList))) (hp:H[p]?=some (.cells [.int .i64 sw])) (ha:a<n) (hb:b<n) (hs:n<2305843009213693951) (hsw:sw<1000) :
  W env (.call 136 [.msl c 0 n 1,.int .i64 a,.int .i64 b,.ptr p 0]) H (OrdQ p (order2 strLt d a b sw) H):=by
 refine W.fnI rfl rfl rfl ?_
 have hd:=hc
 have hfr:=Frm.refl (fun x=>x=p) H
 simp -implicitDefEqProofs (maxSteps:=1000000) (disch:=omega) only [ir136,natOf_nat,iadmO,ldm1O,ldm2O,stm0O,stm1O,stm2O,wA,wA1,wS,wS1,wM,S2,op,ef,cl,sq,reduceIte,j2,j3,j4,j5,j6,j7,j8,j9,y1,S1,hd]
 refine callB_of _ _ _ _ _ _ _ _ (less91 d[b]! d[a]! _) ?_
 rintro u H1 ⟨hu,hx0⟩
 cases hu
 have hx:Ext H H1:=by rw [hx0];exact Ext.rfl'
 have hd:=hx.get hd
 have lc:=glt hd
 have hfr:=hfr.trans (ext_frm (F:=fun _=>False) hx) (fun _ h=>h.elim)
 have hp1:=hx.get hp
 have lp:=glt hp1
 have lt1:strLt d[b]! d[a]! = decide (strLt d[b]! d[a]! = true):=by simp
 by_cases c1:strLt d[b]! d[a]! = true
 ·simp -implicitDefEqProofs (maxSteps:=1000000) (disch:=omega) only [natOf_nat,iadmO,ldm1O,ldm2O,stm0O,stm1O,stm2O,wA,wA1,wS,wS1,wM,S2,op,ef,cl,sq,reduceIte,j2,j3,j4,j5,j6,j7,j8,j9,y1,S1,hd,c1,hp1,lp]
  refine ⟨?_,?_,?_⟩
  ·rw [order2,if_pos (lt1.trans (dect c1))]
  ·rw [order2,if_pos (lt1.trans (dect c1))];exact g_eq lp
  ·exact hfr.set (.inl rfl) _
 ·simp -implicitDefEqProofs (maxSteps:=1000000) (disch:=omega) only [natOf_nat,iadmO,ldm1O,ldm2O,stm0O,stm1O,stm2O,wA,wA1,wS,wS1,wM,S2,op,ef,cl,sq,reduceIte,j2,j3,j4,j5,j6,j7,j8,j9,y1,S1,hd,c1,hp1,lp]
  refine ⟨?_,?_,?_⟩
  ·rw [order2,if_neg (by rw [lt1,decf c1];simp)]
  ·rw [order2,if_neg (by rw [lt1,decf c1];simp)];exact hp1
  ·exact hfr
open Go.Sort in
theorem ord_ltO (d:Array ByteArray) {n a b sw:Nat} (ha:a<n) (hb:b<n):(Go.Sort.order2 strLt d a b sw).1<n∧(Go.Sort.order2 strLt d a b sw).2.1<n∧(Go.Sort.order2 strLt d a b sw).2.2≤sw+1:=by
 unfold Go.Sort.order2
 split
 ·exact ⟨hb,ha,Nat.le_refl _⟩
 ·exact ⟨ha,hb,Nat.le_succ _⟩
open Go.Sort in
theorem med103 (c n p sw:Nat) (d:Array ByteArray) (a b e:Nat) (H:Heap) (hn:d.size=n) (hc:H[c]?=some (.cells (msC eS d.toList))) (hp:H[p]?=some (.cells [.int .i64 sw])) (hcp:¬ c=p) (ha:a<n) (hb:b<n) (he:e<n) (hs:n<2305843009213693951) (hsw:sw<900) :
  W env (.call 134 [.msl c 0 n 1,.int .i64 a,.int .i64 b,.int .i64 e,.ptr p 0]) H (fun o H'=>MedQ p (median strLt d a b e sw) H o H'∧(median strLt d a b e sw).1<n∧(median strLt d a b e sw).2≤sw+3):=by
 refine W.fnI rfl rfl rfl ?_
 simp -implicitDefEqProofs only [ir134,op,ef,cl,sq,reduceIte,j2,j3,j4,j5,j6,j7,j8,j9,y1,S1]
 refine callB_of _ _ _ _ _ _ _ _ (ord106 c n p sw d a b _ hn hc hp ha hb hs (by omega)) ?_
 rintro u H1 ⟨hu,hp1,hf1⟩
 cases hu
 have hc1:=hf1.get hc hcp
 obtain ⟨r1,hr1⟩:∃ r,r=order2 strLt d a b sw:=⟨_,rfl⟩
 obtain ⟨q1,q2,q3⟩:=ord_ltO d (sw:=sw) ha hb
 rw [← hr1] at q1 q2 q3 hp1 ⊢
 try simp -implicitDefEqProofs only [op,ef,cl,sq,reduceIte,j2,j3,j4,j5,j6,j7,j8,j9,y1,S1]
 refine callB_of _ _ _ _ _ _ _ _ (ord106 c n p r1.2.2 d r1.2.1 e _ hn hc1 hp1 q2 he hs (by omega)) ?_
 rintro u H2 ⟨hu,hp2,hf2⟩
 cases hu
 have hc2:=hf2.get hc1 hcp
 obtain ⟨r2,hr2⟩:∃ r,r=order2 strLt d r1.2.1 e r1.2.2:=⟨_,rfl⟩
 obtain ⟨q4,q5,q6⟩:=ord_ltO d (sw:=r1.2.2) q2 he
 rw [← hr2] at q4 q5 q6 hp2 ⊢
 try simp -implicitDefEqProofs only [op,ef,cl,sq,reduceIte,j2,j3,j4,j5,j6,j7,j8,j9,y1,S1]
 refine callB_of _ _ _ _ _ _ _ _ (ord106 c n p r2.2.2 d r1.1 r2.1 _ hn hc2 hp2 q1 q4 hs (by omega)) ?_
 rintro u H3 ⟨hu,hp3,hf3⟩
 cases hu
 obtain ⟨q7,q8,q9⟩:=ord_ltO d (sw:=r2.2.2) q1 q4
 have e:median strLt d a b e sw=((order2 strLt d r1.1 r2.1 r2.2.2).2.1,(order2 strLt d r1.1 r2.1 r2.2.2).2.2):=by rw [median,← hr1,← hr2]
 rw [e]
 try simp -implicitDefEqProofs only [op,ef,cl,sq,reduceIte,j2,j3,j4,j5,j6,j7,j8,j9,y1,S1]
 exact ⟨⟨rfl,hp3,(hf1.trans hf2 fun _ h=>.inl h).trans hf3 fun _ h=>.inl h⟩,q8,by omega⟩
open Go.Sort in
theorem madj102 (c n p sw:Nat) (d:Array ByteArray) (a:Nat) (H:Heap) (hn:d.size=n) (hc:H[c]?=some (.cells (msC eS d.toList))) (hp:H[p]?=some (.cells [.int .i64 sw])) (hcp:¬ c=p) (ha:1≤a) (ha2:a+1<n) (hs:n<2305843009213693951) (hsw:sw<900) :
  W env (.call 133 [.msl c 0 n 1,.int .i64 a,.ptr p 0]) H (fun o H'=>MedQ p (medianAdjacent strLt d a sw) H o H'∧(medianAdjacent strLt d a sw).1<n∧(medianAdjacent strLt d a sw).2≤sw+3):=by
 refine W.fnI rfl rfl rfl ?_
 simp -implicitDefEqProofs (maxSteps:=1000000) (disch:=omega) only [ir133,natOf_nat,iadmO,ldm1O,ldm2O,stm0O,stm1O,stm2O,wA,wA1,wS,wS1,wM,S2,op,ef,cl,sq,reduceIte,j2,j3,j4,j5,j6,j7,j8,j9,y1,S1]
 refine callB_of _ _ _ _ _ _ _ _ (med103 c n p sw d (a-1) a (a+1) _ hn hc hp hcp (by omega) (by omega) ha2 hs hsw) ?_
 rintro u H1 ⟨⟨hu,hp1,hf1⟩,q1,q2⟩
 cases hu
 try simp -implicitDefEqProofs only [op,ef,cl,sq,reduceIte,j2,j3,j4,j5,j6,j7,j8,j9,y1,S1]
 exact ⟨⟨rfl,hp1,hf1⟩,q1,q2⟩
open Go.Sort in
theorem choose88 (c n:Nat) (d:Array ByteArray) (a b:Nat) (H:Heap) (hn:d.size=n) (hc:H[c]?=some (.cells (msC eS d.toList))) (hb:b≤n) (hab:a+12<b) (hs:n<1305843009213693951) :
  W env (.call 121 [.msl c 0 n 1,.int .i64 a,.int .i64 b]) H (fun o H'=>o=.val (.tup [.int .i64 (choosePivot strLt d a b).1,.int .i64 (hintN (choosePivot strLt d a b).2)])∧Ext H H'):=by
 refine W.fnI rfl rfl rfl ?_
 have h8:8≤b-a:=by omega
 have lc:=glt hc
 have hcp:¬ c=H.length:=by omega
 have hc0:(H++[B.cells [T.int IntKind.i64 0]])[c]?=some (.cells (msC eS d.toList)):=by rw [g_app lc];exact hc
 have hp0:(H++[B.cells [T.int IntKind.i64 0]])[H.length]?=some (.cells [.int .i64 ((0:Nat):Int)]):=g_tail rfl
 have fin:∀ H2:Heap,Frm (fun x=>x=H.length) (H++[B.cells [T.int IntKind.i64 0]]) H2→Ext H H2:=fun H2 hf=>ext_of fun x y hx=>hf.get (by rw [g_app (glt hx)];exact hx) (by have:=glt hx;omega)
 by_cases h50:50≤b-a
 ·simp -implicitDefEqProofs (maxSteps:=1000000) (disch:=omega) only [ir121,natOf_nat,iadmO,ldm1O,ldm2O,stm0O,stm1O,stm2O,wA,wA1,wS,wS1,wM,S2,op,ef,cl,sq,reduceIte,j2,j3,j4,j5,j6,j7,j8,j9,y1,S1,wQ4,wM1,wM2,wM3,h8,h50]
  refine callB_of _ _ _ _ _ _ _ _ (madj102 c n H.length 0 d _ _ hn hc0 hp0 hcp (by omega) (by omega) (by omega) (by omega)) ?_
  rintro u H1 ⟨⟨hu,hp1,hf1⟩,q1,q2⟩
  cases hu
  obtain ⟨ri,hri⟩:∃ r,r=medianAdjacent strLt d (a+(b-a) / 4*1) 0:=⟨_,rfl⟩
  rw [← hri] at q1 q2 hp1 ⊢
  have hc1:=hf1.get hc0 hcp
  try simp -implicitDefEqProofs only [op,ef,cl,sq,reduceIte,j2,j3,j4,j5,j6,j7,j8,j9,y1,S1]
  refine callB_of _ _ _ _ _ _ _ _ (madj102 c n H.length ri.2 d _ _ hn hc1 hp1 hcp (by omega) (by omega) (by omega) (by omega)) ?_
  rintro u H2 ⟨⟨hu,hp2,hf2⟩,q3,q4⟩
  cases hu
  obtain ⟨rj,hrj⟩:∃ r,r=medianAdjacent strLt d (a+(b-a) / 4*2) ri.2:=⟨_,rfl⟩
  rw [← hrj] at q3 q4 hp2 ⊢
  have hc2:=hf2.get hc1 hcp
  try simp -implicitDefEqProofs only [op,ef,cl,sq,reduceIte,j2,j3,j4,j5,j6,j7,j8,j9,y1,S1]
  refine callB_of _ _ _ _ _ _ _ _ (madj102 c n H.length rj.2 d _ _ hn hc2 hp2 hcp (by omega) (by omega) (by omega) (by omega)) ?_
  rintro u H3 ⟨⟨hu,hp3,hf3⟩,q5,q6⟩
  cases hu
  obtain ⟨rk,hrk⟩:∃ r,r=medianAdjacent strLt d (a+(b-a) / 4*3) rj.2:=⟨_,rfl⟩
  rw [← hrk] at q5 q6 hp3 ⊢
  have hc3:=hf3.get hc2 hcp
  try simp -implicitDefEqProofs only [op,ef,cl,sq,reduceIte,j2,j3,j4,j5,j6,j7,j8,j9,y1,S1]
  refine callB_of _ _ _ _ _ _ _ _ (med103 c n H.length rk.2 d ri.1 rj.1 rk.1 _ hn hc3 hp3 hcp q1 q3 q5 (by omega) (by omega)) ?_
  rintro u H4 ⟨⟨hu,hp4,hf4⟩,q7,q8⟩
  cases hu
  have e:choosePivot strLt d a b=((median strLt d ri.1 rj.1 rk.1 rk.2).1,if (median strLt d ri.1 rj.1 rk.1 rk.2).2=0 then .increasing else if (median strLt d ri.1 rj.1 rk.1 rk.2).2=12 then .decreasing else .unknown):=by
   simp -implicitDefEqProofs only [choosePivot,ge_iff_le,if_pos h8,if_pos h50,← hri,← hrj,← hrk]
  rw [e]
  have hx:=fin _ (((hf1.trans hf2 fun _ h=>.inl h).trans hf3 fun _ h=>.inl h).trans hf4 fun _ h=>.inl h)
  generalize median strLt d ri.1 rj.1 rk.1 rk.2=r at *
  obtain ⟨m,sw⟩:=r
  simp only at hp4 ⊢
  by_cases s0:sw=0
  ·subst s0
   have e0:(((0:Nat):Int)==0)=true:=rfl
   simp -implicitDefEqProofs only [op,ef,cl,sq,reduceIte,j2,j3,j4,j5,j6,j7,j8,j9,y1,S1,hp4,e0]
   exact ⟨rfl,hx⟩
  have e0:(((sw:Nat):Int)==0)=false:=by simp;omega
  by_cases s1:sw=12
  ·subst s1
   have e1:(((12:Nat):Int)==12)=true:=rfl
   simp -implicitDefEqProofs only [op,ef,cl,sq,reduceIte,j2,j3,j4,j5,j6,j7,j8,j9,y1,S1,hp4,e0,e1]
   exact ⟨rfl,hx⟩
  have e1:(((sw:Nat):Int)==12)=false:=by simp;omega
  simp -implicitDefEqProofs only [op,ef,cl,sq,reduceIte,j2,j3,j4,j5,j6,j7,j8,j9,y1,S1,hp4,e0,e1,s0,s1]
  exact ⟨rfl,hx⟩
 ·simp -implicitDefEqProofs (maxSteps:=1000000) (disch:=omega) only [ir121,natOf_nat,iadmO,ldm1O,ldm2O,stm0O,stm1O,stm2O,wA,wA1,wS,wS1,wM,S2,op,ef,cl,sq,reduceIte,j2,j3,j4,j5,j6,j7,j8,j9,y1,S1,wQ4,wM1,wM2,wM3,h8,h50]
  refine callB_of _ _ _ _ _ _ _ _ (med103 c n H.length 0 d _ _ _ _ hn hc0 hp0 hcp (by omega) (by omega) (by omega) (by omega) (by omega)) ?_
  rintro u H4 ⟨⟨hu,hp4,hf4⟩,q7,q8⟩
  cases hu
  have e:choosePivot strLt d a b=((median strLt d (a+(b-a) / 4*1) (a+(b-a) / 4*2) (a+(b-a) / 4*3) 0).1,if (median strLt d (a+(b-a) / 4*1) (a+(b-a) / 4*2) (a+(b-a) / 4*3) 0).2=0 then .increasing else if (median strLt d (a+(b-a) / 4*1) (a+(b-a) / 4*2) (a+(b-a) / 4*3) 0).2=12 then .decreasing else .unknown):=by
   simp -implicitDefEqProofs only [choosePivot,ge_iff_le,if_pos h8,if_neg h50]
  rw [e]
  have hx:=fin _ hf4
  generalize median strLt d (a+(b-a) / 4*1) (a+(b-a) / 4*2) (a+(b-a) / 4*3) 0=r at *
  obtain ⟨m,sw⟩:=r
  simp only at hp4 ⊢
  by_cases s0:sw=0
  ·subst s0
   have e0:(((0:Nat):Int)==0)=true:=rfl
   simp -implicitDefEqProofs only [op,ef,cl,sq,reduceIte,j2,j3,j4,j5,j6,j7,j8,j9,y1,S1,hp4,e0]
   exact ⟨rfl,hx⟩
  have e0:(((sw:Nat):Int)==0)=false:=by simp;omega
  by_cases s1:sw=12
  ·subst s1
   have e1:(((12:Nat):Int)==12)=true:=rfl
   simp -implicitDefEqProofs only [op,ef,cl,sq,reduceIte,j2,j3,j4,j5,j6,j7,j8,j9,y1,S1,hp4,e0,e1]
   exact ⟨rfl,hx⟩
  have e1:(((sw:Nat):Int)==12)=false:=by simp;omega
  simp -implicitDefEqProofs only [op,ef,cl,sq,reduceIte,j2,j3,j4,j5,j6,j7,j8,j9,y1,S1,hp4,e0,e1,s0,s1]
  exact ⟨rfl,hx⟩
def brkO (a len md:Nat) (d:Array ByteArray):Nat→UInt64 × Array ByteArray
 | 0=>(UInt64.ofNat len,d)
 | j+1=>Go.Sort.breakStep a len md (brkO a len md d j) (a+len / 4*2-1+j)
open Go.Sort in
theorem break87 (c n:Nat) (d:Array ByteArray) (a b:Nat) (H:Heap) (hn:d.size=n) (hc:H[c]?=some (.cells (msC eS d.toList))) (hb:b≤n) (hab:a+12<b) (hs:n<16777216) :
  W env (.call 120 [.msl c 0 n 1,.int .i64 a,.int .i64 b]) H (SrtNO c n (breakPatterns d a b) H):=by
 refine W.fnI rfl rfl rfl ?_
 have h8:8≤b-a:=by omega
 have lc:=glt hc
 obtain ⟨len,hlen⟩:∃ len,len=b-a:=⟨_,rfl⟩
 have wl:IntKind.u64.wrap ((len:Nat):Int)=(len:Int):=wrapu (by omega)
 rw [← hlen] at h8
 simp -implicitDefEqProofs (maxSteps:=1000000) (disch:=omega) only [ir120,natOf_nat,iadmO,ldm1O,ldm2O,stm0O,stm1O,stm2O,wA,wA1,wS,wS1,wM,S2,op,ef,cl,sq,reduceIte,j2,j3,j4,j5,j6,j7,j8,j9,y1,S1,wQ4,wM2,← hlen,wl,h8]
 refine callB_of _ _ _ _ _ _ _ _ (next97 len (by omega) _) ?_
 rintro u H1 ⟨hu,rfl⟩
 cases hu
 obtain ⟨md,hmd⟩:∃ md,md=1 <<< bitsLen len:=⟨_,rfl⟩
 have hm2:=two_bits (n:=len) (by omega)
 have hm1:1≤1 <<< bitsLen len:=by rw [Nat.one_shiftLeft];exact Nat.one_le_two_pow
 rw [← hmd] at hm1 hm2 ⊢
 have hq:len / 4*2≤len:=by omega
 obtain ⟨ix,hix⟩:∃ ix,ix=a+len / 4*2-1:=⟨_,rfl⟩
 have hfin:breakPatterns d a b=(brkO a len md d 3).2:=by
  simp -implicitDefEqProofs only [breakPatterns,← hlen,ge_iff_le,if_pos h8,brkO,← hmd,Nat.add_zero]
 simp -implicitDefEqProofs (maxSteps:=1000000) (disch:=omega) only [natOf_nat,iadmO,ldm1O,ldm2O,stm0O,stm1O,stm2O,wA,wA1,wS,wS1,wM,S2,op,ef,cl,sq,reduceIte,j2,j3,j4,j5,j6,j7,j8,j9,y1,S1,wQ4,wM2,← hix]
 have hc1:(H++[B.cells [T.int IntKind.u64 len]])[c]?=some (.cells (msC eS d.toList)):=by rw [g_app lc];exact hc
 have hp1:(H++[B.cells [T.int IntKind.u64 len]])[H.length]?=some (.cells [.int .u64 (UInt64.ofNat len).toNat]):=by
  rw [g_tail rfl,UInt64.toNat_ofNat_of_lt' (by show len<18446744073709551616;omega)]
 refine W.loopI (fun (j:Nat) R H'=>At H' (fun H'=>∃ d':Array ByteArray,H'[c]?=some (.cells (msC eS d'.toList))∧d'.size=n∧d'=(brkO a len md d j).2∧H'[H.length]?=some (.cells [.int .u64 (brkO a len md d j).1.toNat])∧Frm (fun x=>x=c∨x=H.length) (H++[B.cells [T.int IntKind.u64 len]]) H')∧R 0=.msl c 0 n 1∧R 1=.int .i64 a∧R 6=.int .i64 len∧R 7=.ptr H.length 0∧R 8=.int .u64 md∧R 9=.int .i64 (ix+j:Nat)∧j≤3) (fun j=>3-j) 0 ⟨.i ⟨d,hc1,hn,rfl,hp1,Frm.refl _ _⟩,rfl,rfl,rfl,rfl,rfl,rfl,by omega⟩ ?_
 rintro j R H1 ⟨⟨di,hd,hsz,hdj,hp,hfr⟩,h0,h1,h8',h9,h10,h11,hj⟩
 by_cases hj3:j<3
 ·have hle:ix+j≤a+len / 4*2+1:=by omega
  simp -implicitDefEqProofs (maxSteps:=1000000) (disch:=omega) only [natOf_nat,iadmO,ldm1O,ldm2O,stm0O,stm1O,stm2O,wA,wA1,wS,wS1,wM,S2,op,ef,cl,sq,reduceIte,j2,j3,j4,j5,j6,j7,j8,j9,y1,S1,wQ4,wM2,h0,h1,h8',h9,h10,h11,hle]
  refine callB_of _ _ _ _ _ _ _ _ (xor98 H.length _ _ hp) ?_
  rintro u H2 ⟨hu,hp2,hf2⟩
  cases hu
  have hd:=hf2.get hd (by omega)
  have lc2:=glt hd
  obtain ⟨r,hr⟩:∃ r,r=xorNext (brkO a len md d j).1:=⟨_,rfl⟩
  rw [← hr] at hp2 ⊢
  obtain ⟨ot,hot⟩:∃ ot,ot=r.toNat &&& (md-1):=⟨_,rfl⟩
  have hol:ot≤md-1:=by rw [hot];exact Nat.and_le_right
  have hstep:brkO a len md d (j+1)=(r,swp di (ix+j) (a+if ot≥len then ot-len else ot)):=by
   simp -implicitDefEqProofs only [brkO,breakStep,← hr,← hdj,← hot,← hix]
  have hne:¬ (c=H.length):=by omega
  by_cases hge:len≤ot
  ·rw [if_pos hge] at hstep
   simp -implicitDefEqProofs (maxSteps:=1000000) (disch:=omega) only [natOf_nat,iadmO,ldm1O,ldm2O,stm0O,stm1O,stm2O,wA,wA1,wS,wS1,wM,S2,op,ef,cl,sq,reduceIte,j2,j3,j4,j5,j6,j7,j8,j9,y1,S1,wSu,u_and,wN,← hot,h0,h1,h8',h9,h10,h11,hge,hd,lc2]
   refine ⟨j+1,by omega,.i ⟨swp di (ix+j) (a+(ot-len)),g_eq (by rw [List.length_set];exact lc2),by rw [swp_size];exact hsz,by rw [hstep],?_,((hfr.trans hf2 fun x h=>.inl (.inr h)).set (.inl (.inl rfl)) _).set (.inl (.inl rfl)) _⟩,rfl,by omega⟩
   rw [g_ne hne,g_ne hne,hp2,hstep]
  ·rw [if_neg hge] at hstep
   simp -implicitDefEqProofs (maxSteps:=1000000) (disch:=omega) only [natOf_nat,iadmO,ldm1O,ldm2O,stm0O,stm1O,stm2O,wA,wA1,wS,wS1,wM,S2,op,ef,cl,sq,reduceIte,j2,j3,j4,j5,j6,j7,j8,j9,y1,S1,wSu,u_and,wN,← hot,h0,h1,h8',h9,h10,h11,hge,hd,lc2]
   refine ⟨j+1,by omega,.i ⟨swp di (ix+j) (a+ot),g_eq (by rw [List.length_set];exact lc2),by rw [swp_size];exact hsz,by rw [hstep],?_,((hfr.trans hf2 fun x h=>.inl (.inr h)).set (.inl (.inl rfl)) _).set (.inl (.inl rfl)) _⟩,rfl,by omega⟩
   rw [g_ne hne,g_ne hne,hp2,hstep]
 ·have hj':j=3:=by omega
  subst hj'
  have hle:¬ (ix+3≤a+len / 4*2+1):=by omega
  simp -implicitDefEqProofs (maxSteps:=1000000) (disch:=omega) only [natOf_nat,iadmO,ldm1O,ldm2O,stm0O,stm1O,stm2O,wA,wA1,wS,wS1,wM,S2,op,ef,cl,sq,reduceIte,j2,j3,j4,j5,j6,j7,j8,j9,y1,S1,wQ4,wM2,h0,h1,h8',h9,h10,h11,hle]
  exact ⟨rfl,di,hd,hsz,by rw [hfin,hdj],(ext_frm (F:=fun x=>x=c) (H:=H) (H':=H++[B.cells [T.int IntKind.u64 len]]) ⟨_,rfl⟩).trans hfr fun x h=>h.elim .inl fun e=>.inr (by omega)⟩
open Go.Sort in
theorem scanDown_eqO {p:ByteArray→Bool} {d:Array ByteArray} {i k:Nat} (h:1≤i):scanDown p d i k=if (decide (i≤k)&&p d[k]!)=true then scanDown p d i (k-1) else k:=by
 cases k with
 | zero=>rw [scanDown,if_neg (and_f1 (decf (by omega)))]
 | succ k=>rw [scanDown];rfl
open Go.Sort in
theorem peq_eqO {a i j si sj:Nat} {d:Array ByteArray} (hi:si=scanUp (fun x=>!strLt d[a]! x) d j i) (hj:sj=scanDown (fun x=>strLt d[a]! x) d si j):partEqLoop strLt a i j d=if si > sj then (si,d) else if (sj-1)+1-(si+1)<j+1-i then partEqLoop strLt a (si+1) (sj-1) (swp d si sj) else (si,d):=by
 subst hi;subst hj
 rw [partEqLoop]
 rfl
open Go.Sort in
theorem peq92 (c n:Nat) (d:Array ByteArray) (a b pv:Nat) (H:Heap) (hn:d.size=n) (hc:H[c]?=some (.cells (msC eS d.toList))) (hb:b≤n) (hab:a<b) (hpv:pv<n) (hs:n<2305843009213693951) :
  W env (.call 124 [.msl c 0 n 1,.int .i64 a,.int .i64 b,.int .i64 pv]) H (fun o H'=>o=.val (.int .i64 (partitionEqual strLt d a b pv).1)∧SCO c n H (fun x=>x=(partitionEqual strLt d a b pv).2) H'):=by
 refine W.fnI rfl rfl rfl ?_
 have hd:=hc
 have lc:=glt hd
 simp -implicitDefEqProofs (maxSteps:=1000000) (disch:=omega) only [ir124,natOf_nat,iadmO,ldm1O,ldm2O,stm0O,stm1O,stm2O,wA,wA1,wS,wS1,wM,S2,op,ef,cl,sq,reduceIte,j2,j3,j4,j5,j6,j7,j8,j9,y1,S1,hd,lc]
 obtain ⟨d1,hd1,hs1,e1,hf1⟩:=SCO.swp (n:=n) (P:=fun x=>x=swp d a pv) (x:=.cells (msC eS (d.toList.set a d[pv]!))) hd (by rw [Go.Sort.swp_size];exact hn) rfl (Frm.refl (fun x=>x=c) H)
 subst e1
 generalize ((H.set c (.cells (msC eS (d.toList.set a d[pv]!)))).set c (.cells (msC eS (swp d a pv).toList)))=H1 at *
 refine W.loopE 0 (fun (q:Nat × Nat) R H'=>At H' (fun H'=>SCO c n H (fun di=>partEqLoop strLt a q.1 q.2 di=partitionEqual strLt d a b pv) H')∧R 0=.msl c 0 n 1∧R 1=.int .i64 a∧R 0=.msl c 0 n 1∧R 9=.int .i64 q.1∧R 10=.int .i64 q.2∧a<q.1∧q.2<n∧q.1≤n) (fun q=>q.2+1-q.1) (a+1,b-1)
  (fun R H'=>At H' (fun H'=>SCO c n H (fun di=>di=(partitionEqual strLt d a b pv).2) H')∧R 9=.int .i64 (partitionEqual strLt d a b pv).1) ⟨.i ⟨_,hd1,hs1,rfl,hf1⟩,rfl,rfl,rfl,rfl,rfl,by omega,by simp only;omega,by simp only;omega⟩ ?_ ?_
 ·rintro ⟨i,j⟩ R H1 ⟨⟨di,hd,hsz,hP,hfr⟩,h0,h1,h4,h11,h12,hai,hjn,hin⟩
  simp only at hP h11 h12 hai hjn hin ⊢
  simp -implicitDefEqProofs only [op,ef,cl,sq,reduceIte,j2,j3,j4,j5,j6,j7,j8,j9,y1,S1,h0,h1,h4,h11,h12]
  obtain ⟨si,hsi⟩:∃ si,si=scanUp (fun x=>!strLt di[a]! x) di j i:=⟨_,rfl⟩
  refine W.loopE 2 (fun (k:Nat) R H'=>At H' (fun H'=>H'[c]?=some (.cells (msC eS di.toList))∧Frm (fun x=>x=c) H H')∧R 0=.msl c 0 n 1∧R 1=.int .i64 a∧R 0=.msl c 0 n 1∧R 9=.int .i64 k∧R 10=.int .i64 j∧i≤k∧k≤n∧scanUp (fun x=>!strLt di[a]! x) di j k=si) (fun k=>j+1-k) i
   (fun R H'=>At H' (fun H'=>H'[c]?=some (.cells (msC eS di.toList))∧Frm (fun x=>x=c) H H')∧R 0=.msl c 0 n 1∧R 1=.int .i64 a∧R 0=.msl c 0 n 1∧R 9=.int .i64 si∧R 10=.int .i64 j∧i≤si∧si≤n) ⟨.i ⟨hd,hfr⟩,h0,h1,h4,h11,h12,Nat.le_refl _,hin,hsi.symm⟩ ?_ ?_
  ·rintro k R H2 ⟨⟨hd,hfr⟩,h0,h1,h4,h11,h12,hik,hkn,hk⟩
   have lc:=glt hd
   by_cases hkj:k≤j
   ·simp -implicitDefEqProofs (maxSteps:=1000000) (disch:=omega) only [natOf_nat,iadmO,ldm1O,ldm2O,stm0O,stm1O,stm2O,wA,wA1,wS,wS1,wM,S2,op,ef,cl,sq,reduceIte,j2,j3,j4,j5,j6,j7,j8,j9,y1,S1,h0,h1,h4,h11,h12,hkj,hd,lc]
    refine callB_of _ _ _ _ _ _ _ _ (less91 di[a]! di[k]! _) ?_
    rintro u H3 ⟨hu,hx0⟩
    cases hu
    have hx:Ext H2 H3:=by rw [hx0];exact Ext.rfl'
    have hd:=hx.get hd
    have lc:=glt hd
    have hfr:=hfr.trans (ext_frm (F:=fun _=>False) hx) (fun _ h=>h.elim)
    have lt1:strLt di[a]! di[k]! = decide (strLt di[a]! di[k]! = true):=by simp
    by_cases c1:strLt di[a]! di[k]! = true
    ·simp -implicitDefEqProofs (maxSteps:=1000000) (disch:=omega) only [natOf_nat,iadmO,ldm1O,ldm2O,stm0O,stm1O,stm2O,wA,wA1,wS,wS1,wM,S2,op,ef,cl,sq,reduceIte,j2,j3,j4,j5,j6,j7,j8,j9,y1,S1,h0,h1,h4,h11,h12,hkj,c1]
     rw [scanUp,if_neg (and_f2 (by rw [lt1,dect c1];rfl))] at hk
     subst hk
     exact ⟨.i ⟨hd,hfr⟩,rfl,hik,hkn⟩
    ·simp -implicitDefEqProofs (maxSteps:=1000000) (disch:=omega) only [natOf_nat,iadmO,ldm1O,ldm2O,stm0O,stm1O,stm2O,wA,wA1,wS,wS1,wM,S2,op,ef,cl,sq,reduceIte,j2,j3,j4,j5,j6,j7,j8,j9,y1,S1,h0,h1,h4,h11,h12,hkj,c1]
     rw [scanUp,if_pos (and_t (dect hkj) (not_f (lt1.trans (decf c1))))] at hk
     exact ⟨k+1,by omega,.i ⟨hd,hfr⟩,rfl,by omega,by omega,hk⟩
   ·simp -implicitDefEqProofs (maxSteps:=1000000) (disch:=omega) only [op,ef,cl,sq,reduceIte,j2,j3,j4,j5,j6,j7,j8,j9,y1,S1,h0,h1,h4,h11,h12,hkj]
    try simp -implicitDefEqProofs only [op,ef,cl,sq,reduceIte,j2,j3,j4,j5,j6,j7,j8,j9,y1,S1,h0,h1,h4,h11,h12,hkj]
    rw [scanUp,if_neg (and_f1 (decf hkj))] at hk
    subst hk
    exact ⟨.i ⟨hd,hfr⟩,rfl,hik,hkn⟩
  ·rintro R H2 ⟨⟨hd,hfr⟩,h0,h1,h4,h11,h12,hisi,hsin⟩
   simp -implicitDefEqProofs only [op,ef,cl,sq,reduceIte,j2,j3,j4,j5,j6,j7,j8,j9,y1,S1,h0,h1,h4,h11,h12]
   obtain ⟨sj,hsj⟩:∃ sj,sj=scanDown (fun x=>strLt di[a]! x) di si j:=⟨_,rfl⟩
   refine W.loopE 4 (fun (k:Nat) R H'=>At H' (fun H'=>H'[c]?=some (.cells (msC eS di.toList))∧Frm (fun x=>x=c) H H')∧R 0=.msl c 0 n 1∧R 1=.int .i64 a∧R 0=.msl c 0 n 1∧R 9=.int .i64 si∧R 10=.int .i64 k∧k≤j∧scanDown (fun x=>strLt di[a]! x) di si k=sj) (fun k=>k) j
    (fun R H'=>At H' (fun H'=>H'[c]?=some (.cells (msC eS di.toList))∧Frm (fun x=>x=c) H H')∧R 0=.msl c 0 n 1∧R 1=.int .i64 a∧R 0=.msl c 0 n 1∧R 9=.int .i64 si∧R 10=.int .i64 sj∧sj≤j) ⟨.i ⟨hd,hfr⟩,h0,h1,h4,h11,h12,Nat.le_refl _,hsj.symm⟩ ?_ ?_
   ·rintro k R H3 ⟨⟨hd,hfr⟩,h0,h1,h4,h11,h12,hkj,hk⟩
    have lc:=glt hd
    rw [scanDown_eqO (by omega)] at hk
    by_cases hkk:si≤k
    ·simp -implicitDefEqProofs (maxSteps:=1000000) (disch:=omega) only [natOf_nat,iadmO,ldm1O,ldm2O,stm0O,stm1O,stm2O,wA,wA1,wS,wS1,wM,S2,op,ef,cl,sq,reduceIte,j2,j3,j4,j5,j6,j7,j8,j9,y1,S1,h0,h1,h4,h11,h12,hkk,hd,lc]
     refine callB_of _ _ _ _ _ _ _ _ (less91 di[a]! di[k]! _) ?_
     rintro u H4 ⟨hu,hx0⟩
     cases hu
     have hx:Ext H3 H4:=by rw [hx0];exact Ext.rfl'
     have hd:=hx.get hd
     have lc:=glt hd
     have hfr:=hfr.trans (ext_frm (F:=fun _=>False) hx) (fun _ h=>h.elim)
     have lt1:strLt di[a]! di[k]! = decide (strLt di[a]! di[k]! = true):=by simp
     by_cases c1:strLt di[a]! di[k]! = true
     ·simp -implicitDefEqProofs (maxSteps:=1000000) (disch:=omega) only [natOf_nat,iadmO,ldm1O,ldm2O,stm0O,stm1O,stm2O,wA,wA1,wS,wS1,wM,S2,op,ef,cl,sq,reduceIte,j2,j3,j4,j5,j6,j7,j8,j9,y1,S1,h0,h1,h4,h11,h12,hkk,c1]
      rw [if_pos (and_t (dect hkk) (lt1.trans (dect c1)))] at hk
      exact ⟨k-1,by omega,.i ⟨hd,hfr⟩,rfl,by omega,hk⟩
     ·simp -implicitDefEqProofs (maxSteps:=1000000) (disch:=omega) only [natOf_nat,iadmO,ldm1O,ldm2O,stm0O,stm1O,stm2O,wA,wA1,wS,wS1,wM,S2,op,ef,cl,sq,reduceIte,j2,j3,j4,j5,j6,j7,j8,j9,y1,S1,h0,h1,h4,h11,h12,hkk,c1]
      rw [if_neg (and_f2 (lt1.trans (decf c1)))] at hk
      subst hk
      exact ⟨.i ⟨hd,hfr⟩,rfl,hkj⟩
    ·simp -implicitDefEqProofs only [op,ef,cl,sq,reduceIte,j2,j3,j4,j5,j6,j7,j8,j9,y1,S1,h0,h1,h4,h11,h12,hkk]
     rw [if_neg (and_f1 (decf hkk))] at hk
     subst hk
     exact ⟨.i ⟨hd,hfr⟩,rfl,hkj⟩
   ·rintro R H3 ⟨⟨hd,hfr⟩,h0,h1,h4,h11,h12,hsjj⟩
    have lc:=glt hd
    rw [peq_eqO hsi hsj] at hP
    by_cases hgt:sj<si
    ·rw [if_pos hgt] at hP
     simp -implicitDefEqProofs only [op,ef,cl,sq,reduceIte,j2,j3,j4,j5,j6,j7,j8,j9,y1,S1,h0,h1,h4,h11,h12,hgt]
     exact ⟨.i ⟨di,hd,hsz,by rw [← hP],hfr⟩,by rw [← hP]⟩
    ·rw [if_neg hgt,if_pos (by omega)] at hP
     simp -implicitDefEqProofs (maxSteps:=1000000) (disch:=omega) only [natOf_nat,iadmO,ldm1O,ldm2O,stm0O,stm1O,stm2O,wA,wA1,wS,wS1,wM,S2,op,ef,cl,sq,reduceIte,j2,j3,j4,j5,j6,j7,j8,j9,y1,S1,h0,h1,h4,h11,h12,hgt,hd,lc]
     exact ⟨(si+1,sj-1),by simp only;omega,.i (.swp hd (by rw [swp_size];exact hsz) hP hfr),rfl,rfl,by simp only;omega,by simp only;omega,by simp only;omega⟩
 ·rintro R H1 ⟨⟨di,hd,hsz,hP,hfr⟩,h11⟩
  simp -implicitDefEqProofs only [op,ef,cl,sq,reduceIte,j2,j3,j4,j5,j6,j7,j8,j9,y1,S1,h11]
  exact ⟨di,hd,hsz,hP,hfr⟩
open Go.Sort in
theorem part_eqO {a i j si sj:Nat} {d:Array ByteArray} (hi:si=scanUp (fun x=>strLt x d[a]!) d j i) (hj:sj=scanDown (fun x=>!strLt x d[a]!) d si j):partLoop strLt a i j d=if si > sj then (sj,d) else if (sj-1)+1-(si+1)<j+1-i then partLoop strLt a (si+1) (sj-1) (swp d si sj) else (sj,d):=by
 subst hi;subst hj
 rw [partLoop]
 rfl
open Go.Sort in
theorem part93 (c n:Nat) (d:Array ByteArray) (a b pv:Nat) (H:Heap) (hn:d.size=n) (hc:H[c]?=some (.cells (msC eS d.toList))) (hb:b≤n) (hab:a<b) (hpv:pv<n) (hs:n<2305843009213693951) :
  W env (.call 125 [.msl c 0 n 1,.int .i64 a,.int .i64 b,.int .i64 pv]) H (fun o H'=>o=.val (.tup [.int .i64 (partition strLt d a b pv).1,.bool (partition strLt d a b pv).2.1])∧SCO c n H (fun x=>x=(partition strLt d a b pv).2.2) H'):=by
 refine W.fnI rfl rfl rfl ?_
 have hd:=hc
 have lc:=glt hd
 simp -implicitDefEqProofs (maxSteps:=1000000) (disch:=omega) only [ir125,natOf_nat,iadmO,ldm1O,ldm2O,stm0O,stm1O,stm2O,wA,wA1,wS,wS1,wM,S2,op,ef,cl,sq,reduceIte,j2,j3,j4,j5,j6,j7,j8,j9,y1,S1,hd,lc]
 obtain ⟨d1,hd1,hs1,e1,hf1⟩:=SCO.swp (n:=n) (P:=fun x=>x=swp d a pv) (x:=.cells (msC eS (d.toList.set a d[pv]!))) hd (by rw [Go.Sort.swp_size];exact hn) rfl (Frm.refl (fun x=>x=c) H)
 subst e1
 generalize ((H.set c (.cells (msC eS (d.toList.set a d[pv]!)))).set c (.cells (msC eS (swp d a pv).toList)))=H1 at *
 have hd:=hd1
 have hfr:=hf1
 obtain ⟨si,hsi⟩:∃ si,si=scanUp (fun x=>strLt x (swp d a pv)[a]!) (swp d a pv) (b-1) (a+1):=⟨_,rfl⟩
 refine W.loopE 0 (fun (k:Nat) R H'=>At H' (fun H'=>H'[c]?=some (.cells (msC eS (swp d a pv).toList))∧Frm (fun x=>x=c) H H')∧R 0=.msl c 0 n 1∧R 1=.int .i64 a∧R 0=.msl c 0 n 1∧R 10=.int .i64 k∧R 11=.int .i64 ((b-1):Nat)∧(a+1)≤k∧k≤n∧scanUp (fun x=>strLt x (swp d a pv)[a]!) (swp d a pv) ((b-1)) k=si) (fun k=>(b-1)+1-k) ((a+1))
  (fun R H'=>At H' (fun H'=>H'[c]?=some (.cells (msC eS (swp d a pv).toList))∧Frm (fun x=>x=c) H H')∧R 0=.msl c 0 n 1∧R 1=.int .i64 a∧R 0=.msl c 0 n 1∧R 10=.int .i64 si∧R 11=.int .i64 ((b-1):Nat)∧(a+1)≤si∧si≤n) ⟨.i ⟨hd,hfr⟩,rfl,rfl,rfl,rfl,rfl,Nat.le_refl _,by omega,hsi.symm⟩ ?_ ?_
 ·rintro k R H2 ⟨⟨hd,hfr⟩,h0,h1,h4,h12,h13,hik,hkn,hk⟩
  have lc:=glt hd
  by_cases hkj:k≤(b-1)
  ·simp -implicitDefEqProofs (maxSteps:=1000000) (disch:=omega) only [natOf_nat,iadmO,ldm1O,ldm2O,stm0O,stm1O,stm2O,wA,wA1,wS,wS1,wM,S2,op,ef,cl,sq,reduceIte,j2,j3,j4,j5,j6,j7,j8,j9,y1,S1,h0,h1,h4,h12,h13,hkj,hd,lc]
   refine callB_of _ _ _ _ _ _ _ _ (less91 (swp d a pv)[k]! (swp d a pv)[a]! _) ?_
   rintro u H3 ⟨hu,hx0⟩
   cases hu
   have hx:Ext H2 H3:=by rw [hx0];exact Ext.rfl'
   have hd:=hx.get hd
   have lc:=glt hd
   have hfr:=hfr.trans (ext_frm (F:=fun _=>False) hx) (fun _ h=>h.elim)
   have lt1:strLt (swp d a pv)[k]! (swp d a pv)[a]! = decide (strLt (swp d a pv)[k]! (swp d a pv)[a]! = true):=by simp
   by_cases c1:strLt (swp d a pv)[k]! (swp d a pv)[a]! = true
   ·simp -implicitDefEqProofs (maxSteps:=1000000) (disch:=omega) only [natOf_nat,iadmO,ldm1O,ldm2O,stm0O,stm1O,stm2O,wA,wA1,wS,wS1,wM,S2,op,ef,cl,sq,reduceIte,j2,j3,j4,j5,j6,j7,j8,j9,y1,S1,h0,h1,h4,h12,h13,hkj,c1]
    rw [scanUp,if_pos (and_t (dect hkj) (lt1.trans (dect c1)))] at hk
    exact ⟨k+1,by omega,.i ⟨hd,hfr⟩,rfl,by omega,by omega,hk⟩
   ·simp -implicitDefEqProofs (maxSteps:=1000000) (disch:=omega) only [natOf_nat,iadmO,ldm1O,ldm2O,stm0O,stm1O,stm2O,wA,wA1,wS,wS1,wM,S2,op,ef,cl,sq,reduceIte,j2,j3,j4,j5,j6,j7,j8,j9,y1,S1,h0,h1,h4,h12,h13,hkj,c1]
    rw [scanUp,if_neg (and_f2 (lt1.trans (decf c1)))] at hk
    subst hk
    exact ⟨.i ⟨hd,hfr⟩,rfl,hik,hkn⟩
  ·simp -implicitDefEqProofs only [op,ef,cl,sq,reduceIte,j2,j3,j4,j5,j6,j7,j8,j9,y1,S1,h0,h1,h4,h12,h13,hkj]
   rw [scanUp,if_neg (and_f1 (decf hkj))] at hk
   subst hk
   exact ⟨.i ⟨hd,hfr⟩,rfl,hik,hkn⟩
 ·rintro R H2 ⟨⟨hd,hfr⟩,h0,h1,h4,h12,h13,hisi,hsin⟩
  simp -implicitDefEqProofs only [op,ef,cl,sq,reduceIte,j2,j3,j4,j5,j6,j7,j8,j9,y1,S1,h0,h1,h4,h12,h13]
  obtain ⟨sj,hsj⟩:∃ sj,sj=scanDown (fun x=>!strLt x (swp d a pv)[a]!) (swp d a pv) si (b-1):=⟨_,rfl⟩
  refine W.loopE 2 (fun (k:Nat) R H'=>At H' (fun H'=>H'[c]?=some (.cells (msC eS (swp d a pv).toList))∧Frm (fun x=>x=c) H H')∧R 0=.msl c 0 n 1∧R 1=.int .i64 a∧R 0=.msl c 0 n 1∧R 10=.int .i64 si∧R 11=.int .i64 k∧k≤(b-1)∧scanDown (fun x=>!strLt x (swp d a pv)[a]!) (swp d a pv) si k=sj) (fun k=>k) ((b-1))
   (fun R H'=>At H' (fun H'=>H'[c]?=some (.cells (msC eS (swp d a pv).toList))∧Frm (fun x=>x=c) H H')∧R 0=.msl c 0 n 1∧R 1=.int .i64 a∧R 0=.msl c 0 n 1∧R 10=.int .i64 si∧R 11=.int .i64 sj∧sj≤(b-1)) ⟨.i ⟨hd,hfr⟩,h0,h1,h4,h12,h13,Nat.le_refl _,hsj.symm⟩ ?_ ?_
  ·rintro k R H3 ⟨⟨hd,hfr⟩,h0,h1,h4,h12,h13,hkj,hk⟩
   have lc:=glt hd
   rw [scanDown_eqO (by omega)] at hk
   by_cases hkk:si≤k
   ·simp -implicitDefEqProofs (maxSteps:=1000000) (disch:=omega) only [natOf_nat,iadmO,ldm1O,ldm2O,stm0O,stm1O,stm2O,wA,wA1,wS,wS1,wM,S2,op,ef,cl,sq,reduceIte,j2,j3,j4,j5,j6,j7,j8,j9,y1,S1,h0,h1,h4,h12,h13,hkk,hd,lc]
    refine callB_of _ _ _ _ _ _ _ _ (less91 (swp d a pv)[k]! (swp d a pv)[a]! _) ?_
    rintro u H4 ⟨hu,hx0⟩
    cases hu
    have hx:Ext H3 H4:=by rw [hx0];exact Ext.rfl'
    have hd:=hx.get hd
    have lc:=glt hd
    have hfr:=hfr.trans (ext_frm (F:=fun _=>False) hx) (fun _ h=>h.elim)
    have lt1:strLt (swp d a pv)[k]! (swp d a pv)[a]! = decide (strLt (swp d a pv)[k]! (swp d a pv)[a]! = true):=by simp
    by_cases c1:strLt (swp d a pv)[k]! (swp d a pv)[a]! = true
    ·simp -implicitDefEqProofs (maxSteps:=1000000) (disch:=omega) only [natOf_nat,iadmO,ldm1O,ldm2O,stm0O,stm1O,stm2O,wA,wA1,wS,wS1,wM,S2,op,ef,cl,sq,reduceIte,j2,j3,j4,j5,j6,j7,j8,j9,y1,S1,h0,h1,h4,h12,h13,hkk,c1]
     rw [if_neg (and_f2 (by rw [lt1,dect c1];rfl))] at hk
     subst hk
     exact ⟨.i ⟨hd,hfr⟩,rfl,hkj⟩
    ·simp -implicitDefEqProofs (maxSteps:=1000000) (disch:=omega) only [natOf_nat,iadmO,ldm1O,ldm2O,stm0O,stm1O,stm2O,wA,wA1,wS,wS1,wM,S2,op,ef,cl,sq,reduceIte,j2,j3,j4,j5,j6,j7,j8,j9,y1,S1,h0,h1,h4,h12,h13,hkk,c1]
     rw [if_pos (and_t (dect hkk) (not_f (lt1.trans (decf c1))))] at hk
     exact ⟨k-1,by omega,.i ⟨hd,hfr⟩,rfl,by omega,hk⟩
   ·simp -implicitDefEqProofs only [op,ef,cl,sq,reduceIte,j2,j3,j4,j5,j6,j7,j8,j9,y1,S1,h0,h1,h4,h12,h13,hkk]
    rw [if_neg (and_f1 (decf hkk))] at hk
    subst hk
    exact ⟨.i ⟨hd,hfr⟩,rfl,hkj⟩
  ·rintro R H3 ⟨⟨hd,hfr⟩,h0,h1,h4,h12,h13,hsjj⟩
   have lc:=glt hd
   by_cases hgt:sj<si
   ·have e:partition strLt d a b pv=(sj,true,swp (swp d a pv) sj a):=by
     simp -implicitDefEqProofs only [partition,← hsi,← hsj,gt_iff_lt,if_pos hgt]
    rw [e]
    simp -implicitDefEqProofs (maxSteps:=1000000) (disch:=omega) only [natOf_nat,iadmO,ldm1O,ldm2O,stm0O,stm1O,stm2O,wA,wA1,wS,wS1,wM,S2,op,ef,cl,sq,reduceIte,j2,j3,j4,j5,j6,j7,j8,j9,y1,S1,h0,h1,h4,h12,h13,hgt,hd,lc]
    exact .swp hd (by rw [swp_size];exact hs1) rfl hfr
   ·obtain ⟨r,hr⟩:∃ r,r=partLoop strLt a (si+1) (sj-1) (swp (swp d a pv) si sj):=⟨_,rfl⟩
    have e:partition strLt d a b pv=(r.1,false,swp r.2 r.1 a):=by
     simp -implicitDefEqProofs only [partition,← hsi,← hsj,gt_iff_lt,if_neg hgt,← hr]
    rw [e]
    simp -implicitDefEqProofs (maxSteps:=1000000) (disch:=omega) only [natOf_nat,iadmO,ldm1O,ldm2O,stm0O,stm1O,stm2O,wA,wA1,wS,wS1,wM,S2,op,ef,cl,sq,reduceIte,j2,j3,j4,j5,j6,j7,j8,j9,y1,S1,h0,h1,h4,h12,h13,hgt,hd,lc]
    obtain ⟨d2,hd2,hs2,e2,hf2⟩:=SCO.swp (n:=n) (P:=fun x=>x=swp (swp d a pv) si sj) (x:=.cells (msC eS ((swp d a pv).toList.set si (swp d a pv)[sj]!))) hd (by rw [swp_size];exact hs1) rfl hfr
    subst e2
    generalize ((H3.set c (.cells (msC eS ((swp d a pv).toList.set si (swp d a pv)[sj]!)))).set c (.cells (msC eS (swp (swp d a pv) si sj).toList)))=H5 at *
    refine W.loopE 4 (fun (q:Nat × Nat) R H'=>At H' (fun H'=>SCO c n H (fun di=>partLoop strLt a q.1 q.2 di=r) H')∧R 0=.msl c 0 n 1∧R 1=.int .i64 a∧R 0=.msl c 0 n 1∧R 10=.int .i64 q.1∧R 11=.int .i64 q.2∧a<q.1∧q.2<n∧q.1≤n) (fun q=>q.2+1-q.1) (si+1,sj-1)
     (fun R H'=>At H' (fun H'=>SCO c n H (fun di=>di=r.2) H')∧R 0=.msl c 0 n 1∧R 1=.int .i64 a∧R 0=.msl c 0 n 1∧R 11=.int .i64 r.1∧r.1<n) ⟨.i ⟨_,hd2,hs2,hr.symm,hf2⟩,?_,?_,?_,?_,?_,by simp only;omega,by simp only;omega,by simp only;omega⟩ ?_ ?_
    ·simp -implicitDefEqProofs only [op,ef,cl,sq,reduceIte,j2,j3,j4,j5,j6,j7,j8,j9,y1,S1,h0]
    ·simp -implicitDefEqProofs only [op,ef,cl,sq,reduceIte,j2,j3,j4,j5,j6,j7,j8,j9,y1,S1,h1]
    ·simp -implicitDefEqProofs only [op,ef,cl,sq,reduceIte,j2,j3,j4,j5,j6,j7,j8,j9,y1,S1,h4]
    ·simp -implicitDefEqProofs only [op,ef,cl,sq,reduceIte,j2,j3,j4,j5,j6,j7,j8,j9,y1,S1,h12]
    ·simp -implicitDefEqProofs only [op,ef,cl,sq,reduceIte,j2,j3,j4,j5,j6,j7,j8,j9,y1,S1,h13]
    ·rintro ⟨i,j⟩ R H1 ⟨⟨di,hd,hsz,hP,hfr⟩,h0,h1,h4,h12,h13,hai,hjn,hin⟩
     simp only at hP h12 h13 hai hjn hin ⊢
     simp -implicitDefEqProofs only [op,ef,cl,sq,reduceIte,j2,j3,j4,j5,j6,j7,j8,j9,y1,S1,h0,h1,h4,h12,h13]
     clear hsi hsj
     obtain ⟨si,hsi⟩:∃ si,si=scanUp (fun x=>strLt x di[a]!) di j i:=⟨_,rfl⟩
     refine W.loopE 6 (fun (k:Nat) R H'=>At H' (fun H'=>H'[c]?=some (.cells (msC eS di.toList))∧Frm (fun x=>x=c) H H')∧R 0=.msl c 0 n 1∧R 1=.int .i64 a∧R 0=.msl c 0 n 1∧R 10=.int .i64 k∧R 11=.int .i64 (j:Nat)∧i≤k∧k≤n∧scanUp (fun x=>strLt x di[a]!) di (j) k=si) (fun k=>j+1-k) (i)
      (fun R H'=>At H' (fun H'=>H'[c]?=some (.cells (msC eS di.toList))∧Frm (fun x=>x=c) H H')∧R 0=.msl c 0 n 1∧R 1=.int .i64 a∧R 0=.msl c 0 n 1∧R 10=.int .i64 si∧R 11=.int .i64 (j:Nat)∧i≤si∧si≤n) ⟨.i ⟨hd,hfr⟩,h0,h1,h4,h12,h13,Nat.le_refl _,by omega,hsi.symm⟩ ?_ ?_
     ·rintro k R H2 ⟨⟨hd,hfr⟩,h0,h1,h4,h12,h13,hik,hkn,hk⟩
      have lc:=glt hd
      by_cases hkj:k≤j
      ·simp -implicitDefEqProofs (maxSteps:=1000000) (disch:=omega) only [natOf_nat,iadmO,ldm1O,ldm2O,stm0O,stm1O,stm2O,wA,wA1,wS,wS1,wM,S2,op,ef,cl,sq,reduceIte,j2,j3,j4,j5,j6,j7,j8,j9,y1,S1,h0,h1,h4,h12,h13,hkj,hd,lc]
       refine callB_of _ _ _ _ _ _ _ _ (less91 di[k]! di[a]! _) ?_
       rintro u H3 ⟨hu,hx0⟩
       cases hu
       have hx:Ext H2 H3:=by rw [hx0];exact Ext.rfl'
       have hd:=hx.get hd
       have lc:=glt hd
       have hfr:=hfr.trans (ext_frm (F:=fun _=>False) hx) (fun _ h=>h.elim)
       have lt1:strLt di[k]! di[a]! = decide (strLt di[k]! di[a]! = true):=by simp
       by_cases c1:strLt di[k]! di[a]! = true
       ·simp -implicitDefEqProofs (maxSteps:=1000000) (disch:=omega) only [natOf_nat,iadmO,ldm1O,ldm2O,stm0O,stm1O,stm2O,wA,wA1,wS,wS1,wM,S2,op,ef,cl,sq,reduceIte,j2,j3,j4,j5,j6,j7,j8,j9,y1,S1,h0,h1,h4,h12,h13,hkj,c1]
        rw [scanUp,if_pos (and_t (dect hkj) (lt1.trans (dect c1)))] at hk
        exact ⟨k+1,by omega,.i ⟨hd,hfr⟩,rfl,by omega,by omega,hk⟩
       ·simp -implicitDefEqProofs (maxSteps:=1000000) (disch:=omega) only [natOf_nat,iadmO,ldm1O,ldm2O,stm0O,stm1O,stm2O,wA,wA1,wS,wS1,wM,S2,op,ef,cl,sq,reduceIte,j2,j3,j4,j5,j6,j7,j8,j9,y1,S1,h0,h1,h4,h12,h13,hkj,c1]
        rw [scanUp,if_neg (and_f2 (lt1.trans (decf c1)))] at hk
        subst hk
        exact ⟨.i ⟨hd,hfr⟩,rfl,hik,hkn⟩
      ·simp -implicitDefEqProofs only [op,ef,cl,sq,reduceIte,j2,j3,j4,j5,j6,j7,j8,j9,y1,S1,h0,h1,h4,h12,h13,hkj]
       rw [scanUp,if_neg (and_f1 (decf hkj))] at hk
       subst hk
       exact ⟨.i ⟨hd,hfr⟩,rfl,hik,hkn⟩
     ·rintro R H2 ⟨⟨hd,hfr⟩,h0,h1,h4,h12,h13,hisi,hsin⟩
      simp -implicitDefEqProofs only [op,ef,cl,sq,reduceIte,j2,j3,j4,j5,j6,j7,j8,j9,y1,S1,h0,h1,h4,h12,h13]
      obtain ⟨sj,hsj⟩:∃ sj,sj=scanDown (fun x=>!strLt x di[a]!) di si j:=⟨_,rfl⟩
      refine W.loopE 8 (fun (k:Nat) R H'=>At H' (fun H'=>H'[c]?=some (.cells (msC eS di.toList))∧Frm (fun x=>x=c) H H')∧R 0=.msl c 0 n 1∧R 1=.int .i64 a∧R 0=.msl c 0 n 1∧R 10=.int .i64 si∧R 11=.int .i64 k∧k≤j∧scanDown (fun x=>!strLt x di[a]!) di si k=sj) (fun k=>k) (j)
       (fun R H'=>At H' (fun H'=>H'[c]?=some (.cells (msC eS di.toList))∧Frm (fun x=>x=c) H H')∧R 0=.msl c 0 n 1∧R 1=.int .i64 a∧R 0=.msl c 0 n 1∧R 10=.int .i64 si∧R 11=.int .i64 sj∧sj≤j) ⟨.i ⟨hd,hfr⟩,h0,h1,h4,h12,h13,Nat.le_refl _,hsj.symm⟩ ?_ ?_
      ·rintro k R H3 ⟨⟨hd,hfr⟩,h0,h1,h4,h12,h13,hkj,hk⟩
       have lc:=glt hd
       rw [scanDown_eqO (by omega)] at hk
       by_cases hkk:si≤k
       ·simp -implicitDefEqProofs (maxSteps:=1000000) (disch:=omega) only [natOf_nat,iadmO,ldm1O,ldm2O,stm0O,stm1O,stm2O,wA,wA1,wS,wS1,wM,S2,op,ef,cl,sq,reduceIte,j2,j3,j4,j5,j6,j7,j8,j9,y1,S1,h0,h1,h4,h12,h13,hkk,hd,lc]
        refine callB_of _ _ _ _ _ _ _ _ (less91 di[k]! di[a]! _) ?_
        rintro u H4 ⟨hu,hx0⟩
        cases hu
        have hx:Ext H3 H4:=by rw [hx0];exact Ext.rfl'
        have hd:=hx.get hd
        have lc:=glt hd
        have hfr:=hfr.trans (ext_frm (F:=fun _=>False) hx) (fun _ h=>h.elim)
        have lt1:strLt di[k]! di[a]! = decide (strLt di[k]! di[a]! = true):=by simp
        by_cases c1:strLt di[k]! di[a]! = true
        ·simp -implicitDefEqProofs (maxSteps:=1000000) (disch:=omega) only [natOf_nat,iadmO,ldm1O,ldm2O,stm0O,stm1O,stm2O,wA,wA1,wS,wS1,wM,S2,op,ef,cl,sq,reduceIte,j2,j3,j4,j5,j6,j7,j8,j9,y1,S1,h0,h1,h4,h12,h13,hkk,c1]
         rw [if_neg (and_f2 (by rw [lt1,dect c1];rfl))] at hk
         subst hk
         exact ⟨.i ⟨hd,hfr⟩,rfl,hkj⟩
        ·simp -implicitDefEqProofs (maxSteps:=1000000) (disch:=omega) only [natOf_nat,iadmO,ldm1O,ldm2O,stm0O,stm1O,stm2O,wA,wA1,wS,wS1,wM,S2,op,ef,cl,sq,reduceIte,j2,j3,j4,j5,j6,j7,j8,j9,y1,S1,h0,h1,h4,h12,h13,hkk,c1]
         rw [if_pos (and_t (dect hkk) (not_f (lt1.trans (decf c1))))] at hk
         exact ⟨k-1,by omega,.i ⟨hd,hfr⟩,rfl,by omega,hk⟩
       ·simp -implicitDefEqProofs only [op,ef,cl,sq,reduceIte,j2,j3,j4,j5,j6,j7,j8,j9,y1,S1,h0,h1,h4,h12,h13,hkk]
        rw [if_neg (and_f1 (decf hkk))] at hk
        subst hk
        exact ⟨.i ⟨hd,hfr⟩,rfl,hkj⟩
      ·rintro R H3 ⟨⟨hd,hfr⟩,h0,h1,h4,h12,h13,hsjj⟩
       have lc:=glt hd
       rw [part_eqO hsi hsj] at hP
       by_cases hgt:sj<si
       ·rw [if_pos hgt] at hP
        simp -implicitDefEqProofs only [op,ef,cl,sq,reduceIte,j2,j3,j4,j5,j6,j7,j8,j9,y1,S1,h0,h1,h4,h12,h13,hgt]
        exact ⟨.i ⟨di,hd,hsz,by rw [← hP],hfr⟩,by rw [← hP],by rw [← hP];simp only;omega⟩
       ·rw [if_neg hgt,if_pos (by omega)] at hP
        simp -implicitDefEqProofs (maxSteps:=1000000) (disch:=omega) only [natOf_nat,iadmO,ldm1O,ldm2O,stm0O,stm1O,stm2O,wA,wA1,wS,wS1,wM,S2,op,ef,cl,sq,reduceIte,j2,j3,j4,j5,j6,j7,j8,j9,y1,S1,h0,h1,h4,h12,h13,hgt,hd,lc]
        exact ⟨(si+1,sj-1),by simp only;omega,.i (.swp hd (by rw [swp_size];exact hsz) hP hfr),rfl,rfl,by simp only;omega,by simp only;omega,by simp only;omega⟩
    ·rintro R H1 ⟨⟨di,hd,hsz,rfl,hfr⟩,h0,h1,h4,h13,hr1⟩
     have lc:=glt hd
     simp -implicitDefEqProofs (maxSteps:=1000000) (disch:=omega) only [natOf_nat,iadmO,ldm1O,ldm2O,stm0O,stm1O,stm2O,wA,wA1,wS,wS1,wM,S2,op,ef,cl,sq,reduceIte,j2,j3,j4,j5,j6,j7,j8,j9,y1,S1,h0,h1,h4,h13,hd,lc]
     exact .swp hd (by rw [swp_size];exact hsz) rfl hfr
open Go.Sort in
theorem shiftDown_eqO {d:Array ByteArray} {k:Nat} (h:1≤k):shiftDown strLt k d=if (!strLt d[k]! d[k-1]!)=true then d else shiftDown strLt (k-1) (swp d k (k-1)):=by
 cases k with
 | zero=>omega
 | succ k=>rw [shiftDown];rfl
open Go.Sort in
theorem pins90 (c n:Nat) (d:Array ByteArray) (a b:Nat) (H:Heap) (hn:d.size=n) (hc:H[c]?=some (.cells (msC eS d.toList))) (hb:b≤n) (hab:a<b) (hs:n<2305843009213693951) :
  W env (.call 123 [.msl c 0 n 1,.int .i64 a,.int .i64 b]) H (fun o H'=>o=.val (.bool (partialInsertionSort strLt d a b).2)∧SCO c n H (fun x=>x=(partialInsertionSort strLt d a b).1) H'):=by
 refine W.fnI rfl rfl rfl ?_
 obtain ⟨r,hr⟩:∃ r,r=partialInsertionSort strLt d a b:=⟨_,rfl⟩
 rw [← hr]
 simp -implicitDefEqProofs (maxSteps:=1000000) (disch:=omega) only [ir123,natOf_nat,iadmO,ldm1O,ldm2O,stm0O,stm1O,stm2O,wA,wA1,wS,wS1,wM,S2,op,ef,cl,sq,reduceIte,j2,j3,j4,j5,j6,j7,j8,j9,y1,S1]
 refine W.loopE 0 (fun (j:Nat) R H'=>At H' (fun H'=>∃ i,R 7=.int .i64 (i:Nat)∧a<i∧i≤b∧SCO c n H (fun di=>partialIns strLt a b (5-j) i di=r) H')∧R 0=.msl c 0 n 1∧R 1=.int .i64 a∧R 2=.int .i64 b∧R 0=.msl c 0 n 1∧R 8=.int .i64 j∧j≤5) (fun j=>5-j) 0
  (fun R H'=>At H' (fun H'=>SCO c n H (fun di=>(di,false)=r) H')) ⟨.i ⟨a+1,rfl,by omega,by omega,d,hc,hn,hr.symm,Frm.refl _ _⟩,rfl,rfl,rfl,rfl,rfl,by omega⟩ ?_ ?_
 ·rintro j R H1 ⟨⟨i,h9,hai,hib,di,hd,hsz,hP,hfr⟩,h0,h1,h2,h3,h10,hj⟩
  by_cases hj5:j<5
  rotate_left
  ·have:j=5:=by omega
   subst this
   simp -implicitDefEqProofs only [op,ef,cl,sq,reduceIte,j2,j3,j4,j5,j6,j7,j8,j9,y1,S1,h0,h1,h2,h3,h10]
   exact .i ⟨di,hd,hsz,hP,hfr⟩
  obtain ⟨s,hs5⟩:∃ s,5-j=s+1:=⟨4-j,by omega⟩
  have hs5':5-(j+1)=s:=by omega
  rw [hs5,partialIns] at hP
  simp -implicitDefEqProofs only [op,ef,cl,sq,reduceIte,j2,j3,j4,j5,j6,j7,j8,j9,y1,S1,h0,h1,h2,h3,h10,hj5]
  obtain ⟨si,hsi⟩:∃ si,si=scanSorted strLt di b i:=⟨_,rfl⟩
  rw [← hsi] at hP
  refine W.loopE 2 (fun (k:Nat) R H'=>At H' (fun H'=>H'[c]?=some (.cells (msC eS di.toList))∧Frm (fun x=>x=c) H H')∧R 0=.msl c 0 n 1∧R 1=.int .i64 a∧R 2=.int .i64 b∧R 0=.msl c 0 n 1∧R 7=.int .i64 k∧R 8=.int .i64 j∧i≤k∧k≤b∧scanSorted strLt di b k=si) (fun k=>b-k) i
   (fun R H'=>At H' (fun H'=>H'[c]?=some (.cells (msC eS di.toList))∧Frm (fun x=>x=c) H H')∧R 0=.msl c 0 n 1∧R 1=.int .i64 a∧R 2=.int .i64 b∧R 0=.msl c 0 n 1∧R 7=.int .i64 si∧R 8=.int .i64 j∧i≤si∧si≤b) ⟨.i ⟨hd,hfr⟩,?_,?_,?_,?_,?_,?_,Nat.le_refl _,hib,hsi.symm⟩ ?_ ?_
  ·simp -implicitDefEqProofs only [op,ef,cl,sq,reduceIte,j2,j3,j4,j5,j6,j7,j8,j9,y1,S1,h0]
  ·simp -implicitDefEqProofs only [op,ef,cl,sq,reduceIte,j2,j3,j4,j5,j6,j7,j8,j9,y1,S1,h1]
  ·simp -implicitDefEqProofs only [op,ef,cl,sq,reduceIte,j2,j3,j4,j5,j6,j7,j8,j9,y1,S1,h2]
  ·simp -implicitDefEqProofs only [op,ef,cl,sq,reduceIte,j2,j3,j4,j5,j6,j7,j8,j9,y1,S1,h3]
  ·simp -implicitDefEqProofs only [op,ef,cl,sq,reduceIte,j2,j3,j4,j5,j6,j7,j8,j9,y1,S1,h9]
  ·simp -implicitDefEqProofs only [op,ef,cl,sq,reduceIte,j2,j3,j4,j5,j6,j7,j8,j9,y1,S1,h10]
  ·rintro k R H2 ⟨⟨hd,hfr⟩,h0,h1,h2,h3,h9,h10,hik,hkb,hk⟩
   have lc:=glt hd
   by_cases hkk:k<b
   ·simp -implicitDefEqProofs (maxSteps:=1000000) (disch:=omega) only [natOf_nat,iadmO,ldm1O,ldm2O,stm0O,stm1O,stm2O,wA,wA1,wS,wS1,wM,S2,op,ef,cl,sq,reduceIte,j2,j3,j4,j5,j6,j7,j8,j9,y1,S1,h0,h1,h2,h3,h9,h10,hkk,hd,lc]
    refine callB_of _ _ _ _ _ _ _ _ (less91 di[k]! di[k-1]! _) ?_
    rintro u H3 ⟨hu,hx0⟩
    cases hu
    have hx:Ext H2 H3:=by rw [hx0];exact Ext.rfl'
    have hd:=hx.get hd
    have lc:=glt hd
    have hfr:=hfr.trans (ext_frm (F:=fun _=>False) hx) (fun _ h=>h.elim)
    have lt1:strLt di[k]! di[k-1]! = decide (strLt di[k]! di[k-1]! = true):=by simp
    by_cases c1:strLt di[k]! di[k-1]! = true
    ·simp -implicitDefEqProofs (maxSteps:=1000000) (disch:=omega) only [natOf_nat,iadmO,ldm1O,ldm2O,stm0O,stm1O,stm2O,wA,wA1,wS,wS1,wM,S2,op,ef,cl,sq,reduceIte,j2,j3,j4,j5,j6,j7,j8,j9,y1,S1,h0,h1,h2,h3,h9,h10,hkk,c1]
     rw [scanSorted,if_neg (and_f2 (by rw [lt1,dect c1];rfl))] at hk
     subst hk
     exact ⟨.i ⟨hd,hfr⟩,rfl,hik,hkb⟩
    ·simp -implicitDefEqProofs (maxSteps:=1000000) (disch:=omega) only [natOf_nat,iadmO,ldm1O,ldm2O,stm0O,stm1O,stm2O,wA,wA1,wS,wS1,wM,S2,op,ef,cl,sq,reduceIte,j2,j3,j4,j5,j6,j7,j8,j9,y1,S1,h0,h1,h2,h3,h9,h10,hkk,c1]
     rw [scanSorted,if_pos (and_t (dect hkk) (not_f (lt1.trans (decf c1))))] at hk
     exact ⟨k+1,by omega,.i ⟨hd,hfr⟩,rfl,by omega,by omega,hk⟩
   ·simp -implicitDefEqProofs only [op,ef,cl,sq,reduceIte,j2,j3,j4,j5,j6,j7,j8,j9,y1,S1,h0,h1,h2,h3,h9,h10,hkk]
    rw [scanSorted,if_neg (and_f1 (decf hkk))] at hk
    subst hk
    exact ⟨.i ⟨hd,hfr⟩,rfl,hik,hkb⟩
  ·rintro R H2 ⟨⟨hd,hfr⟩,h0,h1,h2,h3,h9,h10,hisi,hsib⟩
   have lc:=glt hd
   by_cases hb1:si=b
   ·rw [if_pos hb1] at hP
    have e1:((si:Int)==(b:Int))=true:=by rw [hb1];simp
    simp -implicitDefEqProofs (maxSteps:=1000000) (disch:=omega) only [natOf_nat,iadmO,ldm1O,ldm2O,stm0O,stm1O,stm2O,wA,wA1,wS,wS1,wM,S2,op,ef,cl,sq,reduceIte,j2,j3,j4,j5,j6,j7,j8,j9,y1,S1,h0,h1,h2,h3,h9,h10,e1]
    rw [← hP]
    exact ⟨rfl,di,hd,hsz,rfl,hfr⟩
   rw [if_neg hb1] at hP
   have e1:((si:Int)==(b:Int))=false:=by simp;omega
   by_cases h50:b-a<50
   ·rw [if_pos h50] at hP
    simp -implicitDefEqProofs (maxSteps:=1000000) (disch:=omega) only [natOf_nat,iadmO,ldm1O,ldm2O,stm0O,stm1O,stm2O,wA,wA1,wS,wS1,wM,S2,op,ef,cl,sq,reduceIte,j2,j3,j4,j5,j6,j7,j8,j9,y1,S1,h0,h1,h2,h3,h9,h10,e1,h50]
    rw [← hP]
    exact ⟨rfl,di,hd,hsz,rfl,hfr⟩
   rw [if_neg h50] at hP
   simp -implicitDefEqProofs (maxSteps:=1000000) (disch:=omega) only [natOf_nat,iadmO,ldm1O,ldm2O,stm0O,stm1O,stm2O,wA,wA1,wS,wS1,wM,S2,op,ef,cl,sq,reduceIte,j2,j3,j4,j5,j6,j7,j8,j9,y1,S1,h0,h1,h2,h3,h9,h10,e1,h50,hd,lc]
   obtain ⟨d3,hd3⟩:∃ d3,d3=if si-a≥2 then shiftDown strLt (si-1) (swp di si (si-1)) else swp di si (si-1):=⟨_,rfl⟩
   obtain ⟨d4,hd4⟩:∃ d4,d4=if b-si≥2 then shiftUp strLt b (si+1) d3 else d3:=⟨_,rfl⟩
   have hP:partialIns strLt a b s si d4=r:=by rw [hd4,hd3];exact hP
   obtain ⟨d2,hd2,hs2,e2,hf2⟩:=SCO.swp (n:=n) (P:=fun x=>x=swp di si (si-1)) (x:=.cells (msC eS (di.toList.set si di[si-1]!))) hd (by rw [swp_size];exact hsz) rfl hfr
   subst e2
   generalize ((H2.set c (.cells (msC eS (di.toList.set si di[si-1]!)))).set c (.cells (msC eS (swp di si (si-1)).toList)))=H5 at *
   by_cases hA:2≤si-a
   ·rw [if_pos hA] at hd3
    simp -implicitDefEqProofs (maxSteps:=1000000) (disch:=omega) only [natOf_nat,iadmO,ldm1O,ldm2O,stm0O,stm1O,stm2O,wA,wA1,wS,wS1,wM,S2,op,ef,cl,sq,reduceIte,j2,j3,j4,j5,j6,j7,j8,j9,y1,S1,h0,h1,h2,h3,h9,h10,hA]
    refine W.loopE 4 (fun (k:Nat) R H'=>At H' (fun H'=>SCO c n H (fun dx=>shiftDown strLt k dx=d3) H')∧R 0=.msl c 0 n 1∧R 1=.int .i64 a∧R 2=.int .i64 b∧R 0=.msl c 0 n 1∧R 7=.int .i64 si∧R 8=.int .i64 j∧R 9=.int .i64 k∧k<b) (fun k=>k) (si-1)
     (fun R H'=>At H' (fun H'=>SCO c n H (fun dx=>dx=d3) H')∧R 0=.msl c 0 n 1∧R 1=.int .i64 a∧R 2=.int .i64 b∧R 0=.msl c 0 n 1∧R 7=.int .i64 si∧R 8=.int .i64 j) ⟨.i ⟨_,hd2,hs2,hd3.symm,hf2⟩,?_,?_,?_,?_,?_,?_,?_,by omega⟩ ?_ ?_
    ·simp -implicitDefEqProofs only [op,ef,cl,sq,reduceIte,j2,j3,j4,j5,j6,j7,j8,j9,y1,S1,h0]
    ·simp -implicitDefEqProofs only [op,ef,cl,sq,reduceIte,j2,j3,j4,j5,j6,j7,j8,j9,y1,S1,h1]
    ·simp -implicitDefEqProofs only [op,ef,cl,sq,reduceIte,j2,j3,j4,j5,j6,j7,j8,j9,y1,S1,h2]
    ·simp -implicitDefEqProofs only [op,ef,cl,sq,reduceIte,j2,j3,j4,j5,j6,j7,j8,j9,y1,S1,h3]
    ·simp -implicitDefEqProofs only [op,ef,cl,sq,reduceIte,j2,j3,j4,j5,j6,j7,j8,j9,y1,S1,h9]
    ·simp -implicitDefEqProofs only [op,ef,cl,sq,reduceIte,j2,j3,j4,j5,j6,j7,j8,j9,y1,S1,h10]
    ·simp -implicitDefEqProofs only [op,ef,cl,sq,reduceIte,j2,j3,j4,j5,j6,j7,j8,j9,y1,S1]
    ·rintro k R H2 ⟨⟨dx,hd,hsz,hk,hfr⟩,h0,h1,h2,h3,h9,h10,h11,hkb⟩
     have lc:=glt hd
     by_cases hk1:1≤k
     ·simp -implicitDefEqProofs (maxSteps:=1000000) (disch:=omega) only [natOf_nat,iadmO,ldm1O,ldm2O,stm0O,stm1O,stm2O,wA,wA1,wS,wS1,wM,S2,op,ef,cl,sq,reduceIte,j2,j3,j4,j5,j6,j7,j8,j9,y1,S1,h0,h1,h2,h3,h9,h10,h11,hk1,hd,lc]
      refine callB_of _ _ _ _ _ _ _ _ (less91 dx[k]! dx[k-1]! _) ?_
      rintro u H3 ⟨hu,hx0⟩
      cases hu
      have hx:Ext H2 H3:=by rw [hx0];exact Ext.rfl'
      have hd:=hx.get hd
      have lc:=glt hd
      have hfr:=hfr.trans (ext_frm (F:=fun _=>False) hx) (fun _ h=>h.elim)
      have lt1:strLt dx[k]! dx[k-1]! = decide (strLt dx[k]! dx[k-1]! = true):=by simp
      rw [shiftDown_eqO hk1] at hk
      by_cases c1:strLt dx[k]! dx[k-1]! = true
      ·simp -implicitDefEqProofs (maxSteps:=1000000) (disch:=omega) only [natOf_nat,iadmO,ldm1O,ldm2O,stm0O,stm1O,stm2O,wA,wA1,wS,wS1,wM,S2,op,ef,cl,sq,reduceIte,j2,j3,j4,j5,j6,j7,j8,j9,y1,S1,h0,h1,h2,h3,h9,h10,h11,hk1,hd,lc,c1]
       rw [if_neg (not_t (lt1.trans (dect c1)))] at hk
       exact ⟨k-1,by omega,.i (.swp hd (by rw [swp_size];exact hsz) hk hfr),rfl,by omega⟩
      ·simp -implicitDefEqProofs (maxSteps:=1000000) (disch:=omega) only [natOf_nat,iadmO,ldm1O,ldm2O,stm0O,stm1O,stm2O,wA,wA1,wS,wS1,wM,S2,op,ef,cl,sq,reduceIte,j2,j3,j4,j5,j6,j7,j8,j9,y1,S1,h0,h1,h2,h3,h9,h10,h11,hk1,hd,lc,c1]
       rw [if_pos (not_f (lt1.trans (decf c1)))] at hk
       exact .i ⟨dx,hd,hsz,hk,hfr⟩
     ·have hk0:k=0:=by omega
      subst hk0
      simp -implicitDefEqProofs only [op,ef,cl,sq,reduceIte,j2,j3,j4,j5,j6,j7,j8,j9,y1,S1,h0,h1,h2,h3,h9,h10,h11,hk1]
      rw [shiftDown] at hk
      exact .i ⟨dx,hd,hsz,hk,hfr⟩
    ·rintro R H2 ⟨⟨dx,hd,hsz3,rfl,hfr⟩,h0,h1,h2,h3,h9,h10⟩
     have lc:=glt hd
     by_cases hB:2≤b-si
     ·simp -implicitDefEqProofs (maxSteps:=1000000) (disch:=omega) only [natOf_nat,iadmO,ldm1O,ldm2O,stm0O,stm1O,stm2O,wA,wA1,wS,wS1,wM,S2,op,ef,cl,sq,reduceIte,j2,j3,j4,j5,j6,j7,j8,j9,y1,S1,h0,h1,h2,h3,h9,h10,hB]
      rw [if_pos hB] at hd4
      refine W.loopE 6 (fun (k:Nat) R H'=>At H' (fun H'=>SCO c n H (fun dx=>shiftUp strLt b k dx=d4) H')∧R 0=.msl c 0 n 1∧R 1=.int .i64 a∧R 2=.int .i64 b∧R 0=.msl c 0 n 1∧R 7=.int .i64 si∧R 8=.int .i64 j∧R 10=.int .i64 k∧1≤k∧k≤b) (fun k=>b-k) (si+1)
       (fun R H'=>At H' (fun H'=>SCO c n H (fun dx=>dx=d4) H')∧R 0=.msl c 0 n 1∧R 1=.int .i64 a∧R 2=.int .i64 b∧R 0=.msl c 0 n 1∧R 7=.int .i64 si∧R 8=.int .i64 j) ⟨.i ⟨dx,hd,hsz3,hd4.symm,hfr⟩,?_,?_,?_,?_,?_,?_,?_,by omega,by omega⟩ ?_ ?_
      ·simp -implicitDefEqProofs only [op,ef,cl,sq,reduceIte,j2,j3,j4,j5,j6,j7,j8,j9,y1,S1,h0]
      ·simp -implicitDefEqProofs only [op,ef,cl,sq,reduceIte,j2,j3,j4,j5,j6,j7,j8,j9,y1,S1,h1]
      ·simp -implicitDefEqProofs only [op,ef,cl,sq,reduceIte,j2,j3,j4,j5,j6,j7,j8,j9,y1,S1,h2]
      ·simp -implicitDefEqProofs only [op,ef,cl,sq,reduceIte,j2,j3,j4,j5,j6,j7,j8,j9,y1,S1,h3]
      ·simp -implicitDefEqProofs only [op,ef,cl,sq,reduceIte,j2,j3,j4,j5,j6,j7,j8,j9,y1,S1,h9]
      ·simp -implicitDefEqProofs only [op,ef,cl,sq,reduceIte,j2,j3,j4,j5,j6,j7,j8,j9,y1,S1,h10]
      ·simp -implicitDefEqProofs only [op,ef,cl,sq,reduceIte,j2,j3,j4,j5,j6,j7,j8,j9,y1,S1]
      ·rintro k R H2 ⟨⟨dx,hd,hsz,hk,hfr⟩,h0,h1,h2,h3,h9,h10,h12,hk1,hkb⟩
       have lc:=glt hd
       by_cases hkk:k<b
       ·simp -implicitDefEqProofs (maxSteps:=1000000) (disch:=omega) only [natOf_nat,iadmO,ldm1O,ldm2O,stm0O,stm1O,stm2O,wA,wA1,wS,wS1,wM,S2,op,ef,cl,sq,reduceIte,j2,j3,j4,j5,j6,j7,j8,j9,y1,S1,h0,h1,h2,h3,h9,h10,h12,hkk,hd,lc]
        refine callB_of _ _ _ _ _ _ _ _ (less91 dx[k]! dx[k-1]! _) ?_
        rintro u H3 ⟨hu,hx0⟩
        cases hu
        have hx:Ext H2 H3:=by rw [hx0];exact Ext.rfl'
        have hd:=hx.get hd
        have lc:=glt hd
        have hfr:=hfr.trans (ext_frm (F:=fun _=>False) hx) (fun _ h=>h.elim)
        have lt1:strLt dx[k]! dx[k-1]! = decide (strLt dx[k]! dx[k-1]! = true):=by simp
        rw [shiftUp,if_pos hkk] at hk
        by_cases c1:strLt dx[k]! dx[k-1]! = true
        ·simp -implicitDefEqProofs (maxSteps:=1000000) (disch:=omega) only [natOf_nat,iadmO,ldm1O,ldm2O,stm0O,stm1O,stm2O,wA,wA1,wS,wS1,wM,S2,op,ef,cl,sq,reduceIte,j2,j3,j4,j5,j6,j7,j8,j9,y1,S1,h0,h1,h2,h3,h9,h10,h12,hkk,hd,lc,c1]
         rw [if_neg (not_t (lt1.trans (dect c1)))] at hk
         exact ⟨k+1,by omega,.i (.swp hd (by rw [swp_size];exact hsz) hk hfr),rfl,by omega,by omega⟩
        ·simp -implicitDefEqProofs (maxSteps:=1000000) (disch:=omega) only [natOf_nat,iadmO,ldm1O,ldm2O,stm0O,stm1O,stm2O,wA,wA1,wS,wS1,wM,S2,op,ef,cl,sq,reduceIte,j2,j3,j4,j5,j6,j7,j8,j9,y1,S1,h0,h1,h2,h3,h9,h10,h12,hkk,hd,lc,c1]
         rw [if_pos (not_f (lt1.trans (decf c1)))] at hk
         exact .i ⟨dx,hd,hsz,hk,hfr⟩
       ·simp -implicitDefEqProofs only [op,ef,cl,sq,reduceIte,j2,j3,j4,j5,j6,j7,j8,j9,y1,S1,h0,h1,h2,h3,h9,h10,h12,hkk]
        rw [shiftUp,if_neg hkk] at hk
        exact .i ⟨dx,hd,hsz,hk,hfr⟩
      ·rintro R H2 ⟨⟨dx,hd,hsz,rfl,hfr⟩,h0,h1,h2,h3,h9,h10⟩
       simp -implicitDefEqProofs (maxSteps:=1000000) (disch:=omega) only [natOf_nat,iadmO,ldm1O,ldm2O,stm0O,stm1O,stm2O,wA,wA1,wS,wS1,wM,S2,op,ef,cl,sq,reduceIte,j2,j3,j4,j5,j6,j7,j8,j9,y1,S1,h0,h1,h2,h3,h9,h10]
       exact ⟨j+1,by omega,.i ⟨si,rfl,by omega,by omega,dx,hd,hsz,by rw [hs5'];exact hP,hfr⟩,rfl,by omega⟩
     ·rw [if_neg hB] at hd4
      subst hd4
      simp -implicitDefEqProofs (maxSteps:=1000000) (disch:=omega) only [natOf_nat,iadmO,ldm1O,ldm2O,stm0O,stm1O,stm2O,wA,wA1,wS,wS1,wM,S2,op,ef,cl,sq,reduceIte,j2,j3,j4,j5,j6,j7,j8,j9,y1,S1,h0,h1,h2,h3,h9,h10,hB]
      exact ⟨j+1,by omega,.i ⟨si,rfl,by omega,by omega,d4,hd,hsz3,by rw [hs5'];exact hP,hfr⟩,rfl,by omega⟩
   ·rw [if_neg hA] at hd3
    simp -implicitDefEqProofs (maxSteps:=1000000) (disch:=omega) only [natOf_nat,iadmO,ldm1O,ldm2O,stm0O,stm1O,stm2O,wA,wA1,wS,wS1,wM,S2,op,ef,cl,sq,reduceIte,j2,j3,j4,j5,j6,j7,j8,j9,y1,S1,h0,h1,h2,h3,h9,h10,hA]
    have hd:=hd2
    have hsz3:=hs2
    have hfr:=hf2
    rw [← hd3] at hd hsz3
    by_cases hB:2≤b-si
    ·simp -implicitDefEqProofs (maxSteps:=1000000) (disch:=omega) only [natOf_nat,iadmO,ldm1O,ldm2O,stm0O,stm1O,stm2O,wA,wA1,wS,wS1,wM,S2,op,ef,cl,sq,reduceIte,j2,j3,j4,j5,j6,j7,j8,j9,y1,S1,h0,h1,h2,h3,h9,h10,hB]
     rw [if_pos hB] at hd4
     refine W.loopE 6 (fun (k:Nat) R H'=>At H' (fun H'=>SCO c n H (fun dx=>shiftUp strLt b k dx=d4) H')∧R 0=.msl c 0 n 1∧R 1=.int .i64 a∧R 2=.int .i64 b∧R 0=.msl c 0 n 1∧R 7=.int .i64 si∧R 8=.int .i64 j∧R 10=.int .i64 k∧1≤k∧k≤b) (fun k=>b-k) (si+1)
      (fun R H'=>At H' (fun H'=>SCO c n H (fun dx=>dx=d4) H')∧R 0=.msl c 0 n 1∧R 1=.int .i64 a∧R 2=.int .i64 b∧R 0=.msl c 0 n 1∧R 7=.int .i64 si∧R 8=.int .i64 j) ⟨.i ⟨d3,hd,hsz3,hd4.symm,hfr⟩,?_,?_,?_,?_,?_,?_,?_,by omega,by omega⟩ ?_ ?_
     ·simp -implicitDefEqProofs only [op,ef,cl,sq,reduceIte,j2,j3,j4,j5,j6,j7,j8,j9,y1,S1,h0]
     ·simp -implicitDefEqProofs only [op,ef,cl,sq,reduceIte,j2,j3,j4,j5,j6,j7,j8,j9,y1,S1,h1]
     ·simp -implicitDefEqProofs only [op,ef,cl,sq,reduceIte,j2,j3,j4,j5,j6,j7,j8,j9,y1,S1,h2]
     ·simp -implicitDefEqProofs only [op,ef,cl,sq,reduceIte,j2,j3,j4,j5,j6,j7,j8,j9,y1,S1,h3]
     ·simp -implicitDefEqProofs only [op,ef,cl,sq,reduceIte,j2,j3,j4,j5,j6,j7,j8,j9,y1,S1,h9]
     ·simp -implicitDefEqProofs only [op,ef,cl,sq,reduceIte,j2,j3,j4,j5,j6,j7,j8,j9,y1,S1,h10]
     ·simp -implicitDefEqProofs only [op,ef,cl,sq,reduceIte,j2,j3,j4,j5,j6,j7,j8,j9,y1,S1]
     ·rintro k R H2 ⟨⟨dx,hd,hsz,hk,hfr⟩,h0,h1,h2,h3,h9,h10,h12,hk1,hkb⟩
      have lc:=glt hd
      by_cases hkk:k<b
      ·simp -implicitDefEqProofs (maxSteps:=1000000) (disch:=omega) only [natOf_nat,iadmO,ldm1O,ldm2O,stm0O,stm1O,stm2O,wA,wA1,wS,wS1,wM,S2,op,ef,cl,sq,reduceIte,j2,j3,j4,j5,j6,j7,j8,j9,y1,S1,h0,h1,h2,h3,h9,h10,h12,hkk,hd,lc]
       refine callB_of _ _ _ _ _ _ _ _ (less91 dx[k]! dx[k-1]! _) ?_
       rintro u H3 ⟨hu,hx0⟩
       cases hu
       have hx:Ext H2 H3:=by rw [hx0];exact Ext.rfl'
       have hd:=hx.get hd
       have lc:=glt hd
       have hfr:=hfr.trans (ext_frm (F:=fun _=>False) hx) (fun _ h=>h.elim)
       have lt1:strLt dx[k]! dx[k-1]! = decide (strLt dx[k]! dx[k-1]! = true):=by simp
       rw [shiftUp,if_pos hkk] at hk
       by_cases c1:strLt dx[k]! dx[k-1]! = true
       ·simp -implicitDefEqProofs (maxSteps:=1000000) (disch:=omega) only [natOf_nat,iadmO,ldm1O,ldm2O,stm0O,stm1O,stm2O,wA,wA1,wS,wS1,wM,S2,op,ef,cl,sq,reduceIte,j2,j3,j4,j5,j6,j7,j8,j9,y1,S1,h0,h1,h2,h3,h9,h10,h12,hkk,hd,lc,c1]
        rw [if_neg (not_t (lt1.trans (dect c1)))] at hk
        exact ⟨k+1,by omega,.i (.swp hd (by rw [swp_size];exact hsz) hk hfr),rfl,by omega,by omega⟩
       ·simp -implicitDefEqProofs (maxSteps:=1000000) (disch:=omega) only [natOf_nat,iadmO,ldm1O,ldm2O,stm0O,stm1O,stm2O,wA,wA1,wS,wS1,wM,S2,op,ef,cl,sq,reduceIte,j2,j3,j4,j5,j6,j7,j8,j9,y1,S1,h0,h1,h2,h3,h9,h10,h12,hkk,hd,lc,c1]
        rw [if_pos (not_f (lt1.trans (decf c1)))] at hk
        exact .i ⟨dx,hd,hsz,hk,hfr⟩
      ·simp -implicitDefEqProofs only [op,ef,cl,sq,reduceIte,j2,j3,j4,j5,j6,j7,j8,j9,y1,S1,h0,h1,h2,h3,h9,h10,h12,hkk]
       rw [shiftUp,if_neg hkk] at hk
       exact .i ⟨dx,hd,hsz,hk,hfr⟩
     ·rintro R H2 ⟨⟨dx,hd,hsz,rfl,hfr⟩,h0,h1,h2,h3,h9,h10⟩
      simp -implicitDefEqProofs (maxSteps:=1000000) (disch:=omega) only [natOf_nat,iadmO,ldm1O,ldm2O,stm0O,stm1O,stm2O,wA,wA1,wS,wS1,wM,S2,op,ef,cl,sq,reduceIte,j2,j3,j4,j5,j6,j7,j8,j9,y1,S1,h0,h1,h2,h3,h9,h10]
      exact ⟨j+1,by omega,.i ⟨si,rfl,by omega,by omega,dx,hd,hsz,by rw [hs5'];exact hP,hfr⟩,rfl,by omega⟩
    ·rw [if_neg hB] at hd4
     subst hd4
     simp -implicitDefEqProofs (maxSteps:=1000000) (disch:=omega) only [natOf_nat,iadmO,ldm1O,ldm2O,stm0O,stm1O,stm2O,wA,wA1,wS,wS1,wM,S2,op,ef,cl,sq,reduceIte,j2,j3,j4,j5,j6,j7,j8,j9,y1,S1,h0,h1,h2,h3,h9,h10,hB]
     exact ⟨j+1,by omega,.i ⟨si,rfl,by omega,by omega,d4,hd,hsz3,by rw [hs5'];exact hP,hfr⟩,rfl,by omega⟩
 ·rintro R H1 ⟨di,hd,hsz,hP,hfr⟩
  try simp -implicitDefEqProofs only [op,ef,cl,sq,reduceIte,j2,j3,j4,j5,j6,j7,j8,j9,y1,S1]
  rw [← hP]
  exact ⟨rfl,di,hd,hsz,rfl,hfr⟩
structure PRO (R:Regs) (c n a b lim:Nat) (wb wp:Bool):Prop where
 r0:R 0=.msl c 0 n 1
 r1:R 1=.int .i64 a
 r2:R 2=.int .i64 b
 r3:R 3=.int .i64 lim
 r4:R 0=.msl c 0 n 1
 r10:R 8=.bool wb
 r11:R 9=.bool wp
 r12:R 10=.int .i64 (b-a:Nat)
open Go.Sort in
theorem seg3O (A:C) (hA:(bkOf ir102.body 1).map (seqN · 3)=some A) (c n a b lim:Nat) (wb wp:Bool) (d:Array ByteArray) (R:Regs) (H0 H:Heap) (K:Out→Heap→Prop) (hp:PRO R c n a b lim wb wp) (hd:SCO c n H0 (fun x=>x=d) H) (hb:b≤n) (hab:a+12<b) (hs:n<16777216) (hl:1≤lim∧lim<1000)
  (rest:∀ R' H',PRO R' c n a b (if (!wb)=true then lim-1 else lim) wb wp→SCO c n H0 (fun x=>x=if (!wb)=true then breakPatterns d a b else d) H'→K (.ex .normal R') H'):wpC env A R H K:=by
 simp [ir102,bkOf,seqN,sq] at hA
 subst hA
 obtain ⟨h0,h1,h2,h3,h4,h10,h11,h12⟩:=hp
 obtain ⟨di,hc,hn,rfl,hfr⟩:=hd
 cases wb with
 | true =>
  simp -implicitDefEqProofs (maxSteps:=1000000) (disch:=omega) only [op,ef,cl,sq,reduceIte,j2,j3,j4,j5,j6,j7,j8,j9,y1,S1,h0,h1,h2,h3,h4,h10,h11,h12]
  exact rest _ _ ⟨by simp -implicitDefEqProofs only [op,ef,cl,sq,reduceIte,j2,j3,j4,j5,j6,j7,j8,j9,y1,S1,h0],by simp -implicitDefEqProofs only [op,ef,cl,sq,reduceIte,j2,j3,j4,j5,j6,j7,j8,j9,y1,S1,h1],by simp -implicitDefEqProofs only [op,ef,cl,sq,reduceIte,j2,j3,j4,j5,j6,j7,j8,j9,y1,S1,h2],by simp -implicitDefEqProofs only [op,ef,cl,sq,reduceIte,j2,j3,j4,j5,j6,j7,j8,j9,y1,S1,h3],by simp -implicitDefEqProofs only [op,ef,cl,sq,reduceIte,j2,j3,j4,j5,j6,j7,j8,j9,y1,S1,h4],by simp -implicitDefEqProofs only [op,ef,cl,sq,reduceIte,j2,j3,j4,j5,j6,j7,j8,j9,y1,S1,h10],by simp -implicitDefEqProofs only [op,ef,cl,sq,reduceIte,j2,j3,j4,j5,j6,j7,j8,j9,y1,S1,h11],by simp -implicitDefEqProofs only [op,ef,cl,sq,reduceIte,j2,j3,j4,j5,j6,j7,j8,j9,y1,S1,h12]⟩ ⟨di,hc,hn,rfl,hfr⟩
 | false =>
  simp -implicitDefEqProofs (maxSteps:=1000000) (disch:=omega) only [op,ef,cl,sq,reduceIte,j2,j3,j4,j5,j6,j7,j8,j9,y1,S1,h0,h1,h2,h3,h4,h10,h11,h12]
  refine callB_of _ _ _ _ _ _ _ _ (break87 c n di a b _ hn hc hb hab hs) ?_
  rintro u H2 ⟨hu,d2,hd2,hs2,e2,hf2⟩
  cases hu
  simp -implicitDefEqProofs (maxSteps:=1000000) (disch:=omega) only [natOf_nat,iadmO,ldm1O,ldm2O,stm0O,stm1O,stm2O,wA,wA1,wS,wS1,wM,S2,op,ef,cl,sq,reduceIte,j2,j3,j4,j5,j6,j7,j8,j9,y1,S1,h0,h1,h2,h3,h4,h10,h11,h12]
  exact rest _ _ ⟨by simp -implicitDefEqProofs only [op,ef,cl,sq,reduceIte,j2,j3,j4,j5,j6,j7,j8,j9,y1,S1,h0],by simp -implicitDefEqProofs only [op,ef,cl,sq,reduceIte,j2,j3,j4,j5,j6,j7,j8,j9,y1,S1,h1],by simp -implicitDefEqProofs only [op,ef,cl,sq,reduceIte,j2,j3,j4,j5,j6,j7,j8,j9,y1,S1,h2],by simp -implicitDefEqProofs only [op,ef,cl,sq,reduceIte,j2,j3,j4,j5,j6,j7,j8,j9,y1,S1],by simp -implicitDefEqProofs only [op,ef,cl,sq,reduceIte,j2,j3,j4,j5,j6,j7,j8,j9,y1,S1,h4],by simp -implicitDefEqProofs only [op,ef,cl,sq,reduceIte,j2,j3,j4,j5,j6,j7,j8,j9,y1,S1,h10],by simp -implicitDefEqProofs only [op,ef,cl,sq,reduceIte,j2,j3,j4,j5,j6,j7,j8,j9,y1,S1,h11],by simp -implicitDefEqProofs only [op,ef,cl,sq,reduceIte,j2,j3,j4,j5,j6,j7,j8,j9,y1,S1,h12]⟩ ⟨d2,hd2,hs2,e2,hfr.trans hf2 fun _ h=>.inl h⟩
open Go.Sort in
theorem seg5O (A:C) (hA:(bkOf ir102.body 1).map (seqN · 5)=some A) (c n a b lim:Nat) (wb wp:Bool) (d:Array ByteArray) (pv:Nat) (hi:Hint) (R:Regs) (H0 H:Heap) (K:Out→Heap→Prop) (hp:PRO R c n a b lim wb wp) (h13:R 11=.int .i64 pv) (h14:R 12=.int .i64 (hintN hi)) (hd:SCO c n H0 (fun x=>x=d) H) (hb:b≤n) (hab:a+12<b) (hs:n<16777216) (hpv:a≤pv∧pv<b)
  (rest:∀ R' H',PRO R' c n a b lim wb wp→R' 11=.int .i64 (if hi=.decreasing then (b-1)-(pv-a) else pv:Nat)→R' 12=.int .i64 (hintN (if hi=.decreasing then Hint.increasing else hi))→SCO c n H0 (fun x=>x=if hi=.decreasing then reverseRange d a b else d) H'→K (.ex .normal R') H'):wpC env A R H K:=by
 simp [ir102,bkOf,seqN,sq] at hA
 subst hA
 obtain ⟨h0,h1,h2,h3,h4,h10,h11,h12⟩:=hp
 obtain ⟨di,hc,hn,rfl,hfr⟩:=hd
 have e:((hintN hi)==2)=decide (hi=.decreasing):=by cases hi <;> decide
 by_cases hh:hi=.decreasing
 ·rw [decide_eq_true hh] at e
  simp -implicitDefEqProofs (maxSteps:=1000000) (disch:=omega) only [op,ef,cl,sq,reduceIte,j2,j3,j4,j5,j6,j7,j8,j9,y1,S1,h0,h1,h2,h3,h4,h10,h11,h12,h13,h14,e]
  refine callB_of _ _ _ _ _ _ _ _ (rev89 c n di a b _ hn hc hb (by omega) (by omega)) ?_
  rintro u H2 ⟨hu,d2,hd2,hs2,e2,hf2⟩
  cases hu
  simp -implicitDefEqProofs (maxSteps:=1000000) (disch:=omega) only [natOf_nat,iadmO,ldm1O,ldm2O,stm0O,stm1O,stm2O,wA,wA1,wS,wS1,wM,S2,op,ef,cl,sq,reduceIte,j2,j3,j4,j5,j6,j7,j8,j9,y1,S1,h0,h1,h2,h3,h4,h10,h11,h12,h13,h14]
  refine rest _ _ ⟨?_,?_,?_,?_,?_,?_,?_,?_⟩ ?_ ?_ ⟨d2,hd2,hs2,?_,hfr.trans hf2 fun _ h=>.inl h⟩
  all_goals simp -implicitDefEqProofs only [op,ef,cl,sq,reduceIte,j2,j3,j4,j5,j6,j7,j8,j9,y1,S1,h0,h1,h2,h3,h4,h10,h11,h12,if_pos hh,hintN]
  exact e2
 ·rw [decide_eq_false hh] at e
  simp -implicitDefEqProofs (maxSteps:=1000000) (disch:=omega) only [op,ef,cl,sq,reduceIte,j2,j3,j4,j5,j6,j7,j8,j9,y1,S1,h0,h1,h2,h3,h4,h10,h11,h12,h13,h14,e]
  refine rest _ _ ⟨?_,?_,?_,?_,?_,?_,?_,?_⟩ ?_ ?_ ⟨di,hc,hn,?_,hfr⟩
  all_goals simp -implicitDefEqProofs only [op,ef,cl,sq,reduceIte,j2,j3,j4,j5,j6,j7,j8,j9,y1,S1,h0,h1,h2,h3,h4,h10,h11,h12,h13,h14,if_neg hh]
open Go.Sort in
theorem seg6O (A:C) (hA:(bkOf ir102.body 1).map (seqN · 6)=some A) (c n a b lim:Nat) (wb wp:Bool) (d:Array ByteArray) (pv:Nat) (hi:Hint) (R:Regs) (H0 H:Heap) (K:Out→Heap→Prop) (hp:PRO R c n a b lim wb wp) (h13:R 11=.int .i64 pv) (h14:R 12=.int .i64 (hintN hi)) (hd:SCO c n H0 (fun x=>x=d) H) (hb:b≤n) (hab:a+12<b) (hs:n<16777216)
  (pi:Array ByteArray × Bool) (hpi:pi=if (wb&&wp&&hi=.increasing)=true then partialInsertionSort strLt d a b else (d,false))
  (rest1:∀ R' H',pi.2=true→SCO c n H0 (fun x=>x=pi.1) H'→K (.ex .ret R') H')
  (rest2:∀ R' H',pi.2=false→PRO R' c n a b lim wb wp→R' 11=.int .i64 pv→SCO c n H0 (fun x=>x=pi.1) H'→K (.ex .normal R') H'):wpC env A R H K:=by
 simp [ir102,bkOf,seqN,sq] at hA
 subst hA
 obtain ⟨h0,h1,h2,h3,h4,h10,h11,h12⟩:=hp
 obtain ⟨di,hc,hn,rfl,hfr⟩:=hd
 have e:((hintN hi)==1)=decide (hi=.increasing):=by cases hi <;> decide
 have no:(wb&&wp&&decide (hi=.increasing))=false→∀ R',PRO R' c n a b lim wb wp→R' 11=.int .i64 pv→K (.ex .normal R') H:=fun h R' q q'=>rest2 R' H (by rw [hpi,h];rfl) q q' ⟨di,hc,hn,by rw [hpi,h];rfl,hfr⟩
 cases wb with
 | false =>
  simp -implicitDefEqProofs only [op,ef,cl,sq,reduceIte,j2,j3,j4,j5,j6,j7,j8,j9,y1,S1,h0,h1,h2,h3,h4,h10,h11,h12,h13,h14]
  refine no rfl _ ⟨?_,?_,?_,?_,?_,?_,?_,?_⟩ ?_
  all_goals simp -implicitDefEqProofs only [op,ef,cl,sq,reduceIte,j2,j3,j4,j5,j6,j7,j8,j9,y1,S1,h0,h1,h2,h3,h4,h10,h11,h12,h13]
 | true =>
  cases wp with
  | false =>
   simp -implicitDefEqProofs only [op,ef,cl,sq,reduceIte,j2,j3,j4,j5,j6,j7,j8,j9,y1,S1,h0,h1,h2,h3,h4,h10,h11,h12,h13,h14]
   refine no rfl _ ⟨?_,?_,?_,?_,?_,?_,?_,?_⟩ ?_
   all_goals simp -implicitDefEqProofs only [op,ef,cl,sq,reduceIte,j2,j3,j4,j5,j6,j7,j8,j9,y1,S1,h0,h1,h2,h3,h4,h10,h11,h12,h13]
  | true =>
   by_cases hh:hi=.increasing
   ·rw [decide_eq_true hh] at e
    rw [decide_eq_true hh] at hpi
    simp -implicitDefEqProofs only [op,ef,cl,sq,reduceIte,j2,j3,j4,j5,j6,j7,j8,j9,y1,S1,h0,h1,h2,h3,h4,h10,h11,h12,h13,h14,e]
    refine callB_of _ _ _ _ _ _ _ _ (pins90 c n di a b _ hn hc hb (by omega) (by omega)) ?_
    rintro u H2 ⟨hu,d2,hd2,hs2,e2,hf2⟩
    cases hu
    rw [if_pos (show (true&&true&&true)=true from rfl)] at hpi
    rw [← hpi] at e2 ⊢
    cases hb2:pi.2 with
    | true =>
     try simp -implicitDefEqProofs only [op,ef,cl,sq,reduceIte,j2,j3,j4,j5,j6,j7,j8,j9,y1,S1]
     exact rest1 _ _ hb2 ⟨d2,hd2,hs2,e2,hfr.trans hf2 fun _ h=>.inl h⟩
    | false =>
     try simp -implicitDefEqProofs only [op,ef,cl,sq,reduceIte,j2,j3,j4,j5,j6,j7,j8,j9,y1,S1]
     refine rest2 _ _ hb2 ⟨?_,?_,?_,?_,?_,?_,?_,?_⟩ ?_ ⟨d2,hd2,hs2,e2,hfr.trans hf2 fun _ h=>.inl h⟩
     all_goals simp -implicitDefEqProofs only [op,ef,cl,sq,reduceIte,j2,j3,j4,j5,j6,j7,j8,j9,y1,S1,h0,h1,h2,h3,h4,h10,h11,h12,h13]
   ·rw [decide_eq_false hh] at e
    simp -implicitDefEqProofs only [op,ef,cl,sq,reduceIte,j2,j3,j4,j5,j6,j7,j8,j9,y1,S1,h0,h1,h2,h3,h4,h10,h11,h12,h13,h14,e]
    refine no (by rw [decide_eq_false hh];rfl) _ ⟨?_,?_,?_,?_,?_,?_,?_,?_⟩ ?_
    all_goals simp -implicitDefEqProofs only [op,ef,cl,sq,reduceIte,j2,j3,j4,j5,j6,j7,j8,j9,y1,S1,h0,h1,h2,h3,h4,h10,h11,h12,h13]
open Go.Sort in
theorem seg7O (A:C) (hA:(bkOf ir102.body 1).map (seqN · 7)=some A) (c n a b lim:Nat) (wb wp:Bool) (d:Array ByteArray) (pv:Nat) (R:Regs) (H0 H:Heap) (K:Out→Heap→Prop) (hp:PRO R c n a b lim wb wp) (h13:R 11=.int .i64 pv) (hd:SCO c n H0 (fun x=>x=d) H) (hb:b≤n) (hab:a+12<b) (hs:n<16777216) (hpv:a≤pv∧pv<b)
  (rest1:∀ R' H',(a > 0&&!strLt d[a-1]! d[pv]!)=true→R' 0=.msl c 0 n 1→R' 1=.int .i64 (partitionEqual strLt d a b pv).1→R' 2=.int .i64 b→R' 3=.int .i64 lim→R' 0=.msl c 0 n 1→R' 8=.bool wb→R' 9=.bool wp→SCO c n H0 (fun x=>x=(partitionEqual strLt d a b pv).2) H'→K (.ex (.exit 1) R') H')
  (rest2:∀ R' H',(a > 0&&!strLt d[a-1]! d[pv]!)=false→PRO R' c n a b lim wb wp→R' 11=.int .i64 pv→SCO c n H0 (fun x=>x=d) H'→K (.ex .normal R') H'):wpC env A R H K:=by
 simp [ir102,bkOf,seqN,sq] at hA
 subst hA
 obtain ⟨h0,h1,h2,h3,h4,h10,h11,h12⟩:=hp
 obtain ⟨di,hd,hn,rfl,hfr⟩:=hd
 have lc:=glt hd
 by_cases ha:0<a
 ·simp -implicitDefEqProofs (maxSteps:=1000000) (disch:=omega) only [natOf_nat,iadmO,ldm1O,ldm2O,stm0O,stm1O,stm2O,wA,wA1,wS,wS1,wM,S2,op,ef,cl,sq,reduceIte,j2,j3,j4,j5,j6,j7,j8,j9,y1,S1,h0,h1,h2,h3,h4,h10,h11,h12,h13,ha,hd,lc]
  refine callB_of _ _ _ _ _ _ _ _ (less91 di[a-1]! di[pv]! _) ?_
  rintro u H3 ⟨hu,hx0⟩
  cases hu
  have hx:Ext H H3:=by rw [hx0];exact Ext.rfl'
  have hd:=hx.get hd
  have lc:=glt hd
  have hfr:=hfr.trans (ext_frm (F:=fun _=>False) hx) (fun _ h=>h.elim)
  have lt1:strLt di[a-1]! di[pv]! = decide (strLt di[a-1]! di[pv]! = true):=by simp
  by_cases c1:strLt di[a-1]! di[pv]! = true
  ·simp -implicitDefEqProofs (maxSteps:=1000000) (disch:=omega) only [natOf_nat,iadmO,ldm1O,ldm2O,stm0O,stm1O,stm2O,wA,wA1,wS,wS1,wM,S2,op,ef,cl,sq,reduceIte,j2,j3,j4,j5,j6,j7,j8,j9,y1,S1,h0,h1,h2,h3,h4,h10,h11,h12,h13,ha,hd,lc,c1]
   refine rest2 _ _ (by rw [lt1,dect c1];simp) ⟨?_,?_,?_,?_,?_,?_,?_,?_⟩ ?_ ⟨di,hd,hn,rfl,hfr⟩
   all_goals simp -implicitDefEqProofs only [op,ef,cl,sq,reduceIte,j2,j3,j4,j5,j6,j7,j8,j9,y1,S1,h0,h1,h2,h3,h4,h10,h11,h12,h13]
  ·simp -implicitDefEqProofs (maxSteps:=1000000) (disch:=omega) only [natOf_nat,iadmO,ldm1O,ldm2O,stm0O,stm1O,stm2O,wA,wA1,wS,wS1,wM,S2,op,ef,cl,sq,reduceIte,j2,j3,j4,j5,j6,j7,j8,j9,y1,S1,h0,h1,h2,h3,h4,h10,h11,h12,h13,ha,hd,lc,c1]
   refine callB_of _ _ _ _ _ _ _ _ (peq92 c n di a b pv _ hn hd hb (by omega) (by omega) (by omega)) ?_
   rintro u H4 ⟨hu,d2,hd2,hs2,e2,hf2⟩
   cases hu
   try simp -implicitDefEqProofs only [op,ef,cl,sq,reduceIte,j2,j3,j4,j5,j6,j7,j8,j9,y1,S1]
   refine rest1 _ _ (by rw [lt1,decf c1];simp;exact ha) ?_ ?_ ?_ ?_ ?_ ?_ ?_ ⟨d2,hd2,hs2,e2,hfr.trans hf2 fun _ h=>.inl h⟩
   all_goals simp -implicitDefEqProofs only [op,ef,cl,sq,reduceIte,j2,j3,j4,j5,j6,j7,j8,j9,y1,S1,h0,h1,h2,h3,h4,h10,h11,h12,h13]
 ·simp -implicitDefEqProofs only [op,ef,cl,sq,reduceIte,j2,j3,j4,j5,j6,j7,j8,j9,y1,S1,h0,h1,h2,h3,h4,h10,h11,h12,h13,ha]
  refine rest2 _ _ (by rw [decide_eq_false ha];rfl) ⟨?_,?_,?_,?_,?_,?_,?_,?_⟩ ?_ ⟨di,hd,hn,rfl,hfr⟩
  all_goals simp -implicitDefEqProofs only [op,ef,cl,sq,reduceIte,j2,j3,j4,j5,j6,j7,j8,j9,y1,S1,h0,h1,h2,h3,h4,h10,h11,h12,h13]
open Go.Sort in
theorem pdq_stepO {d d1 d2:Array ByteArray} {a b lim lim1 pv:Nat} {wb wp:Bool} {cp:Nat × Hint} {hi:Hint} {pi:Array ByteArray × Bool} (h12:¬ b-a≤12) (hl:¬ lim=0)
  (e1:d1=if (!wb)=true then breakPatterns d a b else d) (el:lim1=if (!wb)=true then lim-1 else lim) (ec:cp=choosePivot strLt d1 a b) (e2:d2=if cp.2=.decreasing then reverseRange d1 a b else d1)
  (ep:pv=if cp.2=.decreasing then (b-1)-(cp.1-a) else cp.1) (eh:hi=if cp.2=.decreasing then .increasing else cp.2) (epi:pi=if (wb&&wp&&hi=.increasing)=true then partialInsertionSort strLt d2 a b else (d2,false)) :
  pdq strLt d a b lim wb wp=if pi.2=true then pi.1 else if (a > 0&&!strLt pi.1[a-1]! pi.1[pv]!)=true then (if a<(partitionEqual strLt pi.1 a b pv).1∧(partitionEqual strLt pi.1 a b pv).1≤b then pdq strLt (partitionEqual strLt pi.1 a b pv).2 (partitionEqual strLt pi.1 a b pv).1 b lim1 wb wp else (partitionEqual strLt pi.1 a b pv).2)
   else (if a≤(partition strLt pi.1 a b pv).1∧(partition strLt pi.1 a b pv).1<b then if (partition strLt pi.1 a b pv).1-a<b-(partition strLt pi.1 a b pv).1 then pdq strLt (pdq strLt (partition strLt pi.1 a b pv).2.2 a (partition strLt pi.1 a b pv).1 lim1 true true) ((partition strLt pi.1 a b pv).1+1) b lim1 (decide ((partition strLt pi.1 a b pv).1-a≥(b-a) / 8)) (partition strLt pi.1 a b pv).2.1
    else pdq strLt (pdq strLt (partition strLt pi.1 a b pv).2.2 ((partition strLt pi.1 a b pv).1+1) b lim1 true true) a (partition strLt pi.1 a b pv).1 lim1 (decide (b-(partition strLt pi.1 a b pv).1≥(b-a) / 8)) (partition strLt pi.1 a b pv).2.1 else (partition strLt pi.1 a b pv).2.2):=by
 subst epi eh ep e2 ec el e1
 rw [pdq,if_neg h12,if_neg hl]
 rfl
open Go.Sort in
theorem peq_rangeO (d:Array ByteArray) {a b pv:Nat} (h1:a≤pv) (h2:pv<b) (hb:b≤d.size):a<(partitionEqual strLt d a b pv).1∧(partitionEqual strLt d a b pv).1≤b:=by
 have:=partEqLoop_spec (lt:=strLt) a b b (a+1) (b-1) (swp d a pv) (by omega) (by omega) (by omega) (by omega) (by rw [swp_size];exact hb) (fun t h h'=>by omega) (fun t h h'=>by omega)
 exact ⟨this.1,this.2.1⟩
open Go.Sort in
theorem seg0O (A:C) (hA:(bkOf ir102.body 1).map (seqN · 0)=some A) (c n a b lim:Nat) (wb wp:Bool) (R:Regs) (H:Heap) (K:Out→Heap→Prop) (h0:R 0=.msl c 0 n 1) (h1:R 1=.int .i64 a) (h2:R 2=.int .i64 b) (h3:R 3=.int .i64 lim) (h4:R 0=.msl c 0 n 1) (h10:R 8=.bool wb) (h11:R 9=.bool wp) (hab:a≤b) (hb:b<16777216)
  (rest:∀ R',PRO R' c n a b lim wb wp→K (.ex .normal R') H):wpC env A R H K:=by
 simp [ir102,bkOf,seqN,sq] at hA
 subst hA
 simp -implicitDefEqProofs (maxSteps:=1000000) (disch:=omega) only [natOf_nat,iadmO,ldm1O,ldm2O,stm0O,stm1O,stm2O,wA,wA1,wS,wS1,wM,S2,op,ef,cl,sq,reduceIte,j2,j3,j4,j5,j6,j7,j8,j9,y1,S1,h0,h1,h2,h3,h4,h10,h11]
 refine rest _ ⟨?_,?_,?_,?_,?_,?_,?_,?_⟩
 all_goals simp -implicitDefEqProofs only [op,ef,cl,sq,reduceIte,j2,j3,j4,j5,j6,j7,j8,j9,y1,S1,h0,h1,h2,h3,h4,h10,h11]
open Go.Sort in
theorem seg1O (A:C) (hA:(bkOf ir102.body 1).map (seqN · 1)=some A) (c n a b lim:Nat) (wb wp:Bool) (d:Array ByteArray) (R:Regs) (H0 H:Heap) (K:Out→Heap→Prop) (hp:PRO R c n a b lim wb wp) (hd:SCO c n H0 (fun x=>x=d) H) (hb:b≤n) (hab:a≤b) (hs:n<16777216)
  (rest1:∀ R' H',b-a≤12→SCO c n H0 (fun x=>x=insertionSort strLt d a b) H'→K (.ex .ret R') H')
  (rest2:∀ R',¬ b-a≤12→PRO R' c n a b lim wb wp→K (.ex .normal R') H):wpC env A R H K:=by
 simp [ir102,bkOf,seqN,sq] at hA
 subst hA
 obtain ⟨h0,h1,h2,h3,h4,h10,h11,h12⟩:=hp
 obtain ⟨di,hc,hn,rfl,hfr⟩:=hd
 by_cases hle:b-a≤12
 ·simp -implicitDefEqProofs only [op,ef,cl,sq,reduceIte,j2,j3,j4,j5,j6,j7,j8,j9,y1,S1,h0,h1,h2,h3,h4,h10,h11,h12,hle]
  have hi:=ins85 c di a b H hc (by omega) hab (by omega)
  rw [hn] at hi
  refine callB_of _ _ _ _ _ _ _ _ hi ?_
  rintro u H2 ⟨hu,hd2,hf2⟩
  cases hu
  try simp -implicitDefEqProofs only [op,ef,cl,sq,reduceIte,j2,j3,j4,j5,j6,j7,j8,j9,y1,S1]
  exact rest1 _ _ hle ⟨_,hd2,by rw [(insertionSort_holds strLt_swo di a b hab (by omega)).1.1];exact hn,rfl,hfr.trans hf2 fun _ h=>.inl h⟩
 ·simp -implicitDefEqProofs only [op,ef,cl,sq,reduceIte,j2,j3,j4,j5,j6,j7,j8,j9,y1,S1,h0,h1,h2,h3,h4,h10,h11,h12,hle]
  refine rest2 _ hle ⟨?_,?_,?_,?_,?_,?_,?_,?_⟩
  all_goals simp -implicitDefEqProofs only [op,ef,cl,sq,reduceIte,j2,j3,j4,j5,j6,j7,j8,j9,y1,S1,h0,h1,h2,h3,h4,h10,h11,h12]
open Go.Sort in
theorem seg2O (A:C) (hA:(bkOf ir102.body 1).map (seqN · 2)=some A) (c n a b lim:Nat) (wb wp:Bool) (d:Array ByteArray) (R:Regs) (H0 H:Heap) (K:Out→Heap→Prop) (hp:PRO R c n a b lim wb wp) (hd:SCO c n H0 (fun x=>x=d) H) (hb:b≤n) (hab:a+12<b) (hs:n<16777216)
  (rest1:∀ R' H',lim=0→SCO c n H0 (fun x=>x=heapSort strLt d a b) H'→K (.ex .ret R') H')
  (rest2:∀ R',¬ lim=0→PRO R' c n a b lim wb wp→K (.ex .normal R') H):wpC env A R H K:=by
 simp [ir102,bkOf,seqN,sq] at hA
 subst hA
 obtain ⟨h0,h1,h2,h3,h4,h10,h11,h12⟩:=hp
 obtain ⟨di,hc,hn,rfl,hfr⟩:=hd
 by_cases hl:lim=0
 ·subst hl
  have e:(((0:Nat):Int)==0)=true:=rfl
  simp -implicitDefEqProofs only [op,ef,cl,sq,reduceIte,j2,j3,j4,j5,j6,j7,j8,j9,y1,S1,h0,h1,h2,h3,h4,h10,h11,h12,e]
  refine callB_of _ _ _ _ _ _ _ _ (heap86 c n di a b _ hn hc hb (by omega) (by omega)) ?_
  rintro u H2 ⟨hu,d2,hd2,hs2,e2,hf2⟩
  cases hu
  try simp -implicitDefEqProofs only [op,ef,cl,sq,reduceIte,j2,j3,j4,j5,j6,j7,j8,j9,y1,S1]
  exact rest1 _ _ rfl ⟨_,hd2,hs2,e2,hfr.trans hf2 fun _ h=>.inl h⟩
 ·have e:((lim:Int)==0)=false:=by simp;omega
  simp -implicitDefEqProofs only [op,ef,cl,sq,reduceIte,j2,j3,j4,j5,j6,j7,j8,j9,y1,S1,h0,h1,h2,h3,h4,h10,h11,h12,e]
  refine rest2 _ hl ⟨?_,?_,?_,?_,?_,?_,?_,?_⟩
  all_goals simp -implicitDefEqProofs only [op,ef,cl,sq,reduceIte,j2,j3,j4,j5,j6,j7,j8,j9,y1,S1,h0,h1,h2,h3,h4,h10,h11,h12]
open Go.Sort in
theorem seg4O (A:C) (hA:(bkOf ir102.body 1).map (seqN · 4)=some A) (c n a b lim:Nat) (wb wp:Bool) (d:Array ByteArray) (R:Regs) (H0 H:Heap) (K:Out→Heap→Prop) (hp:PRO R c n a b lim wb wp) (hd:SCO c n H0 (fun x=>x=d) H) (hb:b≤n) (hab:a+12<b) (hs:n<16777216)
  (rest:∀ R' H',PRO R' c n a b lim wb wp→R' 11=.int .i64 (choosePivot strLt d a b).1→R' 12=.int .i64 (hintN (choosePivot strLt d a b).2)→SCO c n H0 (fun x=>x=d) H'→K (.ex .normal R') H'):wpC env A R H K:=by
 simp [ir102,bkOf,seqN,sq] at hA
 subst hA
 obtain ⟨h0,h1,h2,h3,h4,h10,h11,h12⟩:=hp
 obtain ⟨di,hc,hn,rfl,hfr⟩:=hd
 simp -implicitDefEqProofs only [op,ef,cl,sq,reduceIte,j2,j3,j4,j5,j6,j7,j8,j9,y1,S1,h0,h1,h2,h3,h4,h10,h11,h12]
 refine callB_of _ _ _ _ _ _ _ _ (choose88 c n di a b _ hn hc hb hab (by omega)) ?_
 rintro u H2 ⟨hu,hx⟩
 cases hu
 try simp -implicitDefEqProofs only [op,ef,cl,sq,reduceIte,j2,j3,j4,j5,j6,j7,j8,j9,y1,S1]
 refine rest _ _ ⟨?_,?_,?_,?_,?_,?_,?_,?_⟩ ?_ ?_ ⟨di,hx.get hc,hn,rfl,hfr.trans (ext_frm (F:=fun _=>False) hx) (fun _ h=>h.elim)⟩
 all_goals simp -implicitDefEqProofs only [op,ef,cl,sq,reduceIte,j2,j3,j4,j5,j6,j7,j8,j9,y1,S1,h0,h1,h2,h3,h4,h10,h11,h12]
open Go.Sort in
theorem seg8O (A:C) (hA:(bkOf ir102.body 1).map (seqT · 8)=some A) (c n a b lim:Nat) (wb wp:Bool) (d:Array ByteArray) (pv:Nat) (R:Regs) (H0 H:Heap) (K:Out→Heap→Prop) (hp:PRO R c n a b lim wb wp) (h13:R 11=.int .i64 pv) (hd:SCO c n H0 (fun x=>x=d) H) (hb:b≤n) (hab:a+12<b) (hs:n<16777216) (hpv:a≤pv∧pv<b)
  (ih:∀ a' b' (d':Array ByteArray) H',b'-a'<b-a→a'≤b'→b'≤n→d'.size=n→H'[c]?=some (.cells (msC eS d'.toList))→W env (.call 102 [.msl c 0 n 1,.int .i64 a',.int .i64 b',.int .i64 lim]) H' (SrtNO c n (pdq strLt d' a' b' lim true true) H'))
  (rest:∀ R' H' a' b' (d':Array ByteArray) (wb':Bool),a≤a'→a'≤b'→b'≤b→b'-a'<b-a→R' 0=.msl c 0 n 1→R' 1=.int .i64 (a':Nat)→R' 2=.int .i64 (b':Nat)→R' 3=.int .i64 lim→R' 0=.msl c 0 n 1→R' 8=.bool wb'→R' 9=.bool (partition strLt d a b pv).2.1 →
   pdq strLt d' a' b' lim wb' (partition strLt d a b pv).2.1=(if (partition strLt d a b pv).1-a<b-(partition strLt d a b pv).1 then pdq strLt (pdq strLt (partition strLt d a b pv).2.2 a (partition strLt d a b pv).1 lim true true) ((partition strLt d a b pv).1+1) b lim (decide ((partition strLt d a b pv).1-a≥(b-a) / 8)) (partition strLt d a b pv).2.1
    else pdq strLt (pdq strLt (partition strLt d a b pv).2.2 ((partition strLt d a b pv).1+1) b lim true true) a (partition strLt d a b pv).1 lim (decide (b-(partition strLt d a b pv).1≥(b-a) / 8)) (partition strLt d a b pv).2.1) →
   SCO c n H0 (fun x=>x=d') H'→K (.ex .normal R') H'):wpC env A R H K:=by
 simp [ir102,bkOf,seqT,sq] at hA
 subst hA
 obtain ⟨h0,h1,h2,h3,h4,h10,h11,h12⟩:=hp
 obtain ⟨di,hc,hn,rfl,hfr⟩:=hd
 have hrg:=partition_holds strLt strLt_swo di a b pv hpv.1 hpv.2 (by omega)
 simp -implicitDefEqProofs only [op,ef,cl,sq,reduceIte,j2,j3,j4,j5,j6,j7,j8,j9,y1,S1,h0,h1,h2,h3,h4,h10,h11,h12,h13]
 refine callB_of _ _ _ _ _ _ _ _ (part93 c n di a b pv _ hn hc hb (by omega) (by omega) (by omega)) ?_
 rintro u H2 ⟨hu,d2,hd2,hs2,e2,hf2⟩
 cases hu
 generalize partition strLt di a b pv=r at *
 obtain ⟨mid,ap,d4⟩:=r
 simp only at hrg e2 rest ⊢
 subst e2
 obtain ⟨m1,m2,_⟩:=hrg
 have hfr2:=hfr.trans hf2 fun _ h=>.inl h
 by_cases hlt:mid-a<b-mid
 ·rw [if_pos hlt] at rest
  simp -implicitDefEqProofs (maxSteps:=1000000) (disch:=omega) only [natOf_nat,iadmO,ldm1O,ldm2O,stm0O,stm1O,stm2O,wA,wA1,wS,wS1,wM,S2,op,ef,cl,sq,reduceIte,j2,j3,j4,j5,j6,j7,j8,j9,y1,S1,wQ8,h0,h1,h2,h3,h4,h10,h11,h12,h13,hlt]
  refine callB_of _ _ _ _ _ _ _ _ (ih a mid d2 _ (by omega) m1 (by omega) hs2 hd2) ?_
  rintro u H3 ⟨hu,d3,hd3,hs3,e3,hf3⟩
  cases hu
  simp -implicitDefEqProofs (maxSteps:=1000000) (disch:=omega) only [natOf_nat,iadmO,ldm1O,ldm2O,stm0O,stm1O,stm2O,wA,wA1,wS,wS1,wM,S2,op,ef,cl,sq,reduceIte,j2,j3,j4,j5,j6,j7,j8,j9,y1,S1,h0,h1,h2,h3,h4,h10,h11,h12,h13]
  refine rest _ _ (mid+1) b d3 (decide ((b-a) / 8≤mid-a)) (by omega) (by omega) (Nat.le_refl _) (by omega) ?_ ?_ ?_ ?_ ?_ ?_ ?_ (by rw [e3]) ⟨d3,hd3,hs3,rfl,hfr2.trans hf3 fun _ h=>.inl h⟩
  all_goals simp -implicitDefEqProofs only [op,ef,cl,sq,reduceIte,j2,j3,j4,j5,j6,j7,j8,j9,y1,S1,h0,h1,h2,h3,h4,h10,h11,h12]
 ·rw [if_neg hlt] at rest
  simp -implicitDefEqProofs (maxSteps:=1000000) (disch:=omega) only [natOf_nat,iadmO,ldm1O,ldm2O,stm0O,stm1O,stm2O,wA,wA1,wS,wS1,wM,S2,op,ef,cl,sq,reduceIte,j2,j3,j4,j5,j6,j7,j8,j9,y1,S1,wQ8,h0,h1,h2,h3,h4,h10,h11,h12,h13,hlt]
  refine callB_of _ _ _ _ _ _ _ _ (ih (mid+1) b d2 _ (by omega) m2 (by omega) hs2 hd2) ?_
  rintro u H3 ⟨hu,d3,hd3,hs3,e3,hf3⟩
  cases hu
  simp -implicitDefEqProofs (maxSteps:=1000000) (disch:=omega) only [natOf_nat,iadmO,ldm1O,ldm2O,stm0O,stm1O,stm2O,wA,wA1,wS,wS1,wM,S2,op,ef,cl,sq,reduceIte,j2,j3,j4,j5,j6,j7,j8,j9,y1,S1,h0,h1,h2,h3,h4,h10,h11,h12,h13]
  refine rest _ _ a mid d3 (decide ((b-a) / 8≤b-mid)) (by omega) (by omega) (by omega) (by omega) ?_ ?_ ?_ ?_ ?_ ?_ ?_ (by rw [e3]) ⟨d3,hd3,hs3,rfl,hfr2.trans hf3 fun _ h=>.inl h⟩
  all_goals simp -implicitDefEqProofs only [op,ef,cl,sq,reduceIte,j2,j3,j4,j5,j6,j7,j8,j9,y1,S1,h0,h1,h2,h3,h4,h10,h11,h12]
open Go.Sort in
theorem pdq69 (c n:Nat) (hs:n<16777216):∀ m a b lim (d:Array ByteArray) H,b-a=m→a≤b→b≤n→lim<1000→d.size=n→H[c]?=some (.cells (msC eS d.toList)) →
  W env (.call 102 [.msl c 0 n 1,.int .i64 (a:Nat),.int .i64 (b:Nat),.int .i64 (lim:Nat)]) H (SrtNO c n (pdq strLt d a b lim true true) H):=by
 intro m
 induction m using Nat.strongRecOn with
 | _ m ih =>
 intro a b lim d H hm hab hb hlim hn hc
 subst hm
 refine W.fnI rfl rfl rfl ?_
 simp -implicitDefEqProofs only [ir102,op,ef,cl,sq,reduceIte,j2,j3,j4,j5,j6,j7,j8,j9,y1,S1]
 refine W.loopI (fun (q:Nat × Nat × Nat × Bool × Bool) R H'=>At H' (fun H'=>SCO c n H (fun di=>pdq strLt di q.1 q.2.1 q.2.2.1 q.2.2.2.1 q.2.2.2.2=pdq strLt d a b lim true true) H')∧R 0=.msl c 0 n 1∧R 1=.int .i64 q.1∧R 2=.int .i64 q.2.1∧R 3=.int .i64 q.2.2.1∧R 0=.msl c 0 n 1∧R 8=.bool q.2.2.2.1∧R 9=.bool q.2.2.2.2∧a≤q.1∧q.1≤q.2.1∧q.2.1≤b∧q.2.2.1≤lim) (fun q=>q.2.1-q.1) (a,b,lim,true,true) ⟨.i ⟨d,hc,hn,rfl,Frm.refl _ _⟩,rfl,rfl,rfl,rfl,rfl,rfl,rfl,Nat.le_refl _,hab,Nat.le_refl _,Nat.le_refl _⟩ ?_
 rintro ⟨a1,b1,l1,wb,wp⟩ R H1 ⟨⟨di,hd,hsz,hP,hfr⟩,h0,h1,h2,h3,h4,h10,h11,q1,q2,q3,q4⟩
 simp only at hP h1 h2 h3 h10 h11 q1 q2 q3 q4 ⊢
 rw [c_block,c_seq]
 refine seg0O _ rfl c n a1 b1 l1 wb wp R H1 _ h0 h1 h2 h3 h4 h10 h11 q2 (by omega) ?_
 intro R1 p1
 rw [then_n,cont_ap,c_seq]
 refine seg1O _ rfl c n a1 b1 l1 wb wp di R1 H H1 _ p1 ⟨di,hd,hsz,rfl,hfr⟩ (by omega) q2 hs ?_ ?_
 ·rintro R' H' hle ⟨d',hd',hs',rfl,hf'⟩
  rw [pdq,if_pos hle] at hP
  try simp -implicitDefEqProofs only [op,ef,cl,sq,reduceIte,j2,j3,j4,j5,j6,j7,j8,j9,y1,S1]
  exact ⟨rfl,_,hd',hs',hP,hf'⟩
 intro R2 h12 p2
 rw [then_n,cont_ap,c_seq]
 refine seg2O _ rfl c n a1 b1 l1 wb wp di R2 H H1 _ p2 ⟨di,hd,hsz,rfl,hfr⟩ (by omega) (by omega) hs ?_ ?_
 ·rintro R' H' hl0 ⟨d',hd',hs',rfl,hf'⟩
  rw [pdq,if_neg h12,if_pos hl0] at hP
  try simp -implicitDefEqProofs only [op,ef,cl,sq,reduceIte,j2,j3,j4,j5,j6,j7,j8,j9,y1,S1]
  exact ⟨rfl,_,hd',hs',hP,hf'⟩
 intro R3 hl0 p3
 rw [then_n,cont_ap,c_seq]
 refine seg3O _ rfl c n a1 b1 l1 wb wp di R3 H H1 _ p3 ⟨di,hd,hsz,rfl,hfr⟩ (by omega) (by omega) hs (by omega) ?_
 rintro R4 H4 p4 ⟨d1,hd4,hs4,e1,hf4⟩
 obtain ⟨lim1,el⟩:∃ l,l=if (!wb)=true then l1-1 else l1:=⟨_,rfl⟩
 have hll:lim1≤l1:=by rw [el];split <;> omega
 rw [← el] at p4
 rw [then_n,cont_ap,c_seq]
 refine seg4O _ rfl c n a1 b1 lim1 wb wp d1 R4 H H4 _ p4 ⟨d1,hd4,hs4,rfl,hf4⟩ (by omega) (by omega) hs ?_
 rintro R5 H5 p5 h13 h14 ⟨d1',hd5,hs5,e1',hf5⟩
 subst e1'
 have hcr:=choosePivot_holds strLt d1' a1 b1 (by omega)
 obtain ⟨cp,ec⟩:∃ x,x=choosePivot strLt d1' a1 b1:=⟨_,rfl⟩
 rw [← ec] at h13 h14 hcr
 rw [then_n,cont_ap,c_seq]
 refine seg5O _ rfl c n a1 b1 lim1 wb wp d1' cp.1 cp.2 R5 H H5 _ p5 h13 h14 ⟨d1',hd5,hs5,rfl,hf5⟩ (by omega) (by omega) hs hcr ?_
 rintro R6 H6 p6 h13 h14 ⟨d2,hd6,hs6,e2,hf6⟩
 obtain ⟨pv,ep⟩:∃ x,x=if cp.2=.decreasing then (b1-1)-(cp.1-a1) else cp.1:=⟨_,rfl⟩
 obtain ⟨hi,eh⟩:∃ x,x=if cp.2=.decreasing then Hint.increasing else cp.2:=⟨_,rfl⟩
 rw [← ep] at h13
 rw [← eh] at h14
 have hpv:a1≤pv∧pv<b1:=by rw [ep];split <;> omega
 rw [then_n,cont_ap,c_seq]
 obtain ⟨pi,epi⟩:∃ x,x=if (wb&&wp&&hi=.increasing)=true then partialInsertionSort strLt d2 a1 b1 else (d2,false):=⟨_,rfl⟩
 rw [pdq_stepO h12 hl0 e1 el ec e2 ep eh epi] at hP
 refine seg6O _ rfl c n a1 b1 lim1 wb wp d2 pv hi R6 H H6 _ p6 h13 h14 ⟨d2,hd6,hs6,rfl,hf6⟩ (by omega) (by omega) hs pi epi ?_ ?_
 ·rintro R' H' hpt ⟨d',hd',hs',rfl,hf'⟩
  rw [if_pos hpt] at hP
  try simp -implicitDefEqProofs only [op,ef,cl,sq,reduceIte,j2,j3,j4,j5,j6,j7,j8,j9,y1,S1]
  exact ⟨rfl,_,hd',hs',hP,hf'⟩
 rintro R7 H7 hpf p7 h13 ⟨d3,hd7,hs7,e3,hf7⟩
 rw [if_neg (by rw [hpf];simp),← e3] at hP
 rw [then_n,cont_ap,c_seq]
 refine seg7O _ rfl c n a1 b1 lim1 wb wp d3 pv R7 H H7 _ p7 h13 ⟨d3,hd7,hs7,rfl,hf7⟩ (by omega) (by omega) hs hpv ?_ ?_
 ·rintro R' H' hgt g0 g1 g2 g3 g4 g10 g11 ⟨d',hd',hs',e',hf'⟩
  have hr:=peq_rangeO d3 hpv.1 hpv.2 (by omega)
  rw [if_pos hgt,if_pos hr,← e'] at hP
  try simp -implicitDefEqProofs only [op,ef,cl,sq,reduceIte,j2,j3,j4,j5,j6,j7,j8,j9,y1,S1]
  exact ⟨((partitionEqual strLt d3 a1 b1 pv).1,b1,lim1,wb,wp),by simp only;omega,.i ⟨_,hd',hs',hP,hf'⟩,g0,g1,g2,g3,g4,g10,g11,by simp only;omega,by simp only;omega,by simp only;omega,by simp only;omega⟩
 rintro R8 H8 hgt p8 h13 ⟨d3',hd8,hs8,e3',hf8⟩
 subst e3'
 have hr:=partition_holds strLt strLt_swo d3' a1 b1 pv hpv.1 hpv.2 (by omega)
 rw [if_neg (by rw [hgt];simp),if_pos ⟨hr.1,hr.2.1⟩] at hP
 rw [then_n,cont_ap]
 refine seg8O _ rfl c n a1 b1 lim1 wb wp d3' pv R8 H H8 _ p8 h13 ⟨d3',hd8,hs8,rfl,hf8⟩ (by omega) (by omega) hs hpv (fun a' b' d' H' hlt ha' hb' hs' hc'=>ih _ (by omega) a' b' lim1 d' H' rfl ha' hb' (by omega) hs' hc') ?_
 rintro R' H' a' b' d' wb' ha' hab' hb' hlt g0 g1 g2 g3 g4 g10 g11 e' ⟨d'',hd',hs',rfl,hf'⟩
 try simp -implicitDefEqProofs only [op,ef,cl,sq,reduceIte,j2,j3,j4,j5,j6,j7,j8,j9,y1,S1]
 exact ⟨(a',b',lim1,wb',(partition strLt d3' a1 b1 pv).2.1),by simp only;omega,.i ⟨_,hd',hs',by simp only;rw [e'];exact hP,hf'⟩,g0,g1,g2,g3,g4,g10,g11,by simp only;omega,hab',by simp only;omega,by simp only;omega⟩
open Go.Sort in
theorem sortO55 (c:Nat) (d:Array ByteArray) (H:Heap) (hc:H[c]?=some (.cells (msC eS d.toList))) (hs:d.size<16777216) :
  W env (.call 78 [.msl c 0 d.size 1]) H (SrtNO c d.size (sort strLt d) H):=by
 refine W.fnI rfl rfl rfl ?_
 have w1:IntKind.u64.wrap (d.size:Int)=(d.size:Int):=wrapu (by omega)
 simp -implicitDefEqProofs only [ir78,op,ef,cl,sq,reduceIte,j2,j3,j4,j5,j6,j7,j8,j9,y1,S1,w1]
 refine callB_of _ _ _ _ _ _ _ _ (len65 d.size hs _) ?_
 rintro u H1 ⟨hu,rfl⟩
 cases hu
 have hb:=bits_lt (n:=d.size) (k:=24) hs
 try simp -implicitDefEqProofs only [op,ef,cl,sq,reduceIte,j2,j3,j4,j5,j6,j7,j8,j9,y1,S1]
 refine callB_of _ _ _ _ _ _ _ _ (pdq69 c d.size hs _ 0 d.size (bitsLen d.size) d _ rfl (Nat.zero_le _) (Nat.le_refl _) (by omega) rfl hc) ?_
 rintro u H2 ⟨hu,h2⟩
 cases hu
 try simp -implicitDefEqProofs only [op,ef,cl,sq,reduceIte,j2,j3,j4,j5,j6,j7,j8,j9,y1,S1]
 exact ⟨rfl,h2⟩
theorem sorted_listFO {d:Array ByteArray} (hn:d.toList.Nodup):(Go.Sort.sort strLt d).toList.Perm d.toList∧(Go.Sort.sort strLt d).toList.Pairwise (fun a b=>strLt a b=true):=by
 obtain ⟨⟨hs,_,hp⟩,hsort⟩:=Go.Sort.sort_sorts strLt strLt_swo d
 have e1:(Go.Sort.sort strLt d).extract 0 d.size=Go.Sort.sort strLt d:=by
  conv=>lhs;arg 3;rw [← hs]
  simp
 have hperm:(Go.Sort.sort strLt d).toList.Perm d.toList:=by
  rw [e1] at hp
  simpa using hp
 refine ⟨hperm,?_⟩
 have hn2:(Go.Sort.sort strLt d).toList.Nodup:=hperm.nodup_iff.2 hn
 rw [List.pairwise_iff_getElem]
 intro i j hi hj hij
 have h1:=hsort i j (Nat.zero_le _) hij (by rw [← hs];simpa using hj)
 have gi:=arr_get (d:=Go.Sort.sort strLt d) (i:=i) (by simpa using hi)
 have gj:=arr_get (d:=Go.Sort.sort strLt d) (i:=j) (by simpa using hj)
 rw [List.getElem?_eq_getElem hi] at gi
 rw [List.getElem?_eq_getElem hj] at gj
 rw [Option.some.inj gi,Option.some.inj gj]
 cases h:strLt (Go.Sort.sort strLt d)[i]! (Go.Sort.sort strLt d)[j]! with
 | true=>rfl
 | false =>
  have e:=lt_tri h h1
  rw [← Option.some.inj gi,← Option.some.inj gj] at e
  have:=(List.getElem_inj hn2).1 e
  omega
theorem sortedF38 (es:List (ByteArray × T)) (c mb:Nat) (H:Heap) (hnd:(es.map (·.1)).Nodup) (hes:es.length≤8000000) (hc:H[c]?=some (.cells [.map mb])) (hm:H[mb]?=some (.map (encK T.str es))) :
  W env (.call 41 [.fn 79 [.ptr c 0]]) H (SortSQ es H):=by
 refine W.fnI rfl rfl rfl ?_
 simp -implicitDefEqProofs only [ir41,op,ef,cl,sq,reduceIte,j2,j3,j4,j5,j6,j7,j8,j9,y1,S1]
 refine callB_of _ _ _ _ _ _ _ _ (coll54 es c mb H hnd (by omega) hc hm) ?_
 rintro u H1 ⟨hx,t,vis,hu,hmt,hri⟩
 cases hu
 have hperm:vis.Perm (es.map (·.1)):=(List.perm_ext_iff_of_nodup hri.nvis hnd).2 fun k=>hri.end' k
 have hvl:vis.length=es.length:=by have:=hri.len;simpa using this
 rcases hmt with ⟨rfl,rfl⟩ | ⟨d,rfl,hd,hdn⟩
 ·simp -implicitDefEqProofs only [op,ef,cl,sq,reduceIte,j2,j3,j4,j5,j6,j7,j8,j9,y1,S1]
  refine callB_of _ _ _ _ _ _ _ _ (sortE55 _) ?_
  rintro u H2 ⟨hu,rfl⟩
  cases hu
  simp -implicitDefEqProofs only [op,ef,cl,sq,reduceIte,j2,j3,j4,j5,j6,j7,j8,j9,y1,S1]
  exact ⟨hx,_,[],rfl,mut_nil _ _ _ _,hperm,List.Pairwise.nil⟩
 ·simp -implicitDefEqProofs only [op,ef,cl,sq,reduceIte,j2,j3,j4,j5,j6,j7,j8,j9,y1,S1]
  have:=sortO55 d vis.toArray H1 (by simpa using hd) (by simpa using (by omega:vis.length<16777216))
  simp -implicitDefEqProofs only [List.size_toArray] at this
  refine callB_of _ _ _ _ _ _ _ _ this ?_
  rintro u H2 ⟨hu,d2,h2,hsz,rfl,hfr⟩
  cases hu
  simp -implicitDefEqProofs only [op,ef,cl,sq,reduceIte,j2,j3,j4,j5,j6,j7,j8,j9,y1,S1]
  have hs:=sorted_listFO (d:=vis.toArray) (by simpa using hri.nvis)
  refine ⟨ext_of fun a x hax=>hfr.get (hx.get hax) (by have:=glt hax;omega),_,_,rfl,.inr ⟨d,?_,h2,hdn⟩,hs.1.trans hperm,hs.2⟩
  rw [hs.1.length_eq]
theorem lastsF24 (b:Bk) (s:Sto) (F:Nat→Prop) (H:Heap) (hs:SH H b s F) (hi:SInv s) (hn:s.ls.length≤8000000):W env (.call 13 [.ptr b.s 0]) H (LastsQ s H):=by
 obtain ⟨im,pm,sa⟩:=hs
 refine W.fnI rfl rfl rfl ?_
 simp -implicitDefEqProofs only [ir13,op,ef,cl,sq,reduceIte,j2,j3,j4,j5,j6,j7,j8,j9,y1,S1,sa.hs]
 refine callB_of _ _ _ _ _ _ _ (fun o H'=>o=.val (.fn 79 [.ptr H.length 0])∧H'=H++[.cells [.map b.l]]) ?_ ?_
 ·refine W.fnI rfl rfl rfl ?_
  simp -implicitDefEqProofs only [ir42,op,ef,cl,sq,reduceIte,j2,j3,j4,j5,j6,j7,j8,j9,y1,S1]
  exact rfl
 rintro u H1 ⟨hu,rfl⟩
 cases hu
 have ll:=glt sa.hl
 have hkeys:(encL s.ls).map (·.1)=s.ls.map (·.1):=by simp [encL]
 simp -implicitDefEqProofs only [op,ef,cl,sq,reduceIte,j2,j3,j4,j5,j6,j7,j8,j9,y1,S1]
 refine callB_of _ _ _ _ _ _ _ _ (sortedF38 (encL s.ls) H.length b.l _ (by rw [hkeys];exact hi.ndl) (by simpa [encL] using hn) (g_tail rfl) (by rw [g_app ll];exact sa.hl)) ?_
 rintro t H2 ⟨hx2,_,l,hu,hmt,hperm,hpw⟩
 cases hu
 rw [hkeys] at hperm
 have hll:l.length≤8000000:=by rw [hperm.length_eq];simpa using hn
 have hlen:=hmt.len
 have hx0:Ext H H2:=(Ext.rfl'.app _).trans hx2
 simp -implicitDefEqProofs only [op,ef,cl,sq,reduceIte,j2,j3,j4,j5,j6,j7,j8,j9,y1,S1,hlen]
 refine W.loopI (fun (i:Nat) R H'=>At H' (fun H'=>∃ kw,R 3=.sl kw ((lastL s (l.take i)).map eL)∧Ext H H'∧Ext H2 H'∧Apd H2.length H' kw∧KOk kw (l.take i))∧R 0=.ptr b.s 0∧R 11=t∧R 12=.int .i64 l.length∧R 13=.int .i64 i∧i≤l.length) (fun i=>l.length-i) 0 ⟨.i ⟨.nil,rfl,hx0,Ext.rfl',apd_nil _ _,fun _=>rfl⟩,rfl,rfl,rfl,rfl,Nat.zero_le _⟩ ?_
 rintro i R H3 ⟨⟨kw,h3,hx3,hx23,hap,hko⟩,h0,h11,h12,h13,hil⟩
 by_cases hlt:i<l.length
 ·obtain ⟨m,hm⟩:=getP hlt
  have ws:=wrap_succ (show i<9223372036854775807 by omega)
  obtain ⟨c,g1,g2,g3⟩:=mut_n (enc:=eS) (n:=1) (fun _=>rfl) (by decide) (hmt.ext hx23) hm
  have sa3:=sa.frm (ext_frm (F:=fun _=>False) hx3) (fun _ _ _ h=>h)
  have hlk:=lkp_last s m
  have hall:=all_map (enc:=eL) (n:=2) (fun _=>rfl) (lastL s (l.take i))
  have hkl:((lastL s (l.take i)).map eL).length≤8000000:=by simp -implicitDefEqProofs only [lastL,List.length_map,List.length_take];omega
  obtain ⟨k',H5,ha,hap',hst⟩:=app_ok (bytes:=24) ((lastL s (l.take i)).map eL) [[T.str m,.int .u64 (lastOf s m)]] hap hx23.len (by simp) (roomT (by simp -implicitDefEqProofs only [List.length_cons,List.length_nil];omega))
  have hnn:=app_nn ha (by simp)
  simp -implicitDefEqProofs only [op,ef,cl,sq,reduceIte,j2,j3,j4,j5,j6,j7,j8,j9,y1,S1] at ha
  simp -implicitDefEqProofs only [op,ef,cl,sq,reduceIte,j2,j3,j4,j5,j6,j7,j8,j9,y1,S1,h0,h3,h11,h12,h13,hlt,natOf_nat,g1,g2,g3,eS,sa3.hs,sa3.hl,lkpB_M,hlk,hall,ha,ws]
  refine ⟨i+1,by omega,.i ⟨k',?_,hst.ext H (by have:=hx0.len;omega) hx3,hst.ext H2 (Nat.le_refl _) hx23,hap',fun h=>absurd h hnn⟩,rfl,by omega⟩
  rw [take_sn hm]
  simp -implicitDefEqProofs only [lastL,List.map_append,List.map_cons,List.map_nil,eL]
 ·have hil':i=l.length:=by omega
  subst hil'
  rw [List.take_length] at h3 hko
  simp -implicitDefEqProofs only [op,ef,cl,sq,reduceIte,j2,j3,j4,j5,j6,j7,j8,j9,y1,S1,h3,h12,h13,hlt]
  exact ⟨hx3,kw,l,hko,rfl,hperm,hpw⟩
structure Vd where
 value:ByteArray
 keys:List ByteArray
 stamp:Int
def Hd.vd (h:Hd):Vd:=⟨h.value,h.keys,h.stamp⟩
structure Ab where
 v:Nm→Option Vd
 l:ByteArray→Option Nat
def Ab.last (a:Ab) (k:ByteArray):Nat:=(a.l k).getD 0
def Ab.has (a:Ab) (m:Nm):Bool:=(a.v m).isSome
def absS (s:Sto):Ab:=⟨fun m=>(mlook s.vs m).map Hd.vd,fun k=>mlook s.ls k⟩
def Ab.emp:Ab:=⟨fun _=>none,fun _=>none⟩
def Ab.put (a:Ab) (n:Nat) (l:List (ByteArray × ByteArray)) (ks:List ByteArray) (now:Int):Ab :=
 ⟨fun m=>match a.v m with
  | some h=>some h
  | none=>if m.2=n then (mlook l m.1).map fun v=>⟨v,ks,if n<a.last m.1 then now else -1⟩ else none,a.l⟩
def Ab.fresh (a:Ab) (n:Nat) (l:List (ByteArray × ByteArray)):Bool:=l.any fun p=>!a.has (p.1,n)
def Ab.com (a : Ab) (n : Nat) (now : Int) : Ab :=
  ⟨fun m => (a.v m).map fun h => if h.stamp = -1 ∧ a.has (m.1, n) = true ∧ a.last m.1 < n ∧ m.2 < n then { h with stamp := now } else h,
   fun k => if a.has (k, n) = true ∧ a.last k < n then some n else a.l k⟩
def Ab.cut (a:Ab) (m0:Nm):Ab:=⟨fun m=>if m=m0 then none else a.v m,a.l⟩
theorem ab_ext {a b:Ab} (h1:∀ m,a.v m=b.v m) (h2:∀ k,a.l k=b.l k):a=b:=by
 cases a;cases b;simp -implicitDefEqProofs only [Ab.mk.injEq];exact ⟨funext h1,funext h2⟩
theorem mlook_of {α β:Type} [DecidableEq α] {es:List (α × β)} (hn:(es.map (·.1)).Nodup) {p:α × β} (hp:p∈es):mlook es p.1=some p.2:=by
 induction es with
 | nil=>cases hp
 | cons e es ih =>
  rw [List.map_cons,List.nodup_cons] at hn
  rw [mlook_cons]
  rcases List.mem_cons.1 hp with rfl | hp
  ·simp
  ·rw [if_neg,ih hn.2 hp]
   intro h
   exact hn.1 (h ▸ List.mem_map.2 ⟨p,hp,rfl⟩)
theorem PutV.abs {s s':Sto} {n:Nat} {l:List (ByteArray × ByteArray)} {ks:List ByteArray} {now:Int} {fr:Bool} (h:PutV s s' n l ks now fr) (hn:(l.map (·.1)).Nodup):absS s'=(absS s).put n l ks now:=by
 refine ab_ext (fun m=>?_) fun k=>by simp -implicitDefEqProofs only [absS,Ab.put,h.ls]
 simp -implicitDefEqProofs only [absS,Ab.put]
 by_cases hm:m.2=n∧m.1∈l.map (·.1)
 ·obtain ⟨rfl,hm⟩:=hm
  obtain ⟨p,hp,hpm⟩:=List.mem_map.1 hm
  have e:m=(p.1,m.2):=by rw [hpm]
  cases hl:mlook s.vs m with
  | some x =>
   have:=h.old p hp x (by rw [← e];exact hl)
   rw [← e] at this
   simp [this]
  | none =>
   obtain ⟨kk,_,h2⟩:=h.new p hp (by rw [← e];exact hl)
   rw [← e] at h2
   have h3:=mlook_of hn hp
   rw [hpm] at h3 h2
   simp -implicitDefEqProofs only [h2,h3,Hd.vd,Option.map_some,Option.map_none,if_true];rfl
 ·have h1:=h.other m (by
   by_cases e:m.2=n
   ·exact .inr fun h=>hm ⟨e,h⟩
   ·exact .inl e)
  rw [h1]
  cases hl:mlook s.vs m with
  | some x=>simp
  | none =>
   simp -implicitDefEqProofs only [Option.map_none]
   split
   ·rename_i e
    rw [mlook_none.2 fun h=>hm ⟨e,h⟩];rfl
   ·rfl
theorem PutV.fr {s s':Sto} {n:Nat} {l:List (ByteArray × ByteArray)} {ks:List ByteArray} {now:Int} {fr:Bool} (h:PutV s s' n l ks now fr):fr=(absS s).fresh n l:=by
 rw [Bool.eq_iff_iff,h.fresh]
 simp -implicitDefEqProofs only [Ab.fresh,List.any_eq_true,Ab.has,absS,Option.isSome_map,Bool.not_eq_true',Option.isSome_eq_false_iff,Option.isNone_iff_eq_none]
theorem ComV.abs {s s':Sto} {n:Nat} {now:Int} (hi:SInv s) (h:ComV s s' n now (s.pls n)):absS s'=(absS s).com n now:=by
 have hp:∀ k,k∈s.pls n↔(absS s).has (k,n)=true:=fun k=>by rw [hi.plm];simp [Ab.has,absS]
 have hlast:∀ k,lastOf s k=(absS s).last k:=fun _=>rfl
 have hv:∀ m,(absS s).v m=(mlook s.vs m).map Hd.vd:=fun _=>rfl
 have hl':∀ k,(absS s).l k=mlook s.ls k:=fun _=>rfl
 obtain ⟨a,ha⟩:∃ a,a=absS s:=⟨_,rfl⟩
 rw [← ha] at hp hlast hv hl' ⊢
 refine ab_ext (fun m=>?_) fun k=>?_
 ·obtain ⟨h1,h2⟩:=h.vs.2 m
  show (mlook s'.vs m).map Hd.vd=(a.v m).map _
  rw [hv]
  cases hl:mlook s.vs m with
  | none=>rw [h1 hl];rfl
  | some x =>
   obtain ⟨h3,h4⟩:=h2 x hl
   by_cases hc:(m.1∈s.pls n∧lastOf s m.1<n∧m.2<n)∧x.stamp=-1
   ·rw [h3 hc]
    simp -implicitDefEqProofs only [Option.map_some,Option.some.injEq]
    rw [if_pos ⟨hc.2,(hp _).1 hc.1.1,hlast _ ▸ hc.1.2.1,hc.1.2.2⟩];rfl
   ·rw [h4 hc]
    simp -implicitDefEqProofs only [Option.map_some,Option.some.injEq]
    rw [if_neg]
    rintro ⟨a,b,c,d⟩
    exact hc ⟨⟨(hp _).2 b,by rw [hlast];exact c,d⟩,a⟩
 ·show mlook s'.ls k=if _ then _ else a.l k
  rw [hl']
  by_cases hc:k∈s.pls n∧lastOf s k<n
  ·rw [h.on k hc.1 hc.2,if_pos ⟨(hp _).1 hc.1,by rw [← hlast];exact hc.2⟩]
  ·rw [h.off k hc,if_neg fun hh=>hc ⟨(hp _).2 hh.1,by rw [hlast];exact hh.2⟩]
theorem drop_abs {s:Sto} (hi:SInv s) (k:ByteArray) (n:Nat):absS (s.drop k n)=(absS s).cut (k,n):=by
 refine ab_ext (fun m=>?_) fun k=>rfl
 simp -implicitDefEqProofs only [absS,Ab.cut,Sto.drop,mcut_look hi.nd]
 split <;> rfl
theorem nd_le {α:Type}:∀ {l l':List α},l.Nodup→(∀ x∈l,x∈l')→l.length≤l'.length
 | [],_,_,_=>Nat.zero_le _
 | x :: l,l',hn,hs=>by
  obtain ⟨a,b,rfl⟩:=List.append_of_mem (hs x List.mem_cons_self)
  rw [List.nodup_cons] at hn
  have:=nd_le (l:=l) (l':=a++b) hn.2 fun y hy=>by
   have h:=hs y (List.mem_cons_of_mem _ hy)
   rcases List.mem_append.1 h with h | h
   ·exact List.mem_append_left _ h
   ·rcases List.mem_cons.1 h with rfl | h
    ·exact absurd hy hn.1
    ·exact List.mem_append_right _ h
  simp -implicitDefEqProofs only [List.length_append,List.length_cons] at this ⊢
  omega
theorem PutV.vlen {s s':Sto} {n:Nat} {l:List (ByteArray × ByteArray)} {ks:List ByteArray} {now:Int} {fr:Bool} (h:PutV s s' n l ks now fr) (hi:SInv s'):s'.vs.length≤s.vs.length+l.length:=by
 have:=nd_le (l:=s'.vs.map (·.1)) (l':=s.vs.map (·.1)++l.map fun p=>(p.1,n)) hi.nd fun m hm=>by
  rw [List.mem_append]
  by_cases hc:m.2=n∧m.1∈l.map (·.1)
  ·obtain ⟨p,hp,e⟩:=List.mem_map.1 hc.2
   exact .inr (List.mem_map.2 ⟨p,hp,by rw [e,← hc.1]⟩)
  ·refine .inl ?_
   rw [mem_keys] at hm ⊢
   rwa [h.other m (by
    by_cases e:m.2=n
    ·exact .inr fun h=>hc ⟨e,h⟩
    ·exact .inl e)] at hm
 simpa using this
theorem VS.vlen {v v':List (Nm × Hd)} {now:Int} {S:Nm→Prop} (h:VS v v' now S) (hn:(v.map (·.1)).Nodup):v'.length=v.length:=by
 have:=len_eq h.1 hn fun m=>by rw [mem_keys,mem_keys,h.some]
 simpa using this
def AtS (H:Heap) (b:Bk) (a:Ab) (F:Nat→Prop) (n:Nat):Prop:=∃ s,SH H b s F∧SInv s∧absS s=a∧s.n≤n∧s.vs.length≤n
theorem AtS.ext {H H':Heap} {b:Bk} {a:Ab} {F:Nat→Prop} {n:Nat} (h:AtS H b a F n) (hx:Ext H H'):AtS H' b a F n:=by
 obtain ⟨s,h1,h2⟩:=h
 exact ⟨s,h1.ext hx,h2⟩
theorem AtS.le {H:Heap} {b:Bk} {a:Ab} {F:Nat→Prop} {n m:Nat} (h:AtS H b a F n) (hm:n≤m):AtS H b a F m:=by
 obtain ⟨s,h1,h2,h3,h4,h5⟩:=h
 exact ⟨s,h1,h2,h3,by omega,by omega⟩
theorem AtS.frm {H H':Heap} {b:Bk} {a:Ab} {F G:Nat→Prop} {n:Nat} (h:AtS H b a F n) (hf:Frm G H H') (hg:∀ c,F c→c<H.length→¬ G c):AtS H' b a F n:=by
 obtain ⟨s,⟨im,pm,sa⟩,h2⟩:=h
 exact ⟨s,⟨im,pm,sa.frm hf hg⟩,h2⟩
def Gro (F F':Nat→Prop) (H H':Heap):Prop:=∀ c,F' c→F c∨(H.length≤c∧c<H'.length)
theorem newA (H:Heap):W env (.call 15 []) H (fun o H'=>Ext H H'∧∃ b F,o=.val (.ptr b.s 0)∧AtS H' b Ab.emp F 0∧∀ c,F c→H.length≤c∧c<H'.length) :=
 W.use (new7 H) fun o H' ⟨hx,b,F,hu,sh,hF⟩=>⟨hx,b,F,hu,⟨_,sh,SInv.emp,rfl,Nat.le_refl _,Nat.le_refl _⟩,hF⟩
theorem may_nd {n:Nat} {l:List (ByteArray × ByteArray)} {ks:List ByteArray} (h:MayP n l ks):(l.map (·.1)).Nodup:=by
 refine List.pairwise_map.2 (List.pairwise_iff_getElem.2 fun i j hi hj hij e=>?_)
 have:=pairs_lt h i j _ _ hij (List.getElem?_eq_getElem hi) (List.getElem?_eq_getElem hj)
 rw [e,lt_irr] at this;cases this
def PutAQ (b:Bk) (a:Ab) (F:Nat→Prop) (m n:Nat) (l:List (ByteArray × ByteArray)) (ks:List ByteArray) (now:Int) (H:Heap):Out→Heap→Prop:=fun o H' =>
 ∃ F',o=.val (.tup [.bool (a.fresh n l),.int .i64 0])∧AtS H' b (a.put n l ks now) F' (m+l.length)∧Frm F H H'∧Gro F F' H H'
theorem putA {b:Bk} {a:Ab} {F:Nat→Prop} {m:Nat} (n:Nat) (k k':SK) (l:List (ByteArray × ByteArray)) (ks:List ByteArray) (now:Int) {H:Heap} (h:AtS H b a F m) (hn:m+l.length≤8000000) (hko:KOk k' ks) (hm:MayP n l ks) (ht:TickOk now) :
  W env (.call 18 [.ptr b.s 0,.int .u64 n,.sl k (l.map eP),.sl k' (ks.map eS),.int .i64 now]) H (PutAQ b a F m n l ks now H):=by
 obtain ⟨s,sh,hi,rfl,h4,h5⟩:=h
 refine W.use (put28 b s F n k k' l ks now H sh hi (by omega) hko hm ht) fun o H' ⟨s',F',fr,hu,sh',hi',hp,hn',hfr,hg⟩=>⟨F',?_,⟨s',sh',hi',hp.abs (may_nd hm),by omega,?_⟩,hfr,hg⟩
 ·rw [hu,hp.fr]
 ·have:=hp.vlen hi';omega
def ComAQ (b:Bk) (a:Ab) (F:Nat→Prop) (m n:Nat) (now:Int) (H:Heap):Out→Heap→Prop:=fun o H' =>
 ∃ D:List ByteArray,D.Nodup∧(∀ k,k∈D↔a.has (k,n)=true)∧o=.val (.tup [.int .i64 D.length,.int .i64 0])∧AtS H' b (a.com n now) F m∧Frm F H H'
theorem comA {b:Bk} {a:Ab} {F:Nat→Prop} {m:Nat} (n:Nat) (now:Int) {H:Heap} (h:AtS H b a F m) (hn:m≤8000000) (hid:65536≤n) (ht:TickOk now):W env (.call 19 [.ptr b.s 0,.int .u64 n,.int .i64 now]) H (ComAQ b a F m n now H):=by
 obtain ⟨s,sh,hi,rfl,h4,h5⟩:=h
 refine W.use (commit14 b s F n now H sh hi (by omega) hid ht) fun o H' ⟨s',hu,sh',hi',hc,hn',_,_,hfr⟩=>⟨s.pls n,hi.pnd n,fun k=>?_,hu,⟨s',sh',hi',hc.abs hi,by omega,?_⟩,hfr⟩
 ·rw [hi.plm];simp [Ab.has,absS]
 ·have:=hc.vs.vlen hi.nd;omega
def DropAQ (b:Bk) (a:Ab) (F:Nat→Prop) (m:Nat) (k:ByteArray) (n:Nat) (H:Heap):Out→Heap→Prop:=fun o H' =>
 (a.v (k,n)=none∧o=.val (.int .i64 110)∧Ext H H')∨(∃ h,a.v (k,n)=some h∧h.stamp=-1∧o=.val (.int .i64 1)∧Ext H H') ∨
 ∃ h,a.v (k,n)=some h∧h.stamp≠-1∧o=.val (.int .i64 0)∧AtS H' b (a.cut (k,n)) F m∧Frm F H H'
theorem mcut_len {α β:Type} [DecidableEq α] (es:List (α × β)) (k:α):(mcut es k).length≤es.length:=by
 unfold mcut;split
 ·exact List.length_eraseIdx_le es _
 ·exact Nat.le_refl _
theorem dropA {b:Bk} {a:Ab} {F:Nat→Prop} {m:Nat} (k:ByteArray) (n:Nat) {H:Heap} (h:AtS H b a F m) (hn:m≤8000000):W env (.call 37 [.ptr b.s 0,.str k,.int .u64 n]) H (DropAQ b a F m k n H):=by
 obtain ⟨s,sh,hi,rfl,h4,h5⟩:=h
 refine W.use (drop15 b s F k n H sh hi (by omega)) fun o H' hq=>?_
 rcases hq with ⟨h1,hu,hx⟩ | ⟨h,h1,h2,hu,hx⟩ | ⟨h,h1,h2,hu,sh',hfr⟩
 ·exact .inl ⟨by simp [absS,h1],hu,hx⟩
 ·exact .inr (.inl ⟨h.vd,by simp [absS,h1],h2,hu,hx⟩)
 ·exact .inr (.inr ⟨h.vd,by simp [absS,h1],h2,hu,⟨_,sh',hi.drop k n,drop_abs hi k n,by simpa [Sto.drop] using h4,Nat.le_trans (mcut_len _ _) h5⟩,hfr⟩)
theorem byIDA {b:Bk} {a:Ab} {F:Nat→Prop} {m:Nat} (k:ByteArray) (n:Nat) {H:Heap} (h:AtS H b a F m):W env (.call 20 [.ptr b.s 0,.str k,.int .u64 n]) H (fun o H'=>Ext H H'∧((a.v (k,n)=none∧o=.val (.tup [.agg [.str ⟨#[]⟩,.int .u64 0,.str ⟨#[]⟩,.sl .nil []],.int .i64 110]))∨∃ h kk,a.v (k,n)=some h∧KOk kk h.keys∧o=.val (.tup [.agg (eVer k n h.value kk h.keys),.int .i64 0]))):=by
 obtain ⟨s,sh,hi,rfl,h4,h5⟩:=h
 refine W.use (byID12 b s F k n H sh hi) fun o H' ⟨hx,hq⟩=>⟨hx,?_⟩
 rcases hq with ⟨h1,hu⟩ | ⟨h,kk,h1,h2,hu⟩
 ·exact .inl ⟨by simp [absS,h1],hu⟩
 ·exact .inr ⟨h.vd,kk,by simp [absS,h1],h2,hu⟩
theorem lastA {b:Bk} {a:Ab} {F:Nat→Prop} {m:Nat} (k:ByteArray) {H:Heap} (h:AtS H b a F m):W env (.call 36 [.ptr b.s 0,.str k]) H (Ret (.int .u64 (a.last k:Nat)) H):=by
 obtain ⟨s,sh,hi,rfl,h4,h5⟩:=h
 exact last17 b s F k H sh
def vdOf (o:Option Vd):Vd:=o.getD ⟨⟨#[]⟩,[],0⟩
theorem vd_hd (o:Option Hd):(hdOf o).vd=vdOf (o.map Hd.vd):=by cases o <;> rfl
def Ab.latest (a:Ab) (k:ByteArray):Vd:=match a.l k with
 | none=>vdOf none
 | some n=>vdOf (a.v (k,n))
theorem latestA {b:Bk} {a:Ab} {F:Nat→Prop} {m:Nat} (k:ByteArray) {H:Heap} (h:AtS H b a F m):W env (.call 21 [.ptr b.s 0,.str k]) H (fun o H'=>Ext H H'∧∃ kk,KOk kk (a.latest k).keys∧o=.val (.agg (eVer k (a.last k) (a.latest k).value kk (a.latest k).keys))):=by
 obtain ⟨s,sh,hi,rfl,h4,h5⟩:=h
 have e:(latest s k).vd=(absS s).latest k:=by
  unfold latest Ab.latest
  simp -implicitDefEqProofs only [absS]
  cases mlook s.ls k with
  | none=>rfl
  | some n=>exact vd_hd _
 refine W.use (latest16 b s F k H sh hi) fun o H' ⟨hx,kk,hkk,hu⟩=>⟨hx,kk,?_,?_⟩
 ·rw [← e];exact hkk
 ·rw [hu,← e];rfl
def Names (a:Ab) (l:List Nm):Prop:=l.Pairwise (fun x y=>ltM x y=true)∧∀ m,m∈l↔a.has m=true
theorem Names.uniq {a:Ab} {l l':List Nm} (h:Names a l) (h':Names a l'):l=l':=sorted_eq l l' h.1 h'.1 fun m=>by rw [h.2,h'.2]
def eKA (a:Ab) (m:Nm):List T:=[.str m.1,.int .u64 m.2,.str (vdOf (a.v m)).value,.sl .arg ((vdOf (a.v m)).keys.map eS),.int .i64 (vdOf (a.v m)).stamp]
theorem Names.nd {a:Ab} {l:List Nm} (h:Names a l):l.Nodup:=h.1.imp fun {x y} hxy=>by rintro rfl;rw [ltM_irr] at hxy;cases hxy
theorem keptA {b:Bk} {a:Ab} {F:Nat→Prop} {m:Nat} {H:Heap} (h:AtS H b a F m) (hn:m≤8000000):W env (.call 10 [.ptr b.s 0]) H (fun o H'=>Ext H H'∧∃ k l,KOk k l∧Names a l∧l.length≤m∧o=.val (.sl k (l.map (eKA a)))):=by
 obtain ⟨s,sh,hi,rfl,h4,h5⟩:=h
 refine W.use (kept20 b s F H sh hi (by omega)) fun o H' ⟨hx,k,l,hko,hu,hp,hpw⟩=>⟨hx,k,l,hko,⟨hpw,fun m=>?_⟩,?_,?_⟩
 ·rw [hp.mem_iff,mem_keys];simp [Ab.has,absS]
 ·rw [hp.length_eq];simpa using h5
 ·rw [hu]
  congr 2
  rw [keptL,List.map_map]
  refine List.map_congr_left fun m _=>?_
  have e:=vd_hd (mlook s.vs m)
  simp -implicitDefEqProofs only [Function.comp,eK,eKA,absS,← e,Hd.vd]
def eW (x:Nm):List T:=[.str x.1,.int .u64 x.2]
def LNames (a:Ab) (l:List ByteArray):Prop:=l.Pairwise (fun x y=>strLt x y=true)∧∀ k,k∈l↔(a.l k).isSome=true
def lnm (a:Ab) (k:ByteArray):Nm:=(k,a.last k)
theorem sortedS_eq:∀ (l l':List ByteArray),l.Pairwise (fun a b=>strLt a b=true)→l'.Pairwise (fun a b=>strLt a b=true)→(∀ x,x∈l↔x∈l')→l=l'
 | [],[],_,_,_=>rfl
 | [],b :: l',_,_,h=>by have:=(h b).2 (by simp);cases this
 | a :: l,[],_,_,h=>by have:=(h a).1 (by simp);cases this
 | a :: l,b :: l',h1,h2,h=>by
  rw [List.pairwise_cons] at h1 h2
  have hab:a=b:=by
   rcases List.mem_cons.1 ((h a).1 (by simp)) with e | ha
   ·exact e
   ·rcases List.mem_cons.1 ((h b).2 (by simp)) with e | hb
    ·exact e.symm
    ·have x1:=h1.1 b hb
     have x2:=h2.1 a ha
     rw [lt_asymm x1] at x2;cases x2
  subst hab
  congr 1
  refine sortedS_eq l l' h1.2 h2.2 fun x=>⟨fun hx=>?_,fun hx=>?_⟩
  ·rcases List.mem_cons.1 ((h x).1 (by simp [hx])) with e | hx'
   ·subst e;have:=h1.1 x hx;rw [lt_irr] at this;cases this
   ·exact hx'
  ·rcases List.mem_cons.1 ((h x).2 (by simp [hx])) with e | hx'
   ·subst e;have:=h2.1 x hx;rw [lt_irr] at this;cases this
   ·exact hx'
theorem LNames.uniq {a:Ab} {l l':List ByteArray} (h:LNames a l) (h':LNames a l'):l=l':=sortedS_eq l l' h.1 h'.1 fun m=>by rw [h.2,h'.2]
theorem has_put {a:Ab} {n:Nat} {l:List (ByteArray × ByteArray)} {ks:List ByteArray} {now:Int} {m:Nm}:(a.put n l ks now).has m=(a.has m||(decide (m.2=n)&&(mlook l m.1).isSome)):=by
 simp -implicitDefEqProofs only [Ab.has,Ab.put]
 cases h:a.v m with
 | some x=>simp
 | none =>
  by_cases e:m.2=n
  ·simp [e]
  ·simp [e]
theorem has_com {a:Ab} {n:Nat} {now:Int} {m:Nm}:(a.com n now).has m=a.has m:=by
 simp -implicitDefEqProofs only [Ab.has,Ab.com,Option.isSome_map]
theorem mlook_key {α β:Type} [DecidableEq α] {es:List (α × β)} {k:α} (h:(mlook es k).isSome=true):k∈es.map (·.1):=by rw [mem_keys];exact h
theorem Gro.trans {F F' F2:Nat→Prop} {H H' H2:Heap} (h:Gro F F' H H') (h':Gro F' F2 H' H2) (l1:H.length≤H'.length) (l2:H'.length≤H2.length):Gro F F2 H H2:=fun c hc=>by
 rcases h' c hc with hc | hc
 ·rcases h c hc with hc | hc
  ·exact .inl hc
  ·exact .inr ⟨hc.1,by omega⟩
 ·exact .inr ⟨by omega,hc.2⟩
structure Prv (H0 H:Heap) (b:Bk) (a:Ab) (F:Nat→Prop) (m:Nat):Prop where
 at_:AtS H b a F m
 frm:Frm (fun _=>False) H0 H
 new:∀ c,F c→H0.length≤c∧c<H.length
theorem Prv.ext {H0 H H':Heap} {b:Bk} {a:Ab} {F:Nat→Prop} {m:Nat} (h:Prv H0 H b a F m) (hx:Ext H H'):Prv H0 H' b a F m:=⟨h.at_.ext hx,h.frm.ext hx,fun c hc=>by have:=h.new c hc;have:=hx.len;omega⟩
theorem Prv.go {H0 H H':Heap} {b:Bk} {a a':Ab} {F F':Nat→Prop} {m m':Nat} (h:Prv H0 H b a F m) (ha:AtS H' b a' F' m') (hf:Frm F H H') (hg:Gro F F' H H'):Prv H0 H' b a' F' m':=⟨ha,h.frm.more hf fun c hc=>(h.new c hc).1,fun c hc=>by
 have l1:=h.frm.1
 have l2:=hf.1
 rcases hg c hc with h' | h'
 ·have:=h.new c h';omega
 ·omega⟩
theorem Prv.go' {H0 H H':Heap} {b:Bk} {a a':Ab} {F:Nat→Prop} {m m':Nat} (h:Prv H0 H b a F m) (ha:AtS H' b a' F m') (hf:Frm F H H'):Prv H0 H' b a' F m':=h.go ha hf fun _ h=>.inl h
theorem AtS.keys {H:Heap} {b:Bk} {a:Ab} {F:Nat→Prop} {n:Nat} (h:AtS H b a F n):∀ m,(vdOf (a.v m)).keys.length≤1024:=fun m=>by
 obtain ⟨s,_,hi,rfl,_⟩:=h
 simp -implicitDefEqProofs only [absS]
 cases e:mlook s.vs m with
 | none=>simp [vdOf]
 | some x=>exact (hi.kok m x e).2
theorem AtS.names {H:Heap} {b:Bk} {a:Ab} {F:Nat→Prop} {n:Nat} (h:AtS H b a F n):∃ l,Names a l∧l.length≤n:=by
 obtain ⟨s,_,hi,rfl,_,hv⟩:=h
 obtain ⟨hp,hpw⟩:=sorted_listF (d:=(s.vs.map (·.1)).toArray) (by simpa using hi.nd)
 refine ⟨_,⟨hpw,fun m=>?_⟩,?_⟩
 ·rw [hp.mem_iff]
  show m∈(s.vs.map (·.1)).toArray.toList↔_
  rw [List.toList_toArray,mem_keys];simp [Ab.has,absS]
 ·rw [hp.length_eq];simpa using hv
theorem putNo {b:Bk} {a:Ab} {F:Nat→Prop} {m:Nat} (n:Nat) (k k':SK) (l:List (ByteArray × ByteArray)) (ks:List ByteArray) (now:Int) {H:Heap} (h:AtS H b a F m) (hl:l.length≤8000000) (hks:ks.length≤8000000) (hm:¬ (MayP n l ks∧TickOk now)) :
  W env (.call 18 [.ptr b.s 0,.int .u64 n,.sl k (l.map eP),.sl k' (ks.map eS),.int .i64 now]) H (fun o H'=>o=.val (.tup [.bool false,.int .i64 1])∧Ext H H'):=by
 refine W.fnI rfl rfl rfl ?_
 simp -implicitDefEqProofs only [ir18,op,ef,cl,sq,reduceIte,j2,j3,j4,j5,j6,j7,j8,j9,y1,S1]
 refine callB_of _ _ _ _ _ _ _ _ (may43 n k k' l ks _ (by omega) (by omega)) ?_
 rintro u H1 ⟨hx1,bb,hu,hb⟩
 cases hu
 cases bb
 ·simp -implicitDefEqProofs only [op,ef,cl,sq,reduceIte,j2,j3,j4,j5,j6,j7,j8,j9,y1,S1];exact hx1
 ·simp -implicitDefEqProofs only [op,ef,cl,sq,reduceIte,j2,j3,j4,j5,j6,j7,j8,j9,y1,S1]
  refine callB_of _ _ _ _ _ _ _ _ (tick31 now _) ?_
  rintro u H2 ⟨hu,rfl⟩
  cases hu
  have hf:(decide (0≤now)&&decide (now≤1099511627776))=false:=by
   rw [Bool.and_eq_false_iff,decide_eq_false_iff_not,decide_eq_false_iff_not]
   have:¬ TickOk now:=fun h=>hm ⟨hb.1 rfl,h⟩
   unfold TickOk at this;omega
  simp -implicitDefEqProofs only [op,ef,cl,sq,reduceIte,j2,j3,j4,j5,j6,j7,j8,j9,y1,S1,hf]
  exact hx1
def memN (D:List Nm) (m:Nm):Bool:=D.any fun x=>decide (x=m)
theorem memN_iff {D:List Nm} {m:Nm}:memN D m=true↔m∈D:=by simp [memN]
theorem memN_no {D:List Nm} {m:Nm} (h:m∉D):memN D m=false:=by
 cases e:memN D m with
 | false=>rfl
 | true=>exact absurd (memN_iff.1 e) h
def AbS (a:Ab):Prop:=∀ m h,a.v m=some h→(h.stamp=-1↔¬ m.2<a.last m.1)
theorem AbS.emp:AbS Ab.emp:=fun m h e=>by cases e
theorem AbS.put {a:Ab} (h:AbS a) {n:Nat} {l:List (ByteArray × ByteArray)} {ks:List ByteArray} {now:Int} (ht:0≤now):AbS (a.put n l ks now):=fun m x e=>by
 have hl:(a.put n l ks now).last m.1=a.last m.1:=rfl
 rw [hl]
 simp -implicitDefEqProofs only [Ab.put] at e
 cases h1:a.v m with
 | some y=>rw [h1] at e;cases e;exact h m _ h1
 | none =>
  rw [h1] at e
  simp only at e
  split at e
  ·rename_i en
   cases h2:mlook l m.1 with
   | none=>rw [h2] at e;cases e
   | some v =>
    rw [h2] at e;cases e
    simp only
    split
    ·rename_i hlt;rw [en];constructor
     ·intro;omega
     ·intro hh;exact absurd hlt hh
    ·rename_i hlt;rw [en];simp [hlt]
  ·cases e
theorem AbS.com {a:Ab} (h:AbS a) {n:Nat} {now:Int} (ht:0≤now):AbS (a.com n now):=fun m x e=>by
 have hl:(a.com n now).last m.1=if a.has (m.1,n)=true∧a.last m.1<n then n else a.last m.1:=by
  show (if _ then some n else a.l m.1).getD 0=_
  by_cases hc:a.has (m.1,n)=true∧a.last m.1<n
  ·rw [if_pos hc,if_pos hc];rfl
  ·rw [if_neg hc,if_neg hc];rfl
 rw [hl]
 simp -implicitDefEqProofs only [Ab.com] at e
 cases h1:a.v m with
 | none=>rw [h1] at e;cases e
 | some y =>
  have hy:=h m y h1
  rw [h1] at e;simp -implicitDefEqProofs only [Option.map_some,Option.some.injEq] at e;subst e
  by_cases hc:a.has (m.1,n)=true∧a.last m.1<n
  ·rw [if_pos hc]
   by_cases hs:y.stamp=-1
   ·by_cases hm:m.2<n
    ·rw [if_pos ⟨hs,hc.1,hc.2,hm⟩];simp only;constructor
     ·intro;omega
     ·intro hh;exact absurd hm hh
    ·rw [if_neg fun hh=>hm hh.2.2.2];exact ⟨fun _=>hm,fun _=>hs⟩
   ·rw [if_neg fun hh=>hs hh.1]
    have:m.2<a.last m.1:=Decidable.of_not_not fun hh=>hs (hy.2 hh)
    constructor
    ·intro hh;exact absurd hh hs
    ·intro hh;omega
  ·rw [if_neg hc,if_neg fun hh=>hc ⟨hh.2.1,hh.2.2.1⟩];exact hy
theorem put_0 (a:Ab) (n:Nat) (ks:List ByteArray) (now:Int):a.put n [] ks now=a:=ab_ext (fun m=>by
 simp -implicitDefEqProofs only [Ab.put,mlook_nil,Option.map_none]
 cases a.v m <;> simp) fun _=>rfl
theorem mlook_app {α β:Type} [DecidableEq α] (es:List (α × β)) (k k':α) (v:β):mlook (es++[(k,v)]) k'=(mlook es k').or (if k'=k then some v else none):=by
 induction es with
 | nil=>simp [mlook_cons,mlook_nil]
 | cons e es ih =>
  rw [List.cons_append,mlook_cons,mlook_cons,ih]
  split <;> simp
theorem put_v (a:Ab) (n:Nat) (l:List (ByteArray × ByteArray)) (ks:List ByteArray) (now:Int) (m:Nm):(a.put n l ks now).v m=(a.v m).or (if m.2=n then (mlook l m.1).map fun v=>⟨v,ks,if n<a.last m.1 then now else -1⟩ else none):=by
 simp -implicitDefEqProofs only [Ab.put]
 cases a.v m <;> rfl
theorem last_com (a:Ab) (n:Nat) (now:Int) (k:ByteArray):(a.com n now).last k=if a.has (k,n)=true∧a.last k<n then n else a.last k:=by
 show (if _ then some n else a.l k).getD 0=_
 by_cases hc:a.has (k,n)=true∧a.last k<n
 ·rw [if_pos hc,if_pos hc];rfl
 ·rw [if_neg hc,if_neg hc];rfl
structure Kd where
 key:ByteArray
 id:Nat
 value:ByteArray
 kk:SK
 keys:List ByteArray
 stamp:Int
def Kd.nm (x:Kd):Nm:=(x.key,x.id)
def Kd.vd (x:Kd):Vd:=⟨x.value,x.keys,x.stamp⟩
def eKd (x:Kd):List T:=[.str x.key,.int .u64 x.id,.str x.value,.sl x.kk (x.keys.map eS),.int .i64 x.stamp]
def KdOk (x:Kd):Prop:=KOk x.kk x.keys∧x.keys.length≤8000000
def LdOk (a:Ab) (x:Kd):Prop:=65536≤x.id∧GoodKeys x.keys∧x.key∈x.keys∧x.value.size≤65535∧if x.id<a.last x.key then TickOk x.stamp else x.stamp=-1
set_option maxHeartbeats 8000000 in
theorem loads40 {b:Bk} {a:Ab} {F:Nat→Prop} {m:Nat} (x:Kd) (hx:KdOk x) {H:Heap} (h:AtS H b a F m):W env (.call 28 [.ptr b.s 0,.agg (eKd x)]) H (fun o H'=>Ext H H'∧∃ t,o=.val (.bool t)∧(t=true↔LdOk a x)):=by
 obtain ⟨s,⟨im,pm,sa⟩,hi,rfl,h4,h5⟩:=h
 have l0:=glt sa.hs
 have ll:=glt sa.hl
 have l01:b.s<H.length+1:=by omega
 have l02:b.s<H.length+2:=by omega
 have ll1:b.l<H.length+1:=by omega
 have ll2:b.l<H.length+2:=by omega
 have hll:=lkp_last s x.key
 have hlast:(absS s).last x.key=lastOf s x.key:=rfl
 have hxx:Ext H (H++[B.cells (eKd x)]++[B.cells [.str x.key,.int .u64 x.id,.str x.value,.sl x.kk (x.keys.map eS)]]):=(Ext.rfl'.app _).app _
 have no:¬ LdOk (absS s) x→((false:Bool)=true↔LdOk (absS s) x):=fun h=>⟨fun e=>(by cases e),fun e=>absurd e h⟩
 have c0:(H++[B.cells (eKd x)]++[B.cells [.str x.key,.int .u64 x.id,.str x.value,.sl x.kk (x.keys.map eS)]])[H.length]?=some (.cells (eKd x)):=by rw [g_app (by simp),g_tail rfl]
 simp -implicitDefEqProofs only [eKd] at hxx c0
 refine W.fnI rfl rfl rfl ?_
 by_cases hid:x.id<65536
 ·simp -implicitDefEqProofs only [ir28,eKd,op,ef,cl,sq,reduceIte,j2,j3,j4,j5,j6,j7,j8,j9,y1,S1,S2,hid]
  exact ⟨hxx,false,rfl,no fun h=>by have:=h.1;omega⟩
 simp -implicitDefEqProofs only [ir28,eKd,op,ef,cl,sq,reduceIte,j2,j3,j4,j5,j6,j7,j8,j9,y1,S1,S2,hid]
 refine callB_of _ _ _ _ _ _ _ _ (rising57 x.kk x.keys _ (by have:=hx.2;omega)) ?_
 rintro u H1 ⟨hu,rfl⟩
 cases hu
 cases hg:goodB x.keys
 ·simp -implicitDefEqProofs only [op,ef,cl,sq,reduceIte,j2,j3,j4,j5,j6,j7,j8,j9,y1,S1,S2]
  exact ⟨hxx,false,rfl,no fun h=>by have:=goodB_iff.2 h.2.1;rw [hg] at this;cases this⟩
 have hgk:=goodB_iff.1 hg
 simp -implicitDefEqProofs only [op,ef,cl,sq,reduceIte,j2,j3,j4,j5,j6,j7,j8,j9,y1,S1,S2]
 refine callB_of _ _ _ _ _ _ _ _ (has58 x.kk x.keys x.key _ (by have:=hx.2;omega) hgk.rises) ?_
 rintro u H1 ⟨hu,rfl⟩
 cases hu
 cases hm:memB x.keys x.key
 ·simp -implicitDefEqProofs only [op,ef,cl,sq,reduceIte,j2,j3,j4,j5,j6,j7,j8,j9,y1,S1,S2]
  exact ⟨hxx,false,rfl,no fun h=>memB_no.1 hm h.2.2.1⟩
 by_cases hsz:65535<x.value.size
 ·simp -implicitDefEqProofs only [op,ef,cl,sq,reduceIte,j2,j3,j4,j5,j6,j7,j8,j9,y1,S1,S2,hsz]
  exact ⟨hxx,false,rfl,no fun h=>by have:=h.2.2.2.1;omega⟩
 have ok:∀ t:Bool,(t=true↔if x.id<lastOf s x.key then TickOk x.stamp else x.stamp=-1)→(t=true↔LdOk (absS s) x):=fun t ht=>by
  rw [ht]
  exact ⟨fun h=>⟨by omega,hgk,memB_iff.1 hm,by omega,h⟩,fun h=>h.2.2.2.2⟩
 by_cases hlt:x.id<lastOf s x.key
 ·simp -implicitDefEqProofs only [op,ef,cl,sq,reduceIte,j2,j3,j4,j5,j6,j7,j8,j9,y1,S1,S2,hsz,sa.hs,sa.hl,l0,l01,l02,ll,ll1,ll2,lkpB_M,hll,hlt,c0]
  refine callB_of _ _ _ _ _ _ _ _ (tick31 x.stamp _) ?_
  rintro u H1 ⟨hu,rfl⟩
  cases hu
  simp -implicitDefEqProofs only [op,ef,cl,sq,reduceIte,j2,j3,j4,j5,j6,j7,j8,j9,y1,S1]
  exact ⟨hxx,_,rfl,ok _ (by rw [if_pos hlt];simp [TickOk])⟩
 ·simp -implicitDefEqProofs only [op,ef,cl,sq,reduceIte,j2,j3,j4,j5,j6,j7,j8,j9,y1,S1,S2,hsz,sa.hs,sa.hl,l0,l01,l02,ll,ll1,ll2,lkpB_M,hll,hlt,c0]
  exact ⟨hxx,_,rfl,ok _ (by rw [if_neg hlt];simp)⟩
theorem pw_take_s {α:Type} {R:α→α→Prop} (tr:∀ a b c,R a b→R b c→R a c) {l:List α} {i:Nat} {x:α} (hx:l[i]?=some x):(l.take (i+1)).Pairwise R↔(l.take i).Pairwise R∧(0<i→∀ y,l[i-1]?=some y→R y x):=by
 rw [take_sn hx,List.pairwise_append]
 constructor
 ·rintro ⟨h1,_,h3⟩
  exact ⟨h1,fun h0 y hy=>h3 y (List.mem_of_getElem? (i:=i-1) (by rw [List.getElem?_take,if_pos (by omega)];exact hy)) x (by simp)⟩
 ·rintro ⟨h1,h2⟩
  refine ⟨h1,by simp,fun a ha c hc=>?_⟩
  simp -implicitDefEqProofs only [List.mem_singleton] at hc;subst hc
  have hi:=(List.getElem?_eq_some_iff.1 hx).1
  by_cases h0:0<i
  ·obtain ⟨y,hy⟩:=getP (l:=l) (i:=i-1) (by omega)
   have e:l.take i=l.take (i-1)++[y]:=by rw [← take_sn hy,Nat.sub_add_cancel h0]
   rw [e] at h1 ha
   rw [List.pairwise_append] at h1
   rcases List.mem_append.1 ha with ha | ha
   ·exact tr _ _ _ (h1.2.2 a ha y (by simp)) (h2 h0 y hy)
   ·simp -implicitDefEqProofs only [List.mem_singleton] at ha;subst ha;exact h2 h0 a hy
  ·have:i=0:=by omega
   subst this;simp at ha
def lastsUp (ls:List Nm):Prop:=ls.Pairwise (fun a b=>strLt a.1 b.1=true)
def keptUp (l:List Kd):Prop:=l.Pairwise (fun x y=>ltM x.nm y.nm=true)
def kdL (l:List Kd):List (Nm × Vd):=l.map fun x=>(x.nm,x.vd)
def ldAb (kept:List Kd) (lasts:List Nm):Ab:=⟨fun m=>mlook (kdL kept) m,fun k=>mlook lasts k⟩
def LoadOk (kept:List Kd) (lasts:List Nm):Prop:=lastsUp lasts∧keptUp kept∧(∀ x∈kept,LdOk (ldAb [] lasts) x)∧∀ e∈lasts,∃ x∈kept,x.nm=e
theorem lastsUp.nd {ls:List Nm} (h:lastsUp ls):(ls.map (·.1)).Nodup:=List.pairwise_map.2 (h.imp fun {a b} hab e=>by rw [e,lt_irr] at hab;cases hab)
theorem kdL_key (l:List Kd):(kdL l).map (·.1)=l.map Kd.nm:=by simp [kdL,Function.comp_def]
theorem keptUp.nd {l:List Kd} (h:keptUp l):(l.map Kd.nm).Nodup:=List.pairwise_map.2 (h.imp fun {a b} hab e=>by rw [e,ltM_irr] at hab;cases hab)
theorem mlook_in {α β:Type} [DecidableEq α] {es:List (α × β)} {k:α} {v:β} (h:mlook es k=some v):(k,v)∈es:=by
 induction es with
 | nil=>cases h
 | cons e es ih =>
  rw [mlook_cons] at h
  split at h
  ·rename_i e2;cases h;rw [e2];exact List.mem_cons_self
  ·exact List.mem_cons_of_mem _ (ih h)
theorem ldOk_l {a a':Ab} (h:a.l=a'.l) (x:Kd):LdOk a x↔LdOk a' x:=by
 have:a.last=a'.last:=by funext k;simp [Ab.last,h]
 unfold LdOk;rw [this]
theorem mlook_app' {α β:Type} [DecidableEq α] (es:List (α × β)) (e:α × β) (k':α):mlook (es++[e]) k'=(mlook es k').or (if k'=e.1 then some e.2 else none):=mlook_app es e.1 k' e.2
theorem AtS.last1 {H:Heap} {b:Bk} {a:Ab} {F:Nat→Prop} {m:Nat} (h:AtS H b a F m) (k:ByteArray) (n:Nat):∃ im,H[b.s]?=some (.cells [.map b.v,.map b.i,.map b.p,.map b.l])∧H[b.l]?=some (.map (encK T.str im))∧F b.l ∧
  AtS (H.set b.l (.map (encK T.str (mput im k (.int .u64 n))))) b ⟨a.v,fun k'=>if k'=k then some n else a.l k'⟩ F m:=by
 obtain ⟨s,⟨im,pm,sa⟩,hi,rfl,h4,h5⟩:=h
 refine ⟨encL s.ls,sa.hs,sa.hl,sa.F0.2.2.2.2,{ s with ls:=mput s.ls k n },⟨im,pm,?_⟩,?_,?_,h4,h5⟩
 ·have e:mput (encL s.ls) k (T.int .u64 n)=encL (mput s.ls k n):=mput_map (fun n:Nat=>T.int .u64 n) s.ls k n
  rw [e];exact sa.setl _
 ·exact VS.inv (v':=s.vs) (now:=0) hi (VS.nil hi.nd) _ (mput_nodup hi.ndl _ _)
 ·refine ab_ext (fun m=>rfl) fun k'=>?_
  simp -implicitDefEqProofs only [absS,mlook_put]
theorem putL {b:Bk} {a:Ab} {F:Nat→Prop} {m:Nat} (x:Kd) (kk:SK) {H:Heap} (h:AtS H b a F m) (hn:m+1≤8000000) (hk:KOk kk x.keys) (hl:x.keys.length≤1024) (hno:a.v x.nm=none) :
  W env (.call 29 [.ptr b.s 0,.agg [.str x.key,.int .u64 x.id],.agg [.str x.value,.sl kk (x.keys.map eS),.int .i64 x.stamp]]) H (fun o H'=>o=.val (.tup [])∧∃ F',AtS H' b ⟨fun m'=>if m'=x.nm then some x.vd else a.v m',a.l⟩ F' (m+1)∧Frm F H H'∧Gro F F' H H'):=by
 obtain ⟨s,sh,hi,rfl,h4,h5⟩:=h
 have hno':mlook s.vs (x.key,x.id)=none:=by simpa [absS,Kd.nm] using hno
 refine W.use (put41 b s F x.key x.id ⟨x.value,kk,x.keys,x.stamp⟩ H sh hi hno' (by omega) ⟨hk,hl⟩) fun o H' ⟨hu,s',F',sh',hi',hvs,hls,hn',hfr,hg⟩=>⟨hu,F',⟨s',sh',hi',?_,by omega,?_⟩,hfr,hg⟩
 ·refine ab_ext (fun m'=>?_) fun k=>by simp -implicitDefEqProofs only [absS,hls]
  have e0:(x.key,x.id)=x.nm:=rfl
  simp -implicitDefEqProofs only [absS,hvs,mlook_put,e0]
  by_cases e:m'=x.nm
  ·rw [if_pos e,if_pos e];rfl
  ·rw [if_neg e,if_neg e]
 ·rw [hvs]
  have:∀ (es:List (Nm × Hd)) k v,(mput es k v).length≤es.length+1:=fun es k v=>by unfold mput;split <;> simp
  have:=this s.vs (x.key,x.id) ⟨x.value,kk,x.keys,x.stamp⟩
  omega
def LoadQ (kept:List Kd) (lasts:List Nm) (H:Heap):Out→Heap→Prop:=fun o H' =>
 (LoadOk kept lasts∧∃ b F,o=.val (.tup [.ptr b.s 0,.int .i64 0])∧Prv H H' b (ldAb kept lasts) F kept.length)∨(¬ LoadOk kept lasts∧o=.val (.tup [.nilp,.int .i64 1])∧Ext H H')
set_option maxHeartbeats 2000000 in
theorem load26 (k1 k2:SK) (kept:List Kd) (lasts:List Nm) (hkl:kept.length≤8000000) (hll:lasts.length≤8000000) (hko:∀ x∈kept,KdOk x) (H:Heap):W env (.call 6 [.sl k1 (kept.map eKd),.sl k2 (lasts.map eW)]) H (LoadQ kept lasts H):=by
 refine W.fnI rfl rfl rfl ?_
 simp -implicitDefEqProofs only [ir6,op,ef,cl,sq,reduceIte,j2,j3,j4,j5,j6,j7,j8,j9,y1,S1]
 refine callB_of _ _ _ _ _ _ _ _ (newA _) ?_
 rintro u H1 ⟨hx1,b,F,hu,v1,nF⟩
 cases hu
 have p1:Prv H H1 b Ab.emp F 0:=⟨v1,ext_frm hx1,nF⟩
 simp -implicitDefEqProofs only [op,ef,cl,sq,reduceIte,j2,j3,j4,j5,j6,j7,j8,j9,y1,S1,List.length_map]
 refine W.loopX 0 [(0,_),(1,_),(6,_),(17,_),(18,_)] (fun (i:Nat) R H'=>At H' (fun H'=>Prv H H' b (ldAb [] (lasts.take i)) F 0∧lastsUp (lasts.take i))∧R 19=.int .i64 i∧i≤lasts.length) (fun i=>lasts.length-i) 0
  (fun R H'=>At H' (fun H'=>Prv H H' b (ldAb [] lasts) F 0∧lastsUp lasts)) ⟨.i ⟨by rw [List.take_zero];exact p1,by rw [List.take_zero];exact List.Pairwise.nil⟩,rfl,Nat.zero_le _⟩ ?_ ?_
 ·rintro i R H2 ⟨⟨p2,hup⟩,g19,hi⟩
  by_cases hlt:i<lasts.length
  ·obtain ⟨e,he⟩:=getP hlt
   have ie:=iadX (e:=eW) (n:=2) (fun _=>rfl) (by decide) (k:=k2) he
   have wsi:=wrap_succ (show i<9223372036854775807 by omega)
   have hst:=pw_take_s (R:=fun a b:Nm=>strLt a.1 b.1=true) (fun a b c h1 h2=>lt_trans' h1 h2) he
   have hxa:Ext H2 (H2++[.cells [.str e.1,.int .u64 e.2]]):=⟨_,rfl⟩
   have hbad:¬ lastsUp (lasts.take (i+1))→¬ LoadOk kept lasts:=fun h hl=>h (hl.1.sublist (List.take_sublist _ _))
   have go:(0<i→∀ y,lasts[i-1]?=some y→strLt y.1 e.1=true)→lastsUp (lasts.take (i+1)):=fun h=>hst.2 ⟨hup,h⟩
   obtain ⟨im,hs,hl,hF,hat⟩:=(p2.at_.ext hxa).last1 e.1 e.2
   have hk:(0<i→∀ y,lasts[i-1]?=some y→strLt y.1 e.1=true)→AtS ((H2++[B.cells [.str e.1,.int .u64 e.2]]).set b.l (.map (encK T.str (mput im e.1 (.int .u64 e.2))))) b (ldAb [] (lasts.take (i+1))) F 0:=fun h=>by
    have e1:ldAb [] (lasts.take (i+1))=⟨(ldAb [] (lasts.take i)).v,fun k'=>if k'=e.1 then some e.2 else (ldAb [] (lasts.take i)).l k'⟩:=by
     refine ab_ext (fun m=>rfl) fun k'=>?_
     have hnd:=(go h).nd
     rw [take_sn he,List.map_append,List.nodup_append] at hnd
     have hno:mlook (lasts.take i) e.1=none:=mlook_none.2 fun hh=>hnd.2.2 _ hh e.1 (by simp) rfl
     simp -implicitDefEqProofs only [ldAb,take_sn he,mlook_app']
     by_cases e2:k'=e.1
     ·subst e2;simp [hno]
     ·simp -implicitDefEqProofs only [e2,if_false];cases mlook (lasts.take i) k' <;> rfl
    rw [e1];exact hat
   have hnew:∀ h,Prv H ((H2++[B.cells [.str e.1,.int .u64 e.2]]).set b.l (.map (encK T.str (mput im e.1 (.int .u64 e.2))))) b (ldAb [] (lasts.take (i+1))) F 0:=fun h=>(p2.ext hxa).go' (hk h) ((Frm.refl F _).set (.inl hF) _)
   have lb:=glt hs
   have lbl:=glt hl
   simp -implicitDefEqProofs only [List.length_append,List.length_cons,List.length_nil] at lb lbl
   by_cases hi0:0<i
   ·obtain ⟨y,hy⟩:=getP (l:=lasts) (i:=i-1) (by omega)
    have wp:=wrap_pred (show i<9223372036854775807 by omega) hi0
    have iy:=iadX (e:=eW) (n:=2) (fun _=>rfl) (by decide) (k:=k2) hy
    cases hc:strLt y.1 e.1
    ·simp -implicitDefEqProofs only [mkR_nil,mkR_cons,op,ef,cl,sq,reduceIte,j2,j3,j4,j5,j6,j7,j8,j9,y1,S1,S2,g19,hlt,natOf_nat,ie,iy,eW,hi0,wp,hc]
     exact .inr ⟨hbad fun h=>(by have:=(hst.1 h).2 hi0 y hy;rw [hc] at this;cases this),rfl,frm_ext (p2.ext hxa).frm⟩
    ·have hall:0<i→∀ y,lasts[i-1]?=some y→strLt y.1 e.1=true:=fun _ y' hy'=>by rw [hy] at hy';cases hy';exact hc
     simp -implicitDefEqProofs only [mkR_nil,mkR_cons,op,ef,cl,sq,reduceIte,j2,j3,j4,j5,j6,j7,j8,j9,y1,S1,S2,g19,hlt,natOf_nat,ie,iy,eW,hi0,wp,hc,hs,hl,lb,lbl,upmB_M,wsi]
     exact ⟨i+1,by omega,.i ⟨hnew hall,go hall⟩,rfl,by omega⟩
   ·have hall:0<i→∀ y,lasts[i-1]?=some y→strLt y.1 e.1=true:=fun h=>absurd h hi0
    simp -implicitDefEqProofs only [mkR_nil,mkR_cons,op,ef,cl,sq,reduceIte,j2,j3,j4,j5,j6,j7,j8,j9,y1,S1,S2,g19,hlt,natOf_nat,ie,eW,hi0,hs,hl,lb,lbl,upmB_M,wsi]
    exact ⟨i+1,by omega,.i ⟨hnew hall,go hall⟩,rfl,by omega⟩
  ·have hie:i=lasts.length:=by omega
   subst hie
   rw [List.take_length] at p2 hup
   simp -implicitDefEqProofs only [mkR_nil,mkR_cons,op,ef,cl,sq,reduceIte,j2,j3,j4,j5,j6,j7,j8,j9,y1,S1,g19,hlt]
   exact .i ⟨p2,hup⟩
 rintro R H2 ⟨p2,hlup⟩
 simp -implicitDefEqProofs only [mkR_nil,mkR_cons,op,ef,cl,sq,reduceIte,j2,j3,j4,j5,j6,j7,j8,j9,y1,S1,List.length_map]
 refine W.loopX 2 [(0,_),(6,_),(46,_),(47,_)] (fun (j:Nat) R H'=>At H' (fun H'=>∃ F',Prv H H' b (ldAb (kept.take j) lasts) F' j∧keptUp (kept.take j)∧∀ x∈kept.take j,LdOk (ldAb [] lasts) x)∧R 48=.int .i64 j∧j≤kept.length) (fun j=>kept.length-j) 0
  (fun R H'=>At H' (fun H'=>∃ F',Prv H H' b (ldAb kept lasts) F' kept.length∧keptUp kept∧∀ x∈kept,LdOk (ldAb [] lasts) x)) ⟨.i ⟨F,p2,by rw [List.take_zero];exact List.Pairwise.nil,by simp⟩,rfl,Nat.zero_le _⟩ ?_ ?_
 ·rintro j R H3 ⟨⟨F',p3,hup,hld⟩,g48,hj⟩
  by_cases hlt:j<kept.length
  ·obtain ⟨x,hx⟩:=getP hlt
   have ix:=iadX (e:=eKd) (n:=5) (fun _=>rfl) (by decide) (k:=k1) hx
   have wsj:=wrap_succ (show j<9223372036854775807 by omega)
   have hst:=pw_take_s (R:=fun x y:Kd=>ltM x.nm y.nm=true) (fun a b c h1 h2=>ltM_trans h1 h2) hx
   have hxko:=hko x (List.mem_of_getElem? hx)
   have hbad:¬ (keptUp (kept.take (j+1))∧LdOk (ldAb [] lasts) x)→¬ LoadOk kept lasts:=fun h hl=>h ⟨hl.2.1.sublist (List.take_sublist _ _),hl.2.2.1 x (List.mem_of_getElem? hx)⟩
   have hxa:Ext H3 (H3++[.cells [.str x.key,.int .u64 x.id,.str x.value,.sl x.kk (x.keys.map eS),.int .i64 x.stamp]]++[.cells [.str x.key,.int .u64 x.id]]):=(Ext.rfl'.app _).app _
   have c0:(H3++[B.cells [.str x.key,.int .u64 x.id,.str x.value,.sl x.kk (x.keys.map eS),.int .i64 x.stamp]]++[B.cells [.str x.key,.int .u64 x.id]])[H3.length]?=some (.cells [.str x.key,.int .u64 x.id,.str x.value,.sl x.kk (x.keys.map eS),.int .i64 x.stamp]):=by rw [g_app (by simp),g_tail rfl]
   have c1:(H3++[B.cells [.str x.key,.int .u64 x.id,.str x.value,.sl x.kk (x.keys.map eS),.int .i64 x.stamp]]++[B.cells [.str x.key,.int .u64 x.id]])[H3.length+1]?=some (.cells [.str x.key,.int .u64 x.id]):=g_tail (by simp)
   have p4:=p3.ext hxa
   have hlen4:(H3++[B.cells [.str x.key,.int .u64 x.id,.str x.value,.sl x.kk (x.keys.map eS),.int .i64 x.stamp]]++[B.cells [.str x.key,.int .u64 x.id]]).length=H3.length+2:=by simp
   simp -implicitDefEqProofs only [mkR_nil,mkR_cons,op,ef,cl,sq,reduceIte,j2,j3,j4,j5,j6,j7,j8,j9,y1,S1,S2,S3,g48,hlt,natOf_nat,ix,eKd]
   generalize H3++[B.cells [.str x.key,.int .u64 x.id,.str x.value,.sl x.kk (x.keys.map eS),.int .i64 x.stamp]]++[B.cells [.str x.key,.int .u64 x.id]]=H4 at *
   have fin:∀ H5,Ext H4 H5→keptUp (kept.take (j+1))→(ldAb (kept.take j) lasts).v x.nm=none∧ldAb (kept.take (j+1)) lasts=⟨fun m'=>if m'=x.nm then some x.vd else (ldAb (kept.take j) lasts).v m',(ldAb (kept.take j) lasts).l⟩:=fun H5 _ hu=>by
    have hnd:=hu.nd
    rw [take_sn hx,List.map_append,List.nodup_append] at hnd
    have hno:mlook (kdL (kept.take j)) x.nm=none:=mlook_none.2 fun hh=>by
     rw [kdL_key] at hh
     exact hnd.2.2 _ hh x.nm (by simp) rfl
    refine ⟨hno,ab_ext (fun m=>?_) fun _=>rfl⟩
    have:kdL (kept.take (j+1))=kdL (kept.take j)++[(x.nm,x.vd)]:=by rw [take_sn hx];simp [kdL]
    simp -implicitDefEqProofs only [ldAb,this,mlook_app']
    by_cases e2:m=x.nm
    ·subst e2;simp [hno]
    ·simp -implicitDefEqProofs only [e2,if_false];cases mlook (kdL (kept.take j)) m <;> rfl
   have lld:(ldAb (kept.take j) lasts).l=(ldAb [] lasts).l:=rfl
   by_cases hj0:0<j
   ·obtain ⟨y,hy⟩:=getP (l:=kept) (i:=j-1) (by omega)
    have wp:=wrap_pred (show j<9223372036854775807 by omega) hj0
    have iy:=iadX (e:=eKd) (n:=5) (fun _=>rfl) (by decide) (k:=k1) hy
    simp -implicitDefEqProofs only [mkR_nil,mkR_cons,op,ef,cl,sq,reduceIte,j2,j3,j4,j5,j6,j7,j8,j9,y1,S1,g48,natOf_nat,hj0,wp,iy,eKd,c0,c1]
    refine callB_of _ _ _ _ _ _ _ _ (byName36 y.nm x.nm _) ?_
    rintro u H5 ⟨hu,hx5⟩
    cases hu
    have hx5:Ext H4 H5:=hx5
    have p5:=p4.ext hx5
    have c05:=hx5.get c0
    have c15:=hx5.get c1
    have hcm:decide (0≤cmpM y.nm x.nm)=!ltM y.nm x.nm:=by
     unfold ltM
     rw [Bool.eq_iff_iff];simp
    cases hc:ltM y.nm x.nm
    ·rw [hc] at hcm
     simp -implicitDefEqProofs only [mkR_nil,mkR_cons,op,ef,cl,sq,reduceIte,j2,j3,j4,j5,j6,j7,j8,j9,y1,S1,hcm]
     exact .inr ⟨hbad fun h=>(by have:=(hst.1 h.1).2 hj0 y hy;rw [hc] at this;cases this),rfl,frm_ext p5.frm⟩
    ·rw [hc] at hcm
     have hup':keptUp (kept.take (j+1)):=hst.2 ⟨hup,fun _ y' hy'=>by rw [hy] at hy';cases hy';exact hc⟩
     simp -implicitDefEqProofs only [mkR_nil,mkR_cons,op,ef,cl,sq,reduceIte,j2,j3,j4,j5,j6,j7,j8,j9,y1,S1,hcm,g48,c05]
     refine callB_of _ _ _ _ _ _ _ _ (loads40 x hxko p5.at_) ?_
     rintro u H6 ⟨hx6,t,hu,ht⟩
     cases hu
     have htt:=ht.trans (ldOk_l lld x)
     obtain ⟨hno,hnx⟩:=fin _ hx5 hup'
     cases t
     ·simp -implicitDefEqProofs only [mkR_nil,mkR_cons,op,ef,cl,sq,reduceIte,j2,j3,j4,j5,j6,j7,j8,j9,y1,S1]
      exact .inr ⟨hbad fun h=>(by have:=htt.2 h.2;cases this),rfl,frm_ext (p5.ext hx6).frm⟩
     ·have c06:=hx6.get c05
      have c16:=hx6.get c15
      have hgk:=(htt.1 rfl).2.1.2.2
      simp -implicitDefEqProofs only [mkR_nil,mkR_cons,op,ef,cl,sq,reduceIte,j2,j3,j4,j5,j6,j7,j8,j9,y1,S1,g48,c06,c16]
      refine callB_of _ _ _ _ _ _ _ _ (clone42 x.kk x.keys _ hxko.1 (by omega)) ?_
      rintro u H7 ⟨hx7,kk,hkk,hu⟩
      cases hu
      have p7:=(p5.ext hx6).ext hx7
      have c07:=hx7.get c06
      have c17:=hx7.get c16
      simp -implicitDefEqProofs only [mkR_nil,mkR_cons,op,ef,cl,sq,reduceIte,j2,j3,j4,j5,j6,j7,j8,j9,y1,S1,c07,c17]
      refine callB_of _ _ _ _ _ _ _ _ (putL x kk p7.at_ (by omega) hkk hgk hno) ?_
      rintro u H8 ⟨hu,F8,a8,f8,g8⟩
      cases hu
      rw [← hnx] at a8
      simp -implicitDefEqProofs only [mkR_nil,mkR_cons,op,ef,cl,sq,reduceIte,j2,j3,j4,j5,j6,j7,j8,j9,y1,S1,g48,wsj]
      refine ⟨j+1,by omega,.i ⟨F8,p7.go a8 f8 g8,hup',fun z hz=>?_⟩,rfl,by omega⟩
      rw [take_sn hx] at hz
      rcases List.mem_append.1 hz with hz | hz
      ·exact hld z hz
      ·simp -implicitDefEqProofs only [List.mem_singleton] at hz;subst hz;exact htt.1 rfl
   ·have hup':keptUp (kept.take (j+1)):=hst.2 ⟨hup,fun h=>absurd h hj0⟩
    have p5:=p4
    have c05:=c0
    have c15:=c1
    have hx5:Ext H4 H4:=Ext.rfl'
    simp -implicitDefEqProofs only [mkR_nil,mkR_cons,op,ef,cl,sq,reduceIte,j2,j3,j4,j5,j6,j7,j8,j9,y1,S1,hj0,g48,c05]
    refine callB_of _ _ _ _ _ _ _ _ (loads40 x hxko p5.at_) ?_
    rintro u H6 ⟨hx6,t,hu,ht⟩
    cases hu
    have htt:=ht.trans (ldOk_l lld x)
    obtain ⟨hno,hnx⟩:=fin _ hx5 hup'
    cases t
    ·simp -implicitDefEqProofs only [mkR_nil,mkR_cons,op,ef,cl,sq,reduceIte,j2,j3,j4,j5,j6,j7,j8,j9,y1,S1]
     exact .inr ⟨hbad fun h=>(by have:=htt.2 h.2;cases this),rfl,frm_ext (p5.ext hx6).frm⟩
    ·have c06:=hx6.get c05
     have c16:=hx6.get c15
     have hgk:=(htt.1 rfl).2.1.2.2
     simp -implicitDefEqProofs only [mkR_nil,mkR_cons,op,ef,cl,sq,reduceIte,j2,j3,j4,j5,j6,j7,j8,j9,y1,S1,g48,c06,c16]
     refine callB_of _ _ _ _ _ _ _ _ (clone42 x.kk x.keys _ hxko.1 (by omega)) ?_
     rintro u H7 ⟨hx7,kk,hkk,hu⟩
     cases hu
     have p7:=(p5.ext hx6).ext hx7
     have c07:=hx7.get c06
     have c17:=hx7.get c16
     simp -implicitDefEqProofs only [mkR_nil,mkR_cons,op,ef,cl,sq,reduceIte,j2,j3,j4,j5,j6,j7,j8,j9,y1,S1,c07,c17]
     refine callB_of _ _ _ _ _ _ _ _ (putL x kk p7.at_ (by omega) hkk hgk hno) ?_
     rintro u H8 ⟨hu,F8,a8,f8,g8⟩
     cases hu
     rw [← hnx] at a8
     simp -implicitDefEqProofs only [mkR_nil,mkR_cons,op,ef,cl,sq,reduceIte,j2,j3,j4,j5,j6,j7,j8,j9,y1,S1,g48,wsj]
     refine ⟨j+1,by omega,.i ⟨F8,p7.go a8 f8 g8,hup',fun z hz=>?_⟩,rfl,by omega⟩
     rw [take_sn hx] at hz
     rcases List.mem_append.1 hz with hz | hz
     ·exact hld z hz
     ·simp -implicitDefEqProofs only [List.mem_singleton] at hz;subst hz;exact htt.1 rfl
  ·have hje:j=kept.length:=by omega
   subst hje
   rw [List.take_length] at p3 hup hld
   simp -implicitDefEqProofs only [mkR_nil,mkR_cons,op,ef,cl,sq,reduceIte,j2,j3,j4,j5,j6,j7,j8,j9,y1,S1,g48,hlt]
   exact .i ⟨F',p3,hup,hld⟩
 rintro R H3 ⟨F',p3,hkup,hld⟩
 obtain ⟨s,⟨im,pm,sa⟩,hi,habs,hn3,hv3⟩:=p3.at_
 have hls:∀ k,mlook s.ls k=mlook lasts k:=fun k=>by have:=congrFun (congrArg Ab.l habs) k;exact this
 have hvs:∀ m,(mlook s.vs m).isSome=(mlook (kdL kept) m).isSome:=fun m=>by
  have:=congrFun (congrArg Ab.v habs) m
  have h2:(mlook s.vs m).map Hd.vd=mlook (kdL kept) m:=this
  rw [← h2];simp
 obtain ⟨es,hes⟩:∃ es,es=encL s.ls:=⟨_,rfl⟩
 have hel:(encK T.str es).length=es.length:=by simp [encK]
 have hnd:(es.map (·.1)).Nodup:=by rw [hes];simpa [encL,Function.comp_def] using hi.ndl
 have l0:=glt sa.hs
 have ll:=glt sa.hl
 have lv:=glt sa.hv
 have hml:=sa.hl
 rw [← hes] at hml
 have hls0:b.s≠b.l:=by rintro e;have:=sa.hs;rw [e,sa.hl] at this;cases this
 have hli:b.l≠H3.length:=by omega
 simp -implicitDefEqProofs only [mkR_nil,mkR_cons,op,ef,cl,sq,reduceIte,j2,j3,j4,j5,j6,j7,j8,j9,y1,S1,sa.hs,hml]
 refine W.loopV [(6,_),(106,_)] (fun (vis:List ByteArray) R H'=>At H' (fun H'=>∃ ix cur,RI es ix vis∧H'[b.l]?=some (.rmap (encK T.str es) ix H3.length cur)∧H'[H3.length]?=some (.itr b.l)∧Frm (fun c=>c=b.l) H3 H'∧∀ e∈s.ls,e.1∈vis→(mlook s.vs e).isSome=true)) (fun vis=>es.length-vis.length) [] ?_ ?_
 ·refine .i ⟨List.range (encK T.str es).length,none,by rw [hel];exact RI.start es,?_,?_,?_,by simp⟩
  ·rw [g_app (by simpa using ll),g_eq ll]
  ·rw [g_tail (by simp)]
  ·exact ((Frm.refl (fun c=>c=b.l) H3).set (.inl rfl) _).app _
 rintro vis R H5 ⟨ix,cur,hri,hm,hit,hfr,hch⟩
 have lm:=glt hm
 have li:=glt hit
 simp -implicitDefEqProofs only [mkR_nil,mkR_cons,op,ef,cl,sq,reduceIte,j2,j3,j4,j5,j6,j7,j8,j9,y1,S1]
 refine step_x _ _ _ _ _ _ _ (by simp -implicitDefEqProofs only [mkR_nil,mkR_cons,op,ef,cl,sq,reduceIte,j2,j3,j4,j5,j6,j7,j8,j9,y1,S1]) hm ?_
 rintro t H6 (⟨rfl,rfl,rfl⟩ | ⟨i,e,hi',he,rfl,rfl⟩)
 ·simp -implicitDefEqProofs only [mkR_nil,mkR_cons,op,ef,cl,sq,reduceIte,j2,j3,j4,j5,j6,j7,j8,j9,y1,S1]
  have hall:∀ e∈s.ls,(mlook s.vs e).isSome=true:=fun e he=>hch e he ((hri.end' e.1).2 (by rw [hes];exact List.mem_map.2 ⟨(e.1,T.int .u64 e.2),List.mem_map.2 ⟨e,he,rfl⟩,rfl⟩))
  have hF:Frm (fun _=>False) H3 (H5.set b.l (.map (encK T.str es))):=by
   refine ⟨by rw [List.length_set];exact hfr.1,fun c hc _=>?_⟩
   by_cases e:c=b.l
   ·subst e;rw [g_eq lm,hml]
   ·rw [g_ne (Ne.symm e),hfr.2 c hc e]
  refine .inl ⟨⟨hlup,hkup,hld,fun e he=>?_⟩,b,F',rfl,p3.go' ⟨s,⟨im,pm,sa.frm hF fun _ _ _ h=>h⟩,hi,habs,hn3,hv3⟩ (hF.mono fun _ h=>h.elim)⟩
  have h1:mlook lasts e.1=some e.2:=mlook_of hlup.nd he
  rw [← hls] at h1
  have h2:=hall _ (mlook_in h1)
  rw [hvs] at h2
  have h3:e∈(kdL kept).map (·.1):=mlook_key h2
  rw [kdL_key] at h3
  obtain ⟨x,hx,hxe⟩:=List.mem_map.1 h3
  exact ⟨x,hx,hxe⟩
 obtain ⟨⟨k,n⟩,hkn⟩:=getP (l:=s.ls) (i:=i) (by have:=hri.lt i hi';rw [hes] at this;simpa [encL] using this)
 have hkv:es[i]?=some (k,T.int .u64 n):=by rw [hes,encL,List.getElem?_map,hkn];rfl
 have he':e=(T.str k,T.int .u64 n):=by
  rw [encK,List.getElem?_map,hkv] at he;exact (Option.some.inj he).symm
 subst he'
 obtain ⟨H6,hH6⟩:∃ H6,H6=H5.set b.l (.rmap (encK T.str es) (ix.erase i) H3.length (some i)):=⟨_,rfl⟩
 have m6:H6[b.l]?=some (.rmap (encK T.str es) (ix.erase i) H3.length (some i)):=by rw [hH6];exact g_eq lm
 have i6:H6[H3.length]?=some (.itr b.l):=by rw [hH6,g_ne hli];exact hit
 have f6:Frm (fun c=>c=b.l) H3 H6:=by rw [hH6];exact hfr.set (.inl rfl) _
 have s6:=f6.get sa.hs hls0
 have v6:=f6.get sa.hv sa.vl
 have l60:=glt s6
 have l6v:=glt v6
 have l6l:=glt m6
 have l6i:=glt i6
 rw [← hH6]
 have hhd:∀ z,lkpT (mlook (encV s.vs) (k,n)) z true=.tup [lkpT (mlook (encV s.vs) (k,n)) z false,.bool (mlook s.vs (k,n)).isSome]:=fun z=>by
  unfold encV;rw [mlook_map]
  cases mlook s.vs (k,n) <;> rfl
 have hz:∃ cs,cs.length=3∧lkpT (mlook (encV s.vs) (k,n)) (.agg [.str ⟨#[]⟩,.sl .nil [],.int .i64 0]) false=.agg cs:=by
  unfold encV;rw [mlook_map]
  cases mlook s.vs (k,n) with
  | none=>exact ⟨_,rfl,rfl⟩
  | some x=>exact ⟨_,rfl,rfl⟩
 obtain ⟨cs,hcs,hlz⟩:=hz
 have hlk:=fun Hx z ok=>lkpB_K kNok z ok Hx (encV s.vs) (k,n)
 simp -implicitDefEqProofs only [kN,eN] at hlk
 have hset:∀ (X:B),(H6++[X]).set H6.length (.cells cs)=H6++[.cells cs]:=fun X=>s_tail rfl
 have hst:∀ X:List T,X.length=3→stcB (H6++[.cells X]) H6.length cs 0 (some (.cells X))=some (H6++[.cells cs]):=fun X hX=>by
  rw [stcB_c,if_pos (by omega)]
  have e1:X.take 0++cs++X.drop (0+cs.length)=cs:=by rw [List.drop_eq_nil_of_le (by omega)];simp
  rw [e1,hset]
 have hst3:=hst [.str ⟨#[]⟩,.sl .nil [],.int .i64 0] rfl
 cases hsm:(mlook s.vs (k,n)).isSome
 ·rw [hsm] at hhd
  simp -implicitDefEqProofs only [mkR_nil,mkR_cons,op,ef,cl,sq,reduceIte,j2,j3,j4,j5,j6,j7,j8,j9,y1,S1,S2,i6,m6,he,s6,v6,hlk,hhd,hlz,hcs,hst3,List.length_set]
  refine .inr ⟨fun hl=>?_,rfl,?_⟩
  ·have h1:mlook s.ls k=some n:=mlook_of hi.ndl (List.mem_of_getElem? hkn)
   rw [hls] at h1
   obtain ⟨x,hx,hxe⟩:=hl.2.2.2 (k,n) (mlook_in h1)
   have:(mlook (kdL kept) (k,n)).isSome=true:=by rw [← mem_keys,kdL_key];exact List.mem_map.2 ⟨x,hx,hxe⟩
   rw [← hvs,hsm] at this;cases this
  ·exact frm_ext (((p3.frm.more f6 fun c hc=>by rw [hc];exact (p3.new _ sa.F0.2.2.2.2).1)).app _)
 ·rw [hsm] at hhd
  simp -implicitDefEqProofs only [mkR_nil,mkR_cons,op,ef,cl,sq,reduceIte,j2,j3,j4,j5,j6,j7,j8,j9,y1,S1,S2,i6,m6,he,s6,v6,hlk,hhd,hlz,hcs,hst3,List.length_set]
  refine ⟨vis++[k],?_,.i ⟨_,_,hri.step hnd hi' hkv,by rw [g_app l6l];exact m6,by rw [g_app l6i];exact i6,f6.app _,fun e he2 hev=>?_⟩⟩
  ·have:=hri.len;have:=List.length_pos_of_mem hi';rw [List.length_append,List.length_singleton];omega
  ·rcases List.mem_append.1 hev with hev | hev
   ·exact hch e he2 hev
   ·simp -implicitDefEqProofs only [List.mem_singleton] at hev
    have h1:=mlook_of hi.ndl he2
    have h2:mlook s.ls k=some n:=mlook_of hi.ndl (List.mem_of_getElem? hkn)
    rw [hev,h2] at h1
    have:e=(k,n):=Prod.ext hev (Option.some.inj h1).symm
    rw [this,hsm]
def AbT (a:Ab):Prop:=∀ m h,a.v m=some h→h.stamp=-1∨TickOk h.stamp
def AbG (a:Ab):Prop:=∀ m h,a.v m=some h→65536≤m.2∧GoodKeys h.keys∧m.1∈h.keys∧h.value.size≤65535
structure AbW (a:Ab):Prop where
 S:AbS a
 T:AbT a
 G:AbG a
 L:∀ k n,a.l k=some n→a.has (k,n)=true
theorem AbW.emp:AbW Ab.emp:=⟨AbS.emp,fun m h e=>(by cases e),fun m h e=>(by cases e),fun k n e=>(by cases e)⟩
theorem put_some {a:Ab} {n:Nat} {l:List (ByteArray × ByteArray)} {ks:List ByteArray} {now:Int} {m:Nm} {x:Vd} (h:(a.put n l ks now).v m=some x):a.v m=some x∨(m.2=n∧∃ v,(m.1,v)∈l∧x=⟨v,ks,if n<a.last m.1 then now else -1⟩):=by
 rw [put_v] at h
 cases h1:a.v m with
 | some y=>rw [h1] at h;exact .inl h
 | none =>
  rw [h1] at h
  simp -implicitDefEqProofs only [Option.none_or] at h
  split at h
  ·rename_i e
   cases h2:mlook l m.1 with
   | none=>rw [h2] at h;cases h
   | some v=>rw [h2] at h;cases h;exact .inr ⟨e,v,mlook_in h2,rfl⟩
  ·cases h
theorem com_some {a:Ab} {n:Nat} {now:Int} {m:Nm} {x:Vd} (h:(a.com n now).v m=some x):∃ y,a.v m=some y∧x.value=y.value∧x.keys=y.keys∧(x.stamp=y.stamp∨x.stamp=now):=by
 simp -implicitDefEqProofs only [Ab.com] at h
 cases h1:a.v m with
 | none=>rw [h1] at h;cases h
 | some y =>
  rw [h1] at h;simp -implicitDefEqProofs only [Option.map_some,Option.some.injEq] at h;subst h
  refine ⟨y,rfl,?_⟩
  split
  ·exact ⟨rfl,rfl,.inr rfl⟩
  ·exact ⟨rfl,rfl,.inl rfl⟩
theorem may_mem {n:Nat} {l:List (ByteArray × ByteArray)} {ks:List ByteArray} (h:MayP n l ks) {p:ByteArray × ByteArray} (hp:p∈l):p.1∈ks∧p.2.size≤65535:=by
 obtain ⟨i,hi,e⟩:=List.getElem_of_mem hp
 exact (h.2.2.2 i hi p (by rw [List.getElem?_eq_getElem hi,e])).2
theorem AbW.put {a:Ab} (h:AbW a) {n:Nat} {l:List (ByteArray × ByteArray)} {ks:List ByteArray} {now:Int} (hm:MayP n l ks) (ht:TickOk now):AbW (a.put n l ks now):=by
 refine ⟨h.S.put ht.1,fun m x e=>?_,fun m x e=>?_,fun k n' e=>?_⟩
 ·rcases put_some e with e | ⟨_,v,_,rfl⟩
  ·exact h.T m x e
  ·simp only;split
   ·exact .inr ht
   ·exact .inl rfl
 ·rcases put_some e with e | ⟨rfl,v,hv,rfl⟩
  ·exact h.G m x e
  ·have:=may_mem hm hv
   exact ⟨hm.1,hm.2.1,this.1,this.2⟩
 ·rw [has_put,h.L k n' e];rfl
theorem AbW.com {a:Ab} (h:AbW a) {n:Nat} {now:Int} (ht:TickOk now):AbW (a.com n now):=by
 refine ⟨h.S.com ht.1,fun m x e=>?_,fun m x e=>?_,fun k n' e=>?_⟩
 ·obtain ⟨y,hy,_,_,hs⟩:=com_some e
  rcases hs with hs | hs
  ·rw [hs];exact h.T m y hy
  ·rw [hs];exact .inr ht
 ·obtain ⟨y,hy,h1,h2,_⟩:=com_some e
  rw [h1,h2];exact h.G m y hy
 ·rw [has_com]
  simp -implicitDefEqProofs only [Ab.com] at e
  split at e
  ·rename_i hc;cases e;exact hc.1
  ·exact h.L k n' e
def Ab.drp (a:Ab) (m:Nm):Ab:=match a.v m with
 | some h=>if h.stamp=-1 then a else a.cut m
 | none=>a
theorem AbW.drp {a:Ab} (h:AbW a) (m:Nm):AbW (a.drp m):=by
 unfold Ab.drp
 split
 ·rename_i x hx
  split
  ·exact h
  ·rename_i hs
   have cs:∀ m' y,(a.cut m).v m'=some y→a.v m'=some y:=fun m' y e=>by
    simp -implicitDefEqProofs only [Ab.cut] at e;split at e
    ·cases e
    ·exact e
   refine ⟨fun m' y e=>h.S m' y (cs m' y e),fun m' y e=>h.T m' y (cs m' y e),fun m' y e=>h.G m' y (cs m' y e),fun k n e=>?_⟩
   have e:a.l k=some n:=e
   have h1:=h.L k n e
   simp -implicitDefEqProofs only [Ab.has,Ab.cut]
   rw [if_neg]
   ·exact h1
   ·intro e2
    have h3:=h.S m x hx
    refine hs (h3.2 ?_)
    rw [← e2];simp [Ab.last,e]
 ·exact h
def kdOf (a:Ab) (m:Nm):Kd:=⟨m.1,m.2,(vdOf (a.v m)).value,.arg,(vdOf (a.v m)).keys,(vdOf (a.v m)).stamp⟩
theorem mlook_kd {a:Ab} {l:List Nm} (h:Names a l) (m:Nm):mlook (kdL (l.map (kdOf a))) m=a.v m:=by
 have hk:kdL (l.map (kdOf a))=l.map fun m=>(m,vdOf (a.v m)):=by
  rw [kdL,List.map_map];rfl
 rw [hk]
 have hn:((l.map fun m=>(m,vdOf (a.v m))).map (·.1)).Nodup:=by simpa [Function.comp_def] using h.nd
 cases hv:a.v m with
 | none =>
  refine mlook_none.2 fun hh=>?_
  simp -implicitDefEqProofs only [List.map_map,List.mem_map,Function.comp] at hh
  obtain ⟨x,hx,rfl⟩:=hh
  have:=(h.2 x).1 hx
  simp [Ab.has,hv] at this
 | some x =>
  have hm:m∈l:=(h.2 m).2 (by simp [Ab.has,hv])
  have:=mlook_of hn (p:=(m,vdOf (a.v m))) (List.mem_map.2 ⟨m,hm,rfl⟩)
  rw [this,hv];rfl
theorem mlook_lnm {a:Ab} {l:List ByteArray} (h:LNames a l) (k:ByteArray):mlook (l.map (lnm a)) k=a.l k:=by
 have hnd:l.Nodup:=h.1.imp fun {x y} hxy e=>by rw [e,lt_irr] at hxy;cases hxy
 have hn:((l.map (lnm a)).map (·.1)).Nodup:=by
  have:(l.map (lnm a)).map (·.1)=l:=by simp [lnm,Function.comp_def]
  rw [this];exact hnd
 cases hv:a.l k with
 | none =>
  refine mlook_none.2 fun hh=>?_
  simp -implicitDefEqProofs only [List.map_map,List.mem_map,Function.comp,lnm] at hh
  obtain ⟨x,hx,rfl⟩:=hh
  have:=(h.2 x).1 hx
  rw [hv] at this;cases this
 | some n =>
  have hm:k∈l:=(h.2 k).2 (by rw [hv];rfl)
  have:=mlook_of hn (p:=lnm a k) (List.mem_map.2 ⟨k,hm,rfl⟩)
  have h2:mlook (l.map (lnm a)) k=some (a.last k):=this
  rw [h2];simp [Ab.last,hv]
theorem ldAb_self {a:Ab} {l:List Nm} {ls:List ByteArray} (h:Names a l) (hl:LNames a ls):ldAb (l.map (kdOf a)) (ls.map (lnm a))=a:=ab_ext (fun m=>mlook_kd h m) fun k=>mlook_lnm hl k
theorem AbW.load {a:Ab} (h:AbW a) {l:List Nm} {ls:List ByteArray} (hN:Names a l) (hL:LNames a ls):LoadOk (l.map (kdOf a)) (ls.map (lnm a)):=by
 refine ⟨List.pairwise_map.2 hL.1,List.pairwise_map.2 hN.1,fun x hx=>?_,fun e he=>?_⟩
 ·obtain ⟨m,hm,rfl⟩:=List.mem_map.1 hx
  obtain ⟨y,hy⟩:=Option.isSome_iff_exists.1 ((hN.2 m).1 hm)
  have hlast:(ldAb [] (ls.map (lnm a))).last m.1=a.last m.1:=by simp -implicitDefEqProofs only [Ab.last,ldAb,mlook_lnm hL]
  have hvd:vdOf (a.v m)=y:=by rw [hy];rfl
  obtain ⟨g1,g2,g3,g4⟩:=h.G m y hy
  have hS:=h.S m y hy
  have hT:=h.T m y hy
  have e1:(kdOf a m).id=m.2:=rfl
  have e2:(kdOf a m).key=m.1:=rfl
  have e3:(kdOf a m).keys=y.keys:=by simp -implicitDefEqProofs only [kdOf,hvd]
  have e4:(kdOf a m).value=y.value:=by simp -implicitDefEqProofs only [kdOf,hvd]
  have e5:(kdOf a m).stamp=y.stamp:=by simp -implicitDefEqProofs only [kdOf,hvd]
  unfold LdOk
  rw [e1,e2,e3,e4,e5,hlast]
  refine ⟨g1,g2,g3,g4,?_⟩
  split
  ·rename_i hlt
   rcases hT with hT | hT
   ·exact absurd hlt (hS.1 hT)
   ·exact hT
  ·rename_i hlt;exact hS.2 hlt
 ·obtain ⟨k,hk,rfl⟩:=List.mem_map.1 he
  obtain ⟨n,hn⟩:=Option.isSome_iff_exists.1 ((hL.2 k).1 hk)
  have hla:a.last k=n:=by simp [Ab.last,hn]
  have:=h.L k n hn
  refine ⟨kdOf a (k,n),List.mem_map.2 ⟨(k,n),(hN.2 _).2 this,rfl⟩,?_⟩
  show (k,n)=(k,a.last k)
  rw [hla]
theorem sameK27 (k k':SK) (a:Ab) (l:List Nm) (hl:l.length≤8000000) (hk:∀ m,(vdOf (a.v m)).keys.length≤1024) (H:Heap):W env (.call 9 [.sl k (l.map (eKA a)),.sl k' (l.map (eKA a))]) H (RetG (.bool true) H):=by
 refine W.fnI rfl rfl rfl ?_
 simp -implicitDefEqProofs only [ir9,op,ef,cl,sq,reduceIte,j2,j3,j4,j5,j6,j7,j8,j9,y1,S1,List.length_map]
 refine W.loopV [(0,_),(1,_)] (fun (i:Nat) R H'=>At H' (fun H'=>Ext H H')∧R 5=.int .i64 i∧i≤l.length) (fun i=>l.length-i) 0 ⟨.i Ext.rfl',rfl,Nat.zero_le _⟩ ?_
 rintro i R H1 ⟨hx,g5,hi⟩
 have hx:Ext H H1:=hx
 by_cases hlt:i<l.length
 ·obtain ⟨x,hxi⟩:=getP hlt
  have ix:=iadX (e:=eKA a) (n:=5) (fun _=>rfl) (by decide) (k:=k) hxi
  have iy:=iadX (e:=eKA a) (n:=5) (fun _=>rfl) (by decide) (k:=k') hxi
  have wsi:=wrap_succ (show i<9223372036854775807 by omega)
  have l4:fadT 4 (.iptr (eKA a x))=some (.iptr [.int .i64 (vdOf (a.v x)).stamp]):=rfl
  have l0:fadT 0 (.iptr (eKA a x))=some (.iptr (eKA a x)):=rfl
  have ld:∀ Hx,ldc Hx 4 (.iptr (eKA a x))=some (eVer x.1 x.2 (vdOf (a.v x)).value .arg (vdOf (a.v x)).keys):=fun _=>rfl
  simp -implicitDefEqProofs only [mkR_nil,mkR_cons,op,ef,cl,sq,reduceIte,j2,j3,j4,j5,j6,j7,j8,j9,y1,S1,List.length_map,g5,hlt,natOf_nat,ix,iy,l4,l0,ldc1,ld]
  refine callB_of _ _ _ _ _ _ _ _ (same22 x.1 x.2 _ .arg .arg _ _ (by have:=hk x;omega)) ?_
  rintro u H2 ⟨hu,hx2⟩
  cases hu
  have hx2:Ext H1 H2:=hx2
  simp -implicitDefEqProofs only [mkR_nil,mkR_cons,op,ef,cl,sq,reduceIte,j2,j3,j4,j5,j6,j7,j8,j9,y1,S1,g5,natOf_nat,ix,iy,l4,ldc1,wsi]
  exact ⟨i+1,by omega,.i (hx.trans hx2),rfl,by omega⟩
 ·simp -implicitDefEqProofs only [mkR_nil,mkR_cons,op,ef,cl,sq,reduceIte,j2,j3,j4,j5,j6,j7,j8,j9,y1,S1,List.length_map,g5,hlt]
  simp -implicitDefEqProofs only [retg_ext hx]
end Go.Proofs.YtbkgokabcnogdaaGreat.St
end
