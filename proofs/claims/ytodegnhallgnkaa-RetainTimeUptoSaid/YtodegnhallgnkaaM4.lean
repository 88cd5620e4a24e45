/- Part of a proof of a law of this seat: the machine of plain values, its simulation, and the contracts of the functions that the law reaches. Conditions: none beyond the given row. -/
import Derived.Test.YtodegnhallgnkaaM3
import Derived.Test.YtodegnhallgnkaaRows
import Derived.WalkKit
import Derived.ProofKit
import Derived.OpenShut
import Derived.JoinedCond
import Derived.ChangeBears
set_option linter.unusedSimpArgs false
set_option linter.unusedVariables false
set_option linter.unnecessarySimpa false
set_option maxHeartbeats 4000000
section
namespace Go.Proofs.Ytodegnhallgnkaa.St
open Go.Rmp Go.Proofs.Ytodegnhallgnkaa.Ir
set_option maxRecDepth 10000
set_option maxHeartbeats 8000000
def bkOf : C → Nat → Option C
  | .block id a, n => if id = n then some a else bkOf a n
  | .seq a b, n => match bkOf a n with | some c => some c | .none => bkOf b n
  | .cond _ a b, n => match bkOf a n with | some c => some c | .none => bkOf b n
  | .loop a, n => bkOf a n
  | _, _ => .none
def seqN : C → Nat → C
  | .seq a _, 0 => a
  | .seq _ b, k + 1 => seqN b k
  | c, _ => c
structure PR (R : Regs) (c n a b lim : Nat) (wb wp : Bool) : Prop where
  r0 : R 0 = .msl c 0 n 2
  r1 : R 1 = .int .i64 a
  r2 : R 2 = .int .i64 b
  r3 : R 3 = .int .i64 lim
  r4 : R 4 = .fn 40 []
  r10 : R 10 = .bool wb
  r11 : R 11 = .bool wp
  r12 : R 12 = .int .i64 (b - a : Nat)
open Go.Sort in
theorem seg3 (A : C) (hA : (bkOf ir69.body 1).map (seqN · 3) = some A) (c n a b lim : Nat) (wb wp : Bool) (d : Array Nm) (R : Regs) (H0 H : Heap) (K : Out → Heap → Prop) (hp : PR R c n a b lim wb wp) (hd : SC c n H0 (fun x => x = d) H) (hb : b ≤ n) (hab : a + 12 < b) (hs : n < 16777216) (hl : 1 ≤ lim ∧ lim < 1000)
    (rest : ∀ R' H', PR R' c n a b (if (!wb) = true then lim - 1 else lim) wb wp → SC c n H0 (fun x => x = if (!wb) = true then breakPatterns d a b else d) H' → K (.ex .normal R') H') : wpC env A R H K := by
  simp [ir69, bkOf, seqN, sq] at hA
  subst hA
  obtain ⟨h0, h1, h2, h3, h4, h10, h11, h12⟩ := hp
  obtain ⟨di, hc, hn, rfl, hfr⟩ := hd
  cases wb with
  | true =>
    simp -implicitDefEqProofs (maxSteps := 1000000) (disch := omega) only [op, ef, cl, sq, reduceIte, Int.reduceLT, Int.reduceLE, Int.reduceBEq, Int.reduceBNe, Int.reduceEq, Nat.reduceAdd, Nat.reduceLeDiff, Nat.reduceLT, Nat.reduceEqDiff, S1, h0, h1, h2, h3, h4, h10, h11, h12]
    exact rest _ _ ⟨by simp -implicitDefEqProofs only [op, ef, cl, sq, reduceIte, Int.reduceLT, Int.reduceLE, Int.reduceBEq, Int.reduceBNe, Int.reduceEq, Nat.reduceAdd, Nat.reduceLeDiff, Nat.reduceLT, Nat.reduceEqDiff, S1, h0], by simp -implicitDefEqProofs only [op, ef, cl, sq, reduceIte, Int.reduceLT, Int.reduceLE, Int.reduceBEq, Int.reduceBNe, Int.reduceEq, Nat.reduceAdd, Nat.reduceLeDiff, Nat.reduceLT, Nat.reduceEqDiff, S1, h1], by simp -implicitDefEqProofs only [op, ef, cl, sq, reduceIte, Int.reduceLT, Int.reduceLE, Int.reduceBEq, Int.reduceBNe, Int.reduceEq, Nat.reduceAdd, Nat.reduceLeDiff, Nat.reduceLT, Nat.reduceEqDiff, S1, h2], by simp -implicitDefEqProofs only [op, ef, cl, sq, reduceIte, Int.reduceLT, Int.reduceLE, Int.reduceBEq, Int.reduceBNe, Int.reduceEq, Nat.reduceAdd, Nat.reduceLeDiff, Nat.reduceLT, Nat.reduceEqDiff, S1, h3], by simp -implicitDefEqProofs only [op, ef, cl, sq, reduceIte, Int.reduceLT, Int.reduceLE, Int.reduceBEq, Int.reduceBNe, Int.reduceEq, Nat.reduceAdd, Nat.reduceLeDiff, Nat.reduceLT, Nat.reduceEqDiff, S1, h4], by simp -implicitDefEqProofs only [op, ef, cl, sq, reduceIte, Int.reduceLT, Int.reduceLE, Int.reduceBEq, Int.reduceBNe, Int.reduceEq, Nat.reduceAdd, Nat.reduceLeDiff, Nat.reduceLT, Nat.reduceEqDiff, S1, h10], by simp -implicitDefEqProofs only [op, ef, cl, sq, reduceIte, Int.reduceLT, Int.reduceLE, Int.reduceBEq, Int.reduceBNe, Int.reduceEq, Nat.reduceAdd, Nat.reduceLeDiff, Nat.reduceLT, Nat.reduceEqDiff, S1, h11], by simp -implicitDefEqProofs only [op, ef, cl, sq, reduceIte, Int.reduceLT, Int.reduceLE, Int.reduceBEq, Int.reduceBNe, Int.reduceEq, Nat.reduceAdd, Nat.reduceLeDiff, Nat.reduceLT, Nat.reduceEqDiff, S1, h12]⟩ ⟨di, hc, hn, rfl, hfr⟩
  | false =>
    simp -implicitDefEqProofs (maxSteps := 1000000) (disch := omega) only [op, ef, cl, sq, reduceIte, Int.reduceLT, Int.reduceLE, Int.reduceBEq, Int.reduceBNe, Int.reduceEq, Nat.reduceAdd, Nat.reduceLeDiff, Nat.reduceLT, Nat.reduceEqDiff, S1, h0, h1, h2, h3, h4, h10, h11, h12]
    refine callB_of _ _ _ _ _ _ _ _ (break77 c n di a b _ hn hc hb hab hs) ?_
    rintro u H2 ⟨hu, d2, hd2, hs2, e2, hf2⟩
    cases hu
    simp -implicitDefEqProofs (maxSteps := 1000000) (disch := omega) only [natOf_nat, iadm, ldm1, ldm2, stm0, stm1, stm2, wA, wA1, wS, wS1, wM, S2, op, ef, cl, sq, reduceIte, Int.reduceLT, Int.reduceLE, Int.reduceBEq, Int.reduceBNe, Int.reduceEq, Nat.reduceAdd, Nat.reduceLeDiff, Nat.reduceLT, Nat.reduceEqDiff, S1, h0, h1, h2, h3, h4, h10, h11, h12]
    exact rest _ _ ⟨by simp -implicitDefEqProofs only [op, ef, cl, sq, reduceIte, Int.reduceLT, Int.reduceLE, Int.reduceBEq, Int.reduceBNe, Int.reduceEq, Nat.reduceAdd, Nat.reduceLeDiff, Nat.reduceLT, Nat.reduceEqDiff, S1, h0], by simp -implicitDefEqProofs only [op, ef, cl, sq, reduceIte, Int.reduceLT, Int.reduceLE, Int.reduceBEq, Int.reduceBNe, Int.reduceEq, Nat.reduceAdd, Nat.reduceLeDiff, Nat.reduceLT, Nat.reduceEqDiff, S1, h1], by simp -implicitDefEqProofs only [op, ef, cl, sq, reduceIte, Int.reduceLT, Int.reduceLE, Int.reduceBEq, Int.reduceBNe, Int.reduceEq, Nat.reduceAdd, Nat.reduceLeDiff, Nat.reduceLT, Nat.reduceEqDiff, S1, h2], by simp -implicitDefEqProofs only [op, ef, cl, sq, reduceIte, Int.reduceLT, Int.reduceLE, Int.reduceBEq, Int.reduceBNe, Int.reduceEq, Nat.reduceAdd, Nat.reduceLeDiff, Nat.reduceLT, Nat.reduceEqDiff, S1], by simp -implicitDefEqProofs only [op, ef, cl, sq, reduceIte, Int.reduceLT, Int.reduceLE, Int.reduceBEq, Int.reduceBNe, Int.reduceEq, Nat.reduceAdd, Nat.reduceLeDiff, Nat.reduceLT, Nat.reduceEqDiff, S1, h4], by simp -implicitDefEqProofs only [op, ef, cl, sq, reduceIte, Int.reduceLT, Int.reduceLE, Int.reduceBEq, Int.reduceBNe, Int.reduceEq, Nat.reduceAdd, Nat.reduceLeDiff, Nat.reduceLT, Nat.reduceEqDiff, S1, h10], by simp -implicitDefEqProofs only [op, ef, cl, sq, reduceIte, Int.reduceLT, Int.reduceLE, Int.reduceBEq, Int.reduceBNe, Int.reduceEq, Nat.reduceAdd, Nat.reduceLeDiff, Nat.reduceLT, Nat.reduceEqDiff, S1, h11], by simp -implicitDefEqProofs only [op, ef, cl, sq, reduceIte, Int.reduceLT, Int.reduceLE, Int.reduceBEq, Int.reduceBNe, Int.reduceEq, Nat.reduceAdd, Nat.reduceLeDiff, Nat.reduceLT, Nat.reduceEqDiff, S1, h12]⟩ ⟨d2, hd2, hs2, e2, hfr.trans hf2 fun _ h => .inl h⟩
open Go.Sort in
theorem seg5 (A : C) (hA : (bkOf ir69.body 1).map (seqN · 5) = some A) (c n a b lim : Nat) (wb wp : Bool) (d : Array Nm) (pv : Nat) (hi : Hint) (R : Regs) (H0 H : Heap) (K : Out → Heap → Prop) (hp : PR R c n a b lim wb wp) (h13 : R 13 = .int .i64 pv) (h14 : R 14 = .int .i64 (hintN hi)) (hd : SC c n H0 (fun x => x = d) H) (hb : b ≤ n) (hab : a + 12 < b) (hs : n < 16777216) (hpv : a ≤ pv ∧ pv < b)
    (rest : ∀ R' H', PR R' c n a b lim wb wp → R' 13 = .int .i64 (if hi = .decreasing then (b - 1) - (pv - a) else pv : Nat) → R' 14 = .int .i64 (hintN (if hi = .decreasing then Hint.increasing else hi)) → SC c n H0 (fun x => x = if hi = .decreasing then reverseRange d a b else d) H' → K (.ex .normal R') H') : wpC env A R H K := by
  simp [ir69, bkOf, seqN, sq] at hA
  subst hA
  obtain ⟨h0, h1, h2, h3, h4, h10, h11, h12⟩ := hp
  obtain ⟨di, hc, hn, rfl, hfr⟩ := hd
  have e : ((hintN hi) == 2) = decide (hi = .decreasing) := by cases hi <;> decide
  by_cases hh : hi = .decreasing
  · rw [decide_eq_true hh] at e
    simp -implicitDefEqProofs (maxSteps := 1000000) (disch := omega) only [op, ef, cl, sq, reduceIte, Int.reduceLT, Int.reduceLE, Int.reduceBEq, Int.reduceBNe, Int.reduceEq, Nat.reduceAdd, Nat.reduceLeDiff, Nat.reduceLT, Nat.reduceEqDiff, S1, h0, h1, h2, h3, h4, h10, h11, h12, h13, h14, e]
    refine callB_of _ _ _ _ _ _ _ _ (rev79 c n di a b _ hn hc hb (by omega) (by omega)) ?_
    rintro u H2 ⟨hu, d2, hd2, hs2, e2, hf2⟩
    cases hu
    simp -implicitDefEqProofs (maxSteps := 1000000) (disch := omega) only [natOf_nat, iadm, ldm1, ldm2, stm0, stm1, stm2, wA, wA1, wS, wS1, wM, S2, op, ef, cl, sq, reduceIte, Int.reduceLT, Int.reduceLE, Int.reduceBEq, Int.reduceBNe, Int.reduceEq, Nat.reduceAdd, Nat.reduceLeDiff, Nat.reduceLT, Nat.reduceEqDiff, S1, h0, h1, h2, h3, h4, h10, h11, h12, h13, h14]
    refine rest _ _ ⟨?_, ?_, ?_, ?_, ?_, ?_, ?_, ?_⟩ ?_ ?_ ⟨d2, hd2, hs2, ?_, hfr.trans hf2 fun _ h => .inl h⟩
    all_goals simp -implicitDefEqProofs only [op, ef, cl, sq, reduceIte, Int.reduceLT, Int.reduceLE, Int.reduceBEq, Int.reduceBNe, Int.reduceEq, Nat.reduceAdd, Nat.reduceLeDiff, Nat.reduceLT, Nat.reduceEqDiff, S1, h0, h1, h2, h3, h4, h10, h11, h12, if_pos hh, hintN]
    exact e2
  · rw [decide_eq_false hh] at e
    simp -implicitDefEqProofs (maxSteps := 1000000) (disch := omega) only [op, ef, cl, sq, reduceIte, Int.reduceLT, Int.reduceLE, Int.reduceBEq, Int.reduceBNe, Int.reduceEq, Nat.reduceAdd, Nat.reduceLeDiff, Nat.reduceLT, Nat.reduceEqDiff, S1, h0, h1, h2, h3, h4, h10, h11, h12, h13, h14, e]
    refine rest _ _ ⟨?_, ?_, ?_, ?_, ?_, ?_, ?_, ?_⟩ ?_ ?_ ⟨di, hc, hn, ?_, hfr⟩
    all_goals simp -implicitDefEqProofs only [op, ef, cl, sq, reduceIte, Int.reduceLT, Int.reduceLE, Int.reduceBEq, Int.reduceBNe, Int.reduceEq, Nat.reduceAdd, Nat.reduceLeDiff, Nat.reduceLT, Nat.reduceEqDiff, S1, h0, h1, h2, h3, h4, h10, h11, h12, h13, h14, if_neg hh]
open Go.Sort in
theorem seg6 (A : C) (hA : (bkOf ir69.body 1).map (seqN · 6) = some A) (c n a b lim : Nat) (wb wp : Bool) (d : Array Nm) (pv : Nat) (hi : Hint) (R : Regs) (H0 H : Heap) (K : Out → Heap → Prop) (hp : PR R c n a b lim wb wp) (h13 : R 13 = .int .i64 pv) (h14 : R 14 = .int .i64 (hintN hi)) (hd : SC c n H0 (fun x => x = d) H) (hb : b ≤ n) (hab : a + 12 < b) (hs : n < 16777216)
    (pi : Array Nm × Bool) (hpi : pi = if (wb && wp && hi = .increasing) = true then partialInsertionSort ltM d a b else (d, false))
    (rest1 : ∀ R' H', pi.2 = true → SC c n H0 (fun x => x = pi.1) H' → K (.ex .ret R') H')
    (rest2 : ∀ R' H', pi.2 = false → PR R' c n a b lim wb wp → R' 13 = .int .i64 pv → SC c n H0 (fun x => x = pi.1) H' → K (.ex .normal R') H') : wpC env A R H K := by
  simp [ir69, bkOf, seqN, sq] at hA
  subst hA
  obtain ⟨h0, h1, h2, h3, h4, h10, h11, h12⟩ := hp
  obtain ⟨di, hc, hn, rfl, hfr⟩ := hd
  have e : ((hintN hi) == 1) = decide (hi = .increasing) := by cases hi <;> decide
  have no : (wb && wp && decide (hi = .increasing)) = false → ∀ R', PR R' c n a b lim wb wp → R' 13 = .int .i64 pv → K (.ex .normal R') H := fun h R' q q' => rest2 R' H (by rw [hpi, h]; rfl) q q' ⟨di, hc, hn, by rw [hpi, h]; rfl, hfr⟩
  cases wb with
  | false =>
    simp -implicitDefEqProofs only [op, ef, cl, sq, reduceIte, Int.reduceLT, Int.reduceLE, Int.reduceBEq, Int.reduceBNe, Int.reduceEq, Nat.reduceAdd, Nat.reduceLeDiff, Nat.reduceLT, Nat.reduceEqDiff, S1, h0, h1, h2, h3, h4, h10, h11, h12, h13, h14]
    refine no rfl _ ⟨?_, ?_, ?_, ?_, ?_, ?_, ?_, ?_⟩ ?_
    all_goals simp -implicitDefEqProofs only [op, ef, cl, sq, reduceIte, Int.reduceLT, Int.reduceLE, Int.reduceBEq, Int.reduceBNe, Int.reduceEq, Nat.reduceAdd, Nat.reduceLeDiff, Nat.reduceLT, Nat.reduceEqDiff, S1, h0, h1, h2, h3, h4, h10, h11, h12, h13]
  | true =>
    cases wp with
    | false =>
      simp -implicitDefEqProofs only [op, ef, cl, sq, reduceIte, Int.reduceLT, Int.reduceLE, Int.reduceBEq, Int.reduceBNe, Int.reduceEq, Nat.reduceAdd, Nat.reduceLeDiff, Nat.reduceLT, Nat.reduceEqDiff, S1, h0, h1, h2, h3, h4, h10, h11, h12, h13, h14]
      refine no rfl _ ⟨?_, ?_, ?_, ?_, ?_, ?_, ?_, ?_⟩ ?_
      all_goals simp -implicitDefEqProofs only [op, ef, cl, sq, reduceIte, Int.reduceLT, Int.reduceLE, Int.reduceBEq, Int.reduceBNe, Int.reduceEq, Nat.reduceAdd, Nat.reduceLeDiff, Nat.reduceLT, Nat.reduceEqDiff, S1, h0, h1, h2, h3, h4, h10, h11, h12, h13]
    | true =>
      by_cases hh : hi = .increasing
      · rw [decide_eq_true hh] at e
        rw [decide_eq_true hh] at hpi
        simp -implicitDefEqProofs only [op, ef, cl, sq, reduceIte, Int.reduceLT, Int.reduceLE, Int.reduceBEq, Int.reduceBNe, Int.reduceEq, Nat.reduceAdd, Nat.reduceLeDiff, Nat.reduceLT, Nat.reduceEqDiff, S1, h0, h1, h2, h3, h4, h10, h11, h12, h13, h14, e]
        refine callB_of _ _ _ _ _ _ _ _ (pins80 c n di a b _ hn hc hb (by omega) (by omega)) ?_
        rintro u H2 ⟨hu, d2, hd2, hs2, e2, hf2⟩
        cases hu
        rw [if_pos (show (true && true && true) = true from rfl)] at hpi
        rw [← hpi] at e2 ⊢
        cases hb2 : pi.2 with
        | true =>
          simp -implicitDefEqProofs only [op, ef, cl, sq, reduceIte, Int.reduceLT, Int.reduceLE, Int.reduceBEq, Int.reduceBNe, Int.reduceEq, Nat.reduceAdd, Nat.reduceLeDiff, Nat.reduceLT, Nat.reduceEqDiff, S1]
          exact rest1 _ _ hb2 ⟨d2, hd2, hs2, e2, hfr.trans hf2 fun _ h => .inl h⟩
        | false =>
          simp -implicitDefEqProofs only [op, ef, cl, sq, reduceIte, Int.reduceLT, Int.reduceLE, Int.reduceBEq, Int.reduceBNe, Int.reduceEq, Nat.reduceAdd, Nat.reduceLeDiff, Nat.reduceLT, Nat.reduceEqDiff, S1]
          refine rest2 _ _ hb2 ⟨?_, ?_, ?_, ?_, ?_, ?_, ?_, ?_⟩ ?_ ⟨d2, hd2, hs2, e2, hfr.trans hf2 fun _ h => .inl h⟩
          all_goals simp -implicitDefEqProofs only [op, ef, cl, sq, reduceIte, Int.reduceLT, Int.reduceLE, Int.reduceBEq, Int.reduceBNe, Int.reduceEq, Nat.reduceAdd, Nat.reduceLeDiff, Nat.reduceLT, Nat.reduceEqDiff, S1, h0, h1, h2, h3, h4, h10, h11, h12, h13]
      · rw [decide_eq_false hh] at e
        simp -implicitDefEqProofs only [op, ef, cl, sq, reduceIte, Int.reduceLT, Int.reduceLE, Int.reduceBEq, Int.reduceBNe, Int.reduceEq, Nat.reduceAdd, Nat.reduceLeDiff, Nat.reduceLT, Nat.reduceEqDiff, S1, h0, h1, h2, h3, h4, h10, h11, h12, h13, h14, e]
        refine no (by rw [decide_eq_false hh]; rfl) _ ⟨?_, ?_, ?_, ?_, ?_, ?_, ?_, ?_⟩ ?_
        all_goals simp -implicitDefEqProofs only [op, ef, cl, sq, reduceIte, Int.reduceLT, Int.reduceLE, Int.reduceBEq, Int.reduceBNe, Int.reduceEq, Nat.reduceAdd, Nat.reduceLeDiff, Nat.reduceLT, Nat.reduceEqDiff, S1, h0, h1, h2, h3, h4, h10, h11, h12, h13]
open Go.Sort in
theorem seg7 (A : C) (hA : (bkOf ir69.body 1).map (seqN · 7) = some A) (c n a b lim : Nat) (wb wp : Bool) (d : Array Nm) (pv : Nat) (R : Regs) (H0 H : Heap) (K : Out → Heap → Prop) (hp : PR R c n a b lim wb wp) (h13 : R 13 = .int .i64 pv) (hd : SC c n H0 (fun x => x = d) H) (hb : b ≤ n) (hab : a + 12 < b) (hs : n < 16777216) (hpv : a ≤ pv ∧ pv < b)
    (rest1 : ∀ R' H', (a > 0 && !ltM d[a - 1]! d[pv]!) = true → R' 0 = .msl c 0 n 2 → R' 1 = .int .i64 (partitionEqual ltM d a b pv).1 → R' 2 = .int .i64 b → R' 3 = .int .i64 lim → R' 4 = .fn 40 [] → R' 10 = .bool wb → R' 11 = .bool wp → SC c n H0 (fun x => x = (partitionEqual ltM d a b pv).2) H' → K (.ex (.exit 1) R') H')
    (rest2 : ∀ R' H', (a > 0 && !ltM d[a - 1]! d[pv]!) = false → PR R' c n a b lim wb wp → R' 13 = .int .i64 pv → SC c n H0 (fun x => x = d) H' → K (.ex .normal R') H') : wpC env A R H K := by
  simp [ir69, bkOf, seqN, sq] at hA
  subst hA
  obtain ⟨h0, h1, h2, h3, h4, h10, h11, h12⟩ := hp
  obtain ⟨di, hd, hn, rfl, hfr⟩ := hd
  have lc := glt hd
  by_cases ha : 0 < a
  · simp -implicitDefEqProofs (maxSteps := 1000000) (disch := omega) only [natOf_nat, iadm, ldm1, ldm2, stm0, stm1, stm2, wA, wA1, wS, wS1, wM, S2, op, ef, cl, sq, reduceIte, Int.reduceLT, Int.reduceLE, Int.reduceBEq, Int.reduceBNe, Int.reduceEq, Nat.reduceAdd, Nat.reduceLeDiff, Nat.reduceLT, Nat.reduceEqDiff, S1, h0, h1, h2, h3, h4, h10, h11, h12, h13, ha, hd, lc]
    refine b_vg _ _ _ _ _ _ _ (by simp -implicitDefEqProofs (maxSteps := 1000000) (disch := omega) only [natOf_nat, iadm, ldm1, ldm2, stm0, stm1, stm2, wA, wA1, wS, wS1, wM, S2, op, ef, cl, sq, reduceIte, Int.reduceLT, Int.reduceLE, Int.reduceBEq, Int.reduceBNe, Int.reduceEq, Nat.reduceAdd, Nat.reduceLeDiff, Nat.reduceLT, Nat.reduceEqDiff, S1, h0, h1, h2, h3, h4, h10, h11, h12, h13, ha, hd, lc]) ?_
    simp -implicitDefEqProofs (maxSteps := 1000000) (disch := omega) only [natOf_nat, iadm, ldm1, ldm2, stm0, stm1, stm2, wA, wA1, wS, wS1, wM, S2, op, ef, cl, sq, reduceIte, Int.reduceLT, Int.reduceLE, Int.reduceBEq, Int.reduceBNe, Int.reduceEq, Nat.reduceAdd, Nat.reduceLeDiff, Nat.reduceLT, Nat.reduceEqDiff, S1, callvB, h0, h1, h2, h3, h4, h10, h11, h12, h13, ha, hd, lc, List.append_nil]
    refine callB_of _ _ _ _ _ _ _ _ (byName36 di[a - 1]! di[pv]! _) ?_
    rintro u H3 ⟨hu, hx⟩
    cases hu
    have hx : Ext H H3 := hx
    have hd := hx.get hd
    have lc := glt hd
    have hfr := hfr.trans (ext_frm (F := fun _ => False) hx) (fun _ h => h.elim)
    have lt1 : ltM di[a - 1]! di[pv]! = decide (cmpM di[a - 1]! di[pv]! < 0) := rfl
    by_cases c1 : cmpM di[a - 1]! di[pv]! < 0
    · simp -implicitDefEqProofs (maxSteps := 1000000) (disch := omega) only [natOf_nat, iadm, ldm1, ldm2, stm0, stm1, stm2, wA, wA1, wS, wS1, wM, S2, op, ef, cl, sq, reduceIte, Int.reduceLT, Int.reduceLE, Int.reduceBEq, Int.reduceBNe, Int.reduceEq, Nat.reduceAdd, Nat.reduceLeDiff, Nat.reduceLT, Nat.reduceEqDiff, S1, h0, h1, h2, h3, h4, h10, h11, h12, h13, ha, hd, lc, c1]
      refine rest2 _ _ (by rw [lt1, dect c1]; simp) ⟨?_, ?_, ?_, ?_, ?_, ?_, ?_, ?_⟩ ?_ ⟨di, hd, hn, rfl, hfr⟩
      all_goals simp -implicitDefEqProofs only [op, ef, cl, sq, reduceIte, Int.reduceLT, Int.reduceLE, Int.reduceBEq, Int.reduceBNe, Int.reduceEq, Nat.reduceAdd, Nat.reduceLeDiff, Nat.reduceLT, Nat.reduceEqDiff, S1, h0, h1, h2, h3, h4, h10, h11, h12, h13]
    · simp -implicitDefEqProofs (maxSteps := 1000000) (disch := omega) only [natOf_nat, iadm, ldm1, ldm2, stm0, stm1, stm2, wA, wA1, wS, wS1, wM, S2, op, ef, cl, sq, reduceIte, Int.reduceLT, Int.reduceLE, Int.reduceBEq, Int.reduceBNe, Int.reduceEq, Nat.reduceAdd, Nat.reduceLeDiff, Nat.reduceLT, Nat.reduceEqDiff, S1, h0, h1, h2, h3, h4, h10, h11, h12, h13, ha, hd, lc, c1]
      refine callB_of _ _ _ _ _ _ _ _ (peq81 c n di a b pv _ hn hd hb (by omega) (by omega) (by omega)) ?_
      rintro u H4 ⟨hu, d2, hd2, hs2, e2, hf2⟩
      cases hu
      simp -implicitDefEqProofs only [op, ef, cl, sq, reduceIte, Int.reduceLT, Int.reduceLE, Int.reduceBEq, Int.reduceBNe, Int.reduceEq, Nat.reduceAdd, Nat.reduceLeDiff, Nat.reduceLT, Nat.reduceEqDiff, S1]
      refine rest1 _ _ (by rw [lt1, decf c1]; simp; exact ha) ?_ ?_ ?_ ?_ ?_ ?_ ?_ ⟨d2, hd2, hs2, e2, hfr.trans hf2 fun _ h => .inl h⟩
      all_goals simp -implicitDefEqProofs only [op, ef, cl, sq, reduceIte, Int.reduceLT, Int.reduceLE, Int.reduceBEq, Int.reduceBNe, Int.reduceEq, Nat.reduceAdd, Nat.reduceLeDiff, Nat.reduceLT, Nat.reduceEqDiff, S1, h0, h1, h2, h3, h4, h10, h11, h12, h13]
  · simp -implicitDefEqProofs only [op, ef, cl, sq, reduceIte, Int.reduceLT, Int.reduceLE, Int.reduceBEq, Int.reduceBNe, Int.reduceEq, Nat.reduceAdd, Nat.reduceLeDiff, Nat.reduceLT, Nat.reduceEqDiff, S1, h0, h1, h2, h3, h4, h10, h11, h12, h13, ha]
    refine rest2 _ _ (by rw [decide_eq_false ha]; rfl) ⟨?_, ?_, ?_, ?_, ?_, ?_, ?_, ?_⟩ ?_ ⟨di, hd, hn, rfl, hfr⟩
    all_goals simp -implicitDefEqProofs only [op, ef, cl, sq, reduceIte, Int.reduceLT, Int.reduceLE, Int.reduceBEq, Int.reduceBNe, Int.reduceEq, Nat.reduceAdd, Nat.reduceLeDiff, Nat.reduceLT, Nat.reduceEqDiff, S1, h0, h1, h2, h3, h4, h10, h11, h12, h13]
end Go.Proofs.Ytodegnhallgnkaa.St
end

section
namespace Go.Proofs.Ytodegnhallgnkaa.St
open Go.Rmp Go.Proofs.Ytodegnhallgnkaa.Ir
set_option maxRecDepth 10000
set_option maxHeartbeats 8000000
def seqT : C → Nat → C
  | c, 0 => c
  | .seq _ b, k + 1 => seqT b k
  | c, _ => c
open Go.Sort in
theorem pdq_step {d d1 d2 : Array Nm} {a b lim lim1 pv : Nat} {wb wp : Bool} {cp : Nat × Hint} {hi : Hint} {pi : Array Nm × Bool} (h12 : ¬ b - a ≤ 12) (hl : ¬ lim = 0)
    (e1 : d1 = if (!wb) = true then breakPatterns d a b else d) (el : lim1 = if (!wb) = true then lim - 1 else lim) (ec : cp = choosePivot ltM d1 a b) (e2 : d2 = if cp.2 = .decreasing then reverseRange d1 a b else d1)
    (ep : pv = if cp.2 = .decreasing then (b - 1) - (cp.1 - a) else cp.1) (eh : hi = if cp.2 = .decreasing then .increasing else cp.2) (epi : pi = if (wb && wp && hi = .increasing) = true then partialInsertionSort ltM d2 a b else (d2, false)) :
    pdq ltM d a b lim wb wp = if pi.2 = true then pi.1 else if (a > 0 && !ltM pi.1[a - 1]! pi.1[pv]!) = true then (if a < (partitionEqual ltM pi.1 a b pv).1 ∧ (partitionEqual ltM pi.1 a b pv).1 ≤ b then pdq ltM (partitionEqual ltM pi.1 a b pv).2 (partitionEqual ltM pi.1 a b pv).1 b lim1 wb wp else (partitionEqual ltM pi.1 a b pv).2)
      else (if a ≤ (partition ltM pi.1 a b pv).1 ∧ (partition ltM pi.1 a b pv).1 < b then if (partition ltM pi.1 a b pv).1 - a < b - (partition ltM pi.1 a b pv).1 then pdq ltM (pdq ltM (partition ltM pi.1 a b pv).2.2 a (partition ltM pi.1 a b pv).1 lim1 true true) ((partition ltM pi.1 a b pv).1 + 1) b lim1 (decide ((partition ltM pi.1 a b pv).1 - a ≥ (b - a) / 8)) (partition ltM pi.1 a b pv).2.1
        else pdq ltM (pdq ltM (partition ltM pi.1 a b pv).2.2 ((partition ltM pi.1 a b pv).1 + 1) b lim1 true true) a (partition ltM pi.1 a b pv).1 lim1 (decide (b - (partition ltM pi.1 a b pv).1 ≥ (b - a) / 8)) (partition ltM pi.1 a b pv).2.1 else (partition ltM pi.1 a b pv).2.2) := by
  subst epi eh ep e2 ec el e1
  rw [pdq, if_neg h12, if_neg hl]
  rfl
open Go.Sort in
theorem peq_range (d : Array Nm) {a b pv : Nat} (h1 : a ≤ pv) (h2 : pv < b) (hb : b ≤ d.size) : a < (partitionEqual ltM d a b pv).1 ∧ (partitionEqual ltM d a b pv).1 ≤ b := by
  have := partEqLoop_spec (lt := ltM) a b b (a + 1) (b - 1) (swp d a pv) (by omega) (by omega) (by omega) (by omega) (by rw [swp_size]; exact hb) (fun t h h' => by omega) (fun t h h' => by omega)
  exact ⟨this.1, this.2.1⟩
theorem seg0 (A : C) (hA : (bkOf ir69.body 1).map (seqN · 0) = some A) (c n a b lim : Nat) (wb wp : Bool) (R : Regs) (H : Heap) (K : Out → Heap → Prop) (h0 : R 0 = .msl c 0 n 2) (h1 : R 1 = .int .i64 a) (h2 : R 2 = .int .i64 b) (h3 : R 3 = .int .i64 lim) (h4 : R 4 = .fn 40 []) (h10 : R 10 = .bool wb) (h11 : R 11 = .bool wp) (hab : a ≤ b) (hb : b < 16777216)
    (rest : ∀ R', PR R' c n a b lim wb wp → K (.ex .normal R') H) : wpC env A R H K := by
  simp [ir69, bkOf, seqN, sq] at hA
  subst hA
  simp -implicitDefEqProofs (maxSteps := 1000000) (disch := omega) only [natOf_nat, iadm, ldm1, ldm2, stm0, stm1, stm2, wA, wA1, wS, wS1, wM, S2, op, ef, cl, sq, reduceIte, Int.reduceLT, Int.reduceLE, Int.reduceBEq, Int.reduceBNe, Int.reduceEq, Nat.reduceAdd, Nat.reduceLeDiff, Nat.reduceLT, Nat.reduceEqDiff, S1, h0, h1, h2, h3, h4, h10, h11]
  refine rest _ ⟨?_, ?_, ?_, ?_, ?_, ?_, ?_, ?_⟩
  all_goals simp -implicitDefEqProofs only [op, ef, cl, sq, reduceIte, Int.reduceLT, Int.reduceLE, Int.reduceBEq, Int.reduceBNe, Int.reduceEq, Nat.reduceAdd, Nat.reduceLeDiff, Nat.reduceLT, Nat.reduceEqDiff, S1, h0, h1, h2, h3, h4, h10, h11]
open Go.Sort in
theorem seg1 (A : C) (hA : (bkOf ir69.body 1).map (seqN · 1) = some A) (c n a b lim : Nat) (wb wp : Bool) (d : Array Nm) (R : Regs) (H0 H : Heap) (K : Out → Heap → Prop) (hp : PR R c n a b lim wb wp) (hd : SC c n H0 (fun x => x = d) H) (hb : b ≤ n) (hab : a ≤ b) (hs : n < 16777216)
    (rest1 : ∀ R' H', b - a ≤ 12 → SC c n H0 (fun x => x = insertionSort ltM d a b) H' → K (.ex .ret R') H')
    (rest2 : ∀ R', ¬ b - a ≤ 12 → PR R' c n a b lim wb wp → K (.ex .normal R') H) : wpC env A R H K := by
  simp [ir69, bkOf, seqN, sq] at hA
  subst hA
  obtain ⟨h0, h1, h2, h3, h4, h10, h11, h12⟩ := hp
  obtain ⟨di, hc, hn, rfl, hfr⟩ := hd
  by_cases hle : b - a ≤ 12
  · simp -implicitDefEqProofs only [op, ef, cl, sq, reduceIte, Int.reduceLT, Int.reduceLE, Int.reduceBEq, Int.reduceBNe, Int.reduceEq, Nat.reduceAdd, Nat.reduceLeDiff, Nat.reduceLT, Nat.reduceEqDiff, S1, h0, h1, h2, h3, h4, h10, h11, h12, hle]
    have hi := ins75 c di a b H hc (by omega) hab (by omega)
    rw [hn] at hi
    refine callB_of _ _ _ _ _ _ _ _ hi ?_
    rintro u H2 ⟨hu, hd2, hf2⟩
    cases hu
    simp -implicitDefEqProofs only [op, ef, cl, sq, reduceIte, Int.reduceLT, Int.reduceLE, Int.reduceBEq, Int.reduceBNe, Int.reduceEq, Nat.reduceAdd, Nat.reduceLeDiff, Nat.reduceLT, Nat.reduceEqDiff, S1]
    exact rest1 _ _ hle ⟨_, hd2, by rw [(insertionSort_holds ltM_swo di a b hab (by omega)).1.1]; exact hn, rfl, hfr.trans hf2 fun _ h => .inl h⟩
  · simp -implicitDefEqProofs only [op, ef, cl, sq, reduceIte, Int.reduceLT, Int.reduceLE, Int.reduceBEq, Int.reduceBNe, Int.reduceEq, Nat.reduceAdd, Nat.reduceLeDiff, Nat.reduceLT, Nat.reduceEqDiff, S1, h0, h1, h2, h3, h4, h10, h11, h12, hle]
    refine rest2 _ hle ⟨?_, ?_, ?_, ?_, ?_, ?_, ?_, ?_⟩
    all_goals simp -implicitDefEqProofs only [op, ef, cl, sq, reduceIte, Int.reduceLT, Int.reduceLE, Int.reduceBEq, Int.reduceBNe, Int.reduceEq, Nat.reduceAdd, Nat.reduceLeDiff, Nat.reduceLT, Nat.reduceEqDiff, S1, h0, h1, h2, h3, h4, h10, h11, h12]
open Go.Sort in
theorem seg2 (A : C) (hA : (bkOf ir69.body 1).map (seqN · 2) = some A) (c n a b lim : Nat) (wb wp : Bool) (d : Array Nm) (R : Regs) (H0 H : Heap) (K : Out → Heap → Prop) (hp : PR R c n a b lim wb wp) (hd : SC c n H0 (fun x => x = d) H) (hb : b ≤ n) (hab : a + 12 < b) (hs : n < 16777216)
    (rest1 : ∀ R' H', lim = 0 → SC c n H0 (fun x => x = heapSort ltM d a b) H' → K (.ex .ret R') H')
    (rest2 : ∀ R', ¬ lim = 0 → PR R' c n a b lim wb wp → K (.ex .normal R') H) : wpC env A R H K := by
  simp [ir69, bkOf, seqN, sq] at hA
  subst hA
  obtain ⟨h0, h1, h2, h3, h4, h10, h11, h12⟩ := hp
  obtain ⟨di, hc, hn, rfl, hfr⟩ := hd
  by_cases hl : lim = 0
  · subst hl
    have e : (((0 : Nat) : Int) == 0) = true := rfl
    simp -implicitDefEqProofs only [op, ef, cl, sq, reduceIte, Int.reduceLT, Int.reduceLE, Int.reduceBEq, Int.reduceBNe, Int.reduceEq, Nat.reduceAdd, Nat.reduceLeDiff, Nat.reduceLT, Nat.reduceEqDiff, S1, h0, h1, h2, h3, h4, h10, h11, h12, e]
    refine callB_of _ _ _ _ _ _ _ _ (heap76 c n di a b _ hn hc hb (by omega) (by omega)) ?_
    rintro u H2 ⟨hu, d2, hd2, hs2, e2, hf2⟩
    cases hu
    simp -implicitDefEqProofs only [op, ef, cl, sq, reduceIte, Int.reduceLT, Int.reduceLE, Int.reduceBEq, Int.reduceBNe, Int.reduceEq, Nat.reduceAdd, Nat.reduceLeDiff, Nat.reduceLT, Nat.reduceEqDiff, S1]
    exact rest1 _ _ rfl ⟨_, hd2, hs2, e2, hfr.trans hf2 fun _ h => .inl h⟩
  · have e : ((lim : Int) == 0) = false := by simp; omega
    simp -implicitDefEqProofs only [op, ef, cl, sq, reduceIte, Int.reduceLT, Int.reduceLE, Int.reduceBEq, Int.reduceBNe, Int.reduceEq, Nat.reduceAdd, Nat.reduceLeDiff, Nat.reduceLT, Nat.reduceEqDiff, S1, h0, h1, h2, h3, h4, h10, h11, h12, e]
    refine rest2 _ hl ⟨?_, ?_, ?_, ?_, ?_, ?_, ?_, ?_⟩
    all_goals simp -implicitDefEqProofs only [op, ef, cl, sq, reduceIte, Int.reduceLT, Int.reduceLE, Int.reduceBEq, Int.reduceBNe, Int.reduceEq, Nat.reduceAdd, Nat.reduceLeDiff, Nat.reduceLT, Nat.reduceEqDiff, S1, h0, h1, h2, h3, h4, h10, h11, h12]
open Go.Sort in
theorem seg4 (A : C) (hA : (bkOf ir69.body 1).map (seqN · 4) = some A) (c n a b lim : Nat) (wb wp : Bool) (d : Array Nm) (R : Regs) (H0 H : Heap) (K : Out → Heap → Prop) (hp : PR R c n a b lim wb wp) (hd : SC c n H0 (fun x => x = d) H) (hb : b ≤ n) (hab : a + 12 < b) (hs : n < 16777216)
    (rest : ∀ R' H', PR R' c n a b lim wb wp → R' 13 = .int .i64 (choosePivot ltM d a b).1 → R' 14 = .int .i64 (hintN (choosePivot ltM d a b).2) → SC c n H0 (fun x => x = d) H' → K (.ex .normal R') H') : wpC env A R H K := by
  simp [ir69, bkOf, seqN, sq] at hA
  subst hA
  obtain ⟨h0, h1, h2, h3, h4, h10, h11, h12⟩ := hp
  obtain ⟨di, hc, hn, rfl, hfr⟩ := hd
  simp -implicitDefEqProofs only [op, ef, cl, sq, reduceIte, Int.reduceLT, Int.reduceLE, Int.reduceBEq, Int.reduceBNe, Int.reduceEq, Nat.reduceAdd, Nat.reduceLeDiff, Nat.reduceLT, Nat.reduceEqDiff, S1, h0, h1, h2, h3, h4, h10, h11, h12]
  refine callB_of _ _ _ _ _ _ _ _ (choose78 c n di a b _ hn hc hb hab (by omega)) ?_
  rintro u H2 ⟨hu, hx⟩
  cases hu
  simp -implicitDefEqProofs only [op, ef, cl, sq, reduceIte, Int.reduceLT, Int.reduceLE, Int.reduceBEq, Int.reduceBNe, Int.reduceEq, Nat.reduceAdd, Nat.reduceLeDiff, Nat.reduceLT, Nat.reduceEqDiff, S1]
  refine rest _ _ ⟨?_, ?_, ?_, ?_, ?_, ?_, ?_, ?_⟩ ?_ ?_ ⟨di, hx.get hc, hn, rfl, hfr.trans (ext_frm (F := fun _ => False) hx) (fun _ h => h.elim)⟩
  all_goals simp -implicitDefEqProofs only [op, ef, cl, sq, reduceIte, Int.reduceLT, Int.reduceLE, Int.reduceBEq, Int.reduceBNe, Int.reduceEq, Nat.reduceAdd, Nat.reduceLeDiff, Nat.reduceLT, Nat.reduceEqDiff, S1, h0, h1, h2, h3, h4, h10, h11, h12]
theorem wQ8 {a : Nat} (h : a < 9223372036854775808) : IntKind.i64.wrap ((a : Int).tdiv 8) = ((a / 8 : Nat) : Int) := by rw [Int.tdiv_eq_ediv_of_nonneg (by omega), wrap64 (by omega)]; omega
open Go.Sort in
theorem seg8 (A : C) (hA : (bkOf ir69.body 1).map (seqT · 8) = some A) (c n a b lim : Nat) (wb wp : Bool) (d : Array Nm) (pv : Nat) (R : Regs) (H0 H : Heap) (K : Out → Heap → Prop) (hp : PR R c n a b lim wb wp) (h13 : R 13 = .int .i64 pv) (hd : SC c n H0 (fun x => x = d) H) (hb : b ≤ n) (hab : a + 12 < b) (hs : n < 16777216) (hpv : a ≤ pv ∧ pv < b)
    (ih : ∀ a' b' (d' : Array Nm) H', b' - a' < b - a → a' ≤ b' → b' ≤ n → d'.size = n → H'[c]? = some (.cells (msC eN d'.toList)) → W env (.call 69 [.msl c 0 n 2, .int .i64 a', .int .i64 b', .int .i64 lim, .fn 40 []]) H' (SrtN c n (pdq ltM d' a' b' lim true true) H'))
    (rest : ∀ R' H' a' b' (d' : Array Nm) (wb' : Bool), a ≤ a' → a' ≤ b' → b' ≤ b → b' - a' < b - a → R' 0 = .msl c 0 n 2 → R' 1 = .int .i64 (a' : Nat) → R' 2 = .int .i64 (b' : Nat) → R' 3 = .int .i64 lim → R' 4 = .fn 40 [] → R' 10 = .bool wb' → R' 11 = .bool (partition ltM d a b pv).2.1 →
      pdq ltM d' a' b' lim wb' (partition ltM d a b pv).2.1 = (if (partition ltM d a b pv).1 - a < b - (partition ltM d a b pv).1 then pdq ltM (pdq ltM (partition ltM d a b pv).2.2 a (partition ltM d a b pv).1 lim true true) ((partition ltM d a b pv).1 + 1) b lim (decide ((partition ltM d a b pv).1 - a ≥ (b - a) / 8)) (partition ltM d a b pv).2.1
        else pdq ltM (pdq ltM (partition ltM d a b pv).2.2 ((partition ltM d a b pv).1 + 1) b lim true true) a (partition ltM d a b pv).1 lim (decide (b - (partition ltM d a b pv).1 ≥ (b - a) / 8)) (partition ltM d a b pv).2.1) →
      SC c n H0 (fun x => x = d') H' → K (.ex .normal R') H') : wpC env A R H K := by
  simp [ir69, bkOf, seqT, sq] at hA
  subst hA
  obtain ⟨h0, h1, h2, h3, h4, h10, h11, h12⟩ := hp
  obtain ⟨di, hc, hn, rfl, hfr⟩ := hd
  have hrg := partition_holds ltM ltM_swo di a b pv hpv.1 hpv.2 (by omega)
  simp -implicitDefEqProofs only [op, ef, cl, sq, reduceIte, Int.reduceLT, Int.reduceLE, Int.reduceBEq, Int.reduceBNe, Int.reduceEq, Nat.reduceAdd, Nat.reduceLeDiff, Nat.reduceLT, Nat.reduceEqDiff, S1, h0, h1, h2, h3, h4, h10, h11, h12, h13]
  refine callB_of _ _ _ _ _ _ _ _ (part82 c n di a b pv _ hn hc hb (by omega) (by omega) (by omega)) ?_
  rintro u H2 ⟨hu, d2, hd2, hs2, e2, hf2⟩
  cases hu
  generalize partition ltM di a b pv = r at *
  obtain ⟨mid, ap, d4⟩ := r
  simp only at hrg e2 rest ⊢
  subst e2
  obtain ⟨m1, m2, _⟩ := hrg
  have hfr2 := hfr.trans hf2 fun _ h => .inl h
  by_cases hlt : mid - a < b - mid
  · rw [if_pos hlt] at rest
    simp -implicitDefEqProofs (maxSteps := 1000000) (disch := omega) only [natOf_nat, iadm, ldm1, ldm2, stm0, stm1, stm2, wA, wA1, wS, wS1, wM, S2, op, ef, cl, sq, reduceIte, Int.reduceLT, Int.reduceLE, Int.reduceBEq, Int.reduceBNe, Int.reduceEq, Nat.reduceAdd, Nat.reduceLeDiff, Nat.reduceLT, Nat.reduceEqDiff, S1, wQ8, h0, h1, h2, h3, h4, h10, h11, h12, h13, hlt]
    refine callB_of _ _ _ _ _ _ _ _ (ih a mid d2 _ (by omega) m1 (by omega) hs2 hd2) ?_
    rintro u H3 ⟨hu, d3, hd3, hs3, e3, hf3⟩
    cases hu
    simp -implicitDefEqProofs (maxSteps := 1000000) (disch := omega) only [natOf_nat, iadm, ldm1, ldm2, stm0, stm1, stm2, wA, wA1, wS, wS1, wM, S2, op, ef, cl, sq, reduceIte, Int.reduceLT, Int.reduceLE, Int.reduceBEq, Int.reduceBNe, Int.reduceEq, Nat.reduceAdd, Nat.reduceLeDiff, Nat.reduceLT, Nat.reduceEqDiff, S1, h0, h1, h2, h3, h4, h10, h11, h12, h13]
    refine rest _ _ (mid + 1) b d3 (decide ((b - a) / 8 ≤ mid - a)) (by omega) (by omega) (Nat.le_refl _) (by omega) ?_ ?_ ?_ ?_ ?_ ?_ ?_ (by rw [e3]) ⟨d3, hd3, hs3, rfl, hfr2.trans hf3 fun _ h => .inl h⟩
    all_goals simp -implicitDefEqProofs only [op, ef, cl, sq, reduceIte, Int.reduceLT, Int.reduceLE, Int.reduceBEq, Int.reduceBNe, Int.reduceEq, Nat.reduceAdd, Nat.reduceLeDiff, Nat.reduceLT, Nat.reduceEqDiff, S1, h0, h1, h2, h3, h4, h10, h11, h12]
  · rw [if_neg hlt] at rest
    simp -implicitDefEqProofs (maxSteps := 1000000) (disch := omega) only [natOf_nat, iadm, ldm1, ldm2, stm0, stm1, stm2, wA, wA1, wS, wS1, wM, S2, op, ef, cl, sq, reduceIte, Int.reduceLT, Int.reduceLE, Int.reduceBEq, Int.reduceBNe, Int.reduceEq, Nat.reduceAdd, Nat.reduceLeDiff, Nat.reduceLT, Nat.reduceEqDiff, S1, wQ8, h0, h1, h2, h3, h4, h10, h11, h12, h13, hlt]
    refine callB_of _ _ _ _ _ _ _ _ (ih (mid + 1) b d2 _ (by omega) m2 (by omega) hs2 hd2) ?_
    rintro u H3 ⟨hu, d3, hd3, hs3, e3, hf3⟩
    cases hu
    simp -implicitDefEqProofs (maxSteps := 1000000) (disch := omega) only [natOf_nat, iadm, ldm1, ldm2, stm0, stm1, stm2, wA, wA1, wS, wS1, wM, S2, op, ef, cl, sq, reduceIte, Int.reduceLT, Int.reduceLE, Int.reduceBEq, Int.reduceBNe, Int.reduceEq, Nat.reduceAdd, Nat.reduceLeDiff, Nat.reduceLT, Nat.reduceEqDiff, S1, h0, h1, h2, h3, h4, h10, h11, h12, h13]
    refine rest _ _ a mid d3 (decide ((b - a) / 8 ≤ b - mid)) (by omega) (by omega) (by omega) (by omega) ?_ ?_ ?_ ?_ ?_ ?_ ?_ (by rw [e3]) ⟨d3, hd3, hs3, rfl, hfr2.trans hf3 fun _ h => .inl h⟩
    all_goals simp -implicitDefEqProofs only [op, ef, cl, sq, reduceIte, Int.reduceLT, Int.reduceLE, Int.reduceBEq, Int.reduceBNe, Int.reduceEq, Nat.reduceAdd, Nat.reduceLeDiff, Nat.reduceLT, Nat.reduceEqDiff, S1, h0, h1, h2, h3, h4, h10, h11, h12]
end Go.Proofs.Ytodegnhallgnkaa.St
end

section
namespace Go.Proofs.Ytodegnhallgnkaa.St
open Go.Rmp Go.Proofs.Ytodegnhallgnkaa.Ir
set_option maxRecDepth 10000
set_option maxHeartbeats 8000000
open Go.Sort in
theorem pdq64 (c n : Nat) (hs : n < 16777216) : ∀ m a b lim (d : Array Nm) H, b - a = m → a ≤ b → b ≤ n → lim < 1000 → d.size = n → H[c]? = some (.cells (msC eN d.toList)) →
    W env (.call 69 [.msl c 0 n 2, .int .i64 (a : Nat), .int .i64 (b : Nat), .int .i64 (lim : Nat), .fn 40 []]) H (SrtN c n (pdq ltM d a b lim true true) H) := by
  intro m
  induction m using Nat.strongRecOn with
  | _ m ih =>
  intro a b lim d H hm hab hb hlim hn hc
  subst hm
  refine W.fnI rfl rfl rfl ?_
  simp -implicitDefEqProofs only [ir69, op, ef, cl, sq, reduceIte, Int.reduceLT, Int.reduceLE, Int.reduceBEq, Int.reduceBNe, Int.reduceEq, Nat.reduceAdd, Nat.reduceLeDiff, Nat.reduceLT, Nat.reduceEqDiff, S1]
  refine W.loopI (fun (q : Nat × Nat × Nat × Bool × Bool) R H' => At H' (fun H' => SC c n H (fun di => pdq ltM di q.1 q.2.1 q.2.2.1 q.2.2.2.1 q.2.2.2.2 = pdq ltM d a b lim true true) H') ∧ R 0 = .msl c 0 n 2 ∧ R 1 = .int .i64 q.1 ∧ R 2 = .int .i64 q.2.1 ∧ R 3 = .int .i64 q.2.2.1 ∧ R 4 = .fn 40 [] ∧ R 10 = .bool q.2.2.2.1 ∧ R 11 = .bool q.2.2.2.2 ∧ a ≤ q.1 ∧ q.1 ≤ q.2.1 ∧ q.2.1 ≤ b ∧ q.2.2.1 ≤ lim) (fun q => q.2.1 - q.1) (a, b, lim, true, true) ⟨.i ⟨d, hc, hn, rfl, Frm.refl _ _⟩, rfl, rfl, rfl, rfl, rfl, rfl, rfl, Nat.le_refl _, hab, Nat.le_refl _, Nat.le_refl _⟩ ?_
  rintro ⟨a1, b1, l1, wb, wp⟩ R H1 ⟨⟨di, hd, hsz, hP, hfr⟩, h0, h1, h2, h3, h4, h10, h11, q1, q2, q3, q4⟩
  simp only at hP h1 h2 h3 h10 h11 q1 q2 q3 q4 ⊢
  rw [c_block, c_seq]
  refine seg0 _ rfl c n a1 b1 l1 wb wp R H1 _ h0 h1 h2 h3 h4 h10 h11 q2 (by omega) ?_
  intro R1 p1
  rw [then_n, cont_ap, c_seq]
  refine seg1 _ rfl c n a1 b1 l1 wb wp di R1 H H1 _ p1 ⟨di, hd, hsz, rfl, hfr⟩ (by omega) q2 hs ?_ ?_
  · rintro R' H' hle ⟨d', hd', hs', rfl, hf'⟩
    rw [pdq, if_pos hle] at hP
    simp -implicitDefEqProofs only [op, ef, cl, sq, reduceIte, Int.reduceLT, Int.reduceLE, Int.reduceBEq, Int.reduceBNe, Int.reduceEq, Nat.reduceAdd, Nat.reduceLeDiff, Nat.reduceLT, Nat.reduceEqDiff, S1]
    exact ⟨rfl, _, hd', hs', hP, hf'⟩
  intro R2 h12 p2
  rw [then_n, cont_ap, c_seq]
  refine seg2 _ rfl c n a1 b1 l1 wb wp di R2 H H1 _ p2 ⟨di, hd, hsz, rfl, hfr⟩ (by omega) (by omega) hs ?_ ?_
  · rintro R' H' hl0 ⟨d', hd', hs', rfl, hf'⟩
    rw [pdq, if_neg h12, if_pos hl0] at hP
    simp -implicitDefEqProofs only [op, ef, cl, sq, reduceIte, Int.reduceLT, Int.reduceLE, Int.reduceBEq, Int.reduceBNe, Int.reduceEq, Nat.reduceAdd, Nat.reduceLeDiff, Nat.reduceLT, Nat.reduceEqDiff, S1]
    exact ⟨rfl, _, hd', hs', hP, hf'⟩
  intro R3 hl0 p3
  rw [then_n, cont_ap, c_seq]
  refine seg3 _ rfl c n a1 b1 l1 wb wp di R3 H H1 _ p3 ⟨di, hd, hsz, rfl, hfr⟩ (by omega) (by omega) hs (by omega) ?_
  rintro R4 H4 p4 ⟨d1, hd4, hs4, e1, hf4⟩
  obtain ⟨lim1, el⟩ : ∃ l, l = if (!wb) = true then l1 - 1 else l1 := ⟨_, rfl⟩
  have hll : lim1 ≤ l1 := by rw [el]; split <;> omega
  rw [← el] at p4
  rw [then_n, cont_ap, c_seq]
  refine seg4 _ rfl c n a1 b1 lim1 wb wp d1 R4 H H4 _ p4 ⟨d1, hd4, hs4, rfl, hf4⟩ (by omega) (by omega) hs ?_
  rintro R5 H5 p5 h13 h14 ⟨d1', hd5, hs5, e1', hf5⟩
  subst e1'
  have hcr := choosePivot_holds ltM d1' a1 b1 (by omega)
  obtain ⟨cp, ec⟩ : ∃ x, x = choosePivot ltM d1' a1 b1 := ⟨_, rfl⟩
  rw [← ec] at h13 h14 hcr
  rw [then_n, cont_ap, c_seq]
  refine seg5 _ rfl c n a1 b1 lim1 wb wp d1' cp.1 cp.2 R5 H H5 _ p5 h13 h14 ⟨d1', hd5, hs5, rfl, hf5⟩ (by omega) (by omega) hs hcr ?_
  rintro R6 H6 p6 h13 h14 ⟨d2, hd6, hs6, e2, hf6⟩
  obtain ⟨pv, ep⟩ : ∃ x, x = if cp.2 = .decreasing then (b1 - 1) - (cp.1 - a1) else cp.1 := ⟨_, rfl⟩
  obtain ⟨hi, eh⟩ : ∃ x, x = if cp.2 = .decreasing then Hint.increasing else cp.2 := ⟨_, rfl⟩
  rw [← ep] at h13
  rw [← eh] at h14
  have hpv : a1 ≤ pv ∧ pv < b1 := by rw [ep]; split <;> omega
  rw [then_n, cont_ap, c_seq]
  obtain ⟨pi, epi⟩ : ∃ x, x = if (wb && wp && hi = .increasing) = true then partialInsertionSort ltM d2 a1 b1 else (d2, false) := ⟨_, rfl⟩
  rw [pdq_step h12 hl0 e1 el ec e2 ep eh epi] at hP
  refine seg6 _ rfl c n a1 b1 lim1 wb wp d2 pv hi R6 H H6 _ p6 h13 h14 ⟨d2, hd6, hs6, rfl, hf6⟩ (by omega) (by omega) hs pi epi ?_ ?_
  · rintro R' H' hpt ⟨d', hd', hs', rfl, hf'⟩
    rw [if_pos hpt] at hP
    simp -implicitDefEqProofs only [op, ef, cl, sq, reduceIte, Int.reduceLT, Int.reduceLE, Int.reduceBEq, Int.reduceBNe, Int.reduceEq, Nat.reduceAdd, Nat.reduceLeDiff, Nat.reduceLT, Nat.reduceEqDiff, S1]
    exact ⟨rfl, _, hd', hs', hP, hf'⟩
  rintro R7 H7 hpf p7 h13 ⟨d3, hd7, hs7, e3, hf7⟩
  rw [if_neg (by rw [hpf]; simp), ← e3] at hP
  rw [then_n, cont_ap, c_seq]
  refine seg7 _ rfl c n a1 b1 lim1 wb wp d3 pv R7 H H7 _ p7 h13 ⟨d3, hd7, hs7, rfl, hf7⟩ (by omega) (by omega) hs hpv ?_ ?_
  · rintro R' H' hgt g0 g1 g2 g3 g4 g10 g11 ⟨d', hd', hs', e', hf'⟩
    have hr := peq_range d3 hpv.1 hpv.2 (by omega)
    rw [if_pos hgt, if_pos hr, ← e'] at hP
    simp -implicitDefEqProofs only [op, ef, cl, sq, reduceIte, Int.reduceLT, Int.reduceLE, Int.reduceBEq, Int.reduceBNe, Int.reduceEq, Nat.reduceAdd, Nat.reduceLeDiff, Nat.reduceLT, Nat.reduceEqDiff, S1]
    exact ⟨((partitionEqual ltM d3 a1 b1 pv).1, b1, lim1, wb, wp), by simp only; omega, .i ⟨_, hd', hs', hP, hf'⟩, g0, g1, g2, g3, g4, g10, g11, by simp only; omega, by simp only; omega, by simp only; omega, by simp only; omega⟩
  rintro R8 H8 hgt p8 h13 ⟨d3', hd8, hs8, e3', hf8⟩
  subst e3'
  have hr := partition_holds ltM ltM_swo d3' a1 b1 pv hpv.1 hpv.2 (by omega)
  rw [if_neg (by rw [hgt]; simp), if_pos ⟨hr.1, hr.2.1⟩] at hP
  rw [then_n, cont_ap]
  refine seg8 _ rfl c n a1 b1 lim1 wb wp d3' pv R8 H H8 _ p8 h13 ⟨d3', hd8, hs8, rfl, hf8⟩ (by omega) (by omega) hs hpv (fun a' b' d' H' hlt ha' hb' hs' hc' => ih _ (by omega) a' b' lim1 d' H' rfl ha' hb' (by omega) hs' hc') ?_
  rintro R' H' a' b' d' wb' ha' hab' hb' hlt g0 g1 g2 g3 g4 g10 g11 e' ⟨d'', hd', hs', rfl, hf'⟩
  simp -implicitDefEqProofs only [op, ef, cl, sq, reduceIte, Int.reduceLT, Int.reduceLE, Int.reduceBEq, Int.reduceBNe, Int.reduceEq, Nat.reduceAdd, Nat.reduceLeDiff, Nat.reduceLT, Nat.reduceEqDiff, S1]
  exact ⟨(a', b', lim1, wb', (partition ltM d3' a1 b1 pv).2.1), by simp only; omega, .i ⟨_, hd', hs', by simp only; rw [e']; exact hP, hf'⟩, g0, g1, g2, g3, g4, g10, g11, by simp only; omega, hab', by simp only; omega, by simp only; omega⟩
open Go.Sort in
theorem sortF49 (c : Nat) (d : Array Nm) (H : Heap) (hc : H[c]? = some (.cells (msC eN d.toList))) (hs : d.size < 16777216) :
    W env (.call 51 [.msl c 0 d.size 2, .fn 40 []]) H (SrtN c d.size (sort ltM d) H) := by
  refine W.fnI rfl rfl rfl ?_
  have w1 : IntKind.u64.wrap (d.size : Int) = (d.size : Int) := wrapu (by omega)
  simp -implicitDefEqProofs only [ir51, op, ef, cl, sq, reduceIte, Int.reduceLT, Int.reduceLE, Int.reduceBEq, Int.reduceBNe, Int.reduceEq, Nat.reduceAdd, Nat.reduceLeDiff, Nat.reduceLT, Nat.reduceEqDiff, S1, w1]
  refine callB_of _ _ _ _ _ _ _ _ (len65 d.size hs _) ?_
  rintro u H1 ⟨hu, rfl⟩
  cases hu
  have hb := bits_lt (n := d.size) (k := 24) hs
  simp -implicitDefEqProofs only [op, ef, cl, sq, reduceIte, Int.reduceLT, Int.reduceLE, Int.reduceBEq, Int.reduceBNe, Int.reduceEq, Nat.reduceAdd, Nat.reduceLeDiff, Nat.reduceLT, Nat.reduceEqDiff, S1]
  refine callB_of _ _ _ _ _ _ _ _ (pdq64 c d.size hs _ 0 d.size (bitsLen d.size) d _ rfl (Nat.zero_le _) (Nat.le_refl _) (by omega) rfl hc) ?_
  rintro u H2 ⟨hu, h2⟩
  cases hu
  simp -implicitDefEqProofs only [op, ef, cl, sq, reduceIte, Int.reduceLT, Int.reduceLE, Int.reduceBEq, Int.reduceBNe, Int.reduceEq, Nat.reduceAdd, Nat.reduceLeDiff, Nat.reduceLT, Nat.reduceEqDiff, S1]
  exact ⟨rfl, h2⟩
end Go.Proofs.Ytodegnhallgnkaa.St
end

section
namespace Go.Proofs.Ytodegnhallgnkaa.St
open Go.Rmp Go.Proofs.Ytodegnhallgnkaa.Ir
set_option maxRecDepth 10000
theorem sorted_listF {d : Array Nm} (hn : d.toList.Nodup) : (Go.Sort.sort ltM d).toList.Perm d.toList ∧ (Go.Sort.sort ltM d).toList.Pairwise (fun a b => ltM a b = true) := by
  obtain ⟨⟨hs, _, hp⟩, hsort⟩ := Go.Sort.sort_sorts ltM ltM_swo d
  have e1 : (Go.Sort.sort ltM d).extract 0 d.size = Go.Sort.sort ltM d := by
    conv => lhs; arg 3; rw [← hs]
    simp
  have hperm : (Go.Sort.sort ltM d).toList.Perm d.toList := by
    rw [e1] at hp
    simpa using hp
  refine ⟨hperm, ?_⟩
  have hn2 : (Go.Sort.sort ltM d).toList.Nodup := hperm.nodup_iff.2 hn
  rw [List.pairwise_iff_getElem]
  intro i j hi hj hij
  have h1 := hsort i j (Nat.zero_le _) hij (by rw [← hs]; simpa using hj)
  have gi := arr_get (d := Go.Sort.sort ltM d) (i := i) (by simpa using hi)
  have gj := arr_get (d := Go.Sort.sort ltM d) (i := j) (by simpa using hj)
  rw [List.getElem?_eq_getElem hi] at gi
  rw [List.getElem?_eq_getElem hj] at gj
  rw [Option.some.inj gi, Option.some.inj gj]
  cases h : ltM (Go.Sort.sort ltM d)[i]! (Go.Sort.sort ltM d)[j]! with
  | true => rfl
  | false =>
    have e := ltM_tri h h1
    rw [← Option.some.inj gi, ← Option.some.inj gj] at e
    have := (List.getElem_inj hn2).1 e
    omega
theorem sortedF34 (es : List (Nm × T)) (c mb : Nat) (H : Heap) (hnd : (es.map (·.1)).Nodup) (hes : es.length ≤ 8000000) (hc : H[c]? = some (.cells [.map mb])) (hm : H[mb]? = some (.map (encK kN es))) :
    W env (.call 38 [.fn 52 [.ptr c 0], .fn 40 []]) H (SortQ es H) := by
  refine W.fnI rfl rfl rfl ?_
  simp -implicitDefEqProofs only [ir38, op, ef, cl, sq, reduceIte, Int.reduceLT, Int.reduceLE, Int.reduceBEq, Int.reduceBNe, Int.reduceEq, Nat.reduceAdd, Nat.reduceLeDiff, Nat.reduceLT, Nat.reduceEqDiff, S1]
  refine callB_of _ _ _ _ _ _ _ _ (coll48 es c mb H hnd (by omega) hc hm) ?_
  rintro u H1 ⟨hx, t, vis, hu, hmt, hri⟩
  cases hu
  have hperm : vis.Perm (es.map (·.1)) := (List.perm_ext_iff_of_nodup hri.nvis hnd).2 fun k => hri.end' k
  have hvl : vis.length = es.length := by have := hri.len; simpa using this
  rcases hmt with ⟨rfl, rfl⟩ | ⟨d, rfl, hd, hdn⟩
  · simp -implicitDefEqProofs only [op, ef, cl, sq, reduceIte, Int.reduceLT, Int.reduceLE, Int.reduceBEq, Int.reduceBNe, Int.reduceEq, Nat.reduceAdd, Nat.reduceLeDiff, Nat.reduceLT, Nat.reduceEqDiff, S1]
    refine callB_of _ _ _ _ _ _ _ _ (sortE _) ?_
    rintro u H2 ⟨hu, rfl⟩
    cases hu
    simp -implicitDefEqProofs only [op, ef, cl, sq, reduceIte, Int.reduceLT, Int.reduceLE, Int.reduceBEq, Int.reduceBNe, Int.reduceEq, Nat.reduceAdd, Nat.reduceLeDiff, Nat.reduceLT, Nat.reduceEqDiff, S1]
    exact ⟨hx, _, [], rfl, mut_nil _ _ _ _, hperm, List.Pairwise.nil⟩
  · simp -implicitDefEqProofs only [op, ef, cl, sq, reduceIte, Int.reduceLT, Int.reduceLE, Int.reduceBEq, Int.reduceBNe, Int.reduceEq, Nat.reduceAdd, Nat.reduceLeDiff, Nat.reduceLT, Nat.reduceEqDiff, S1]
    have := sortF49 d vis.toArray H1 (by simpa using hd) (by simpa using (by omega : vis.length < 16777216))
    simp -implicitDefEqProofs only [List.size_toArray] at this
    refine callB_of _ _ _ _ _ _ _ _ this ?_
    rintro u H2 ⟨hu, d2, h2, hsz2, rfl, hfr⟩
    cases hu
    simp -implicitDefEqProofs only [op, ef, cl, sq, reduceIte, Int.reduceLT, Int.reduceLE, Int.reduceBEq, Int.reduceBNe, Int.reduceEq, Nat.reduceAdd, Nat.reduceLeDiff, Nat.reduceLT, Nat.reduceEqDiff, S1]
    have hs := sorted_listF (d := vis.toArray) (by simpa using hri.nvis)
    simp -implicitDefEqProofs only [List.size_toArray] at hs
    refine ⟨ext_of fun a x hax => hfr.get (hx.get hax) (by have := glt hax; omega), _, _, rfl, .inr ⟨d, ?_, h2, hdn⟩, hs.1.trans hperm, hs.2⟩
    rw [hs.1.length_eq]
end Go.Proofs.Ytodegnhallgnkaa.St
end

section
namespace Go.Proofs.Ytodegnhallgnkaa.St
open Go.Rmp Go.Proofs.Ytodegnhallgnkaa.Ir
set_option maxRecDepth 10000
theorem mut_n {α : Type} {enc : α → List T} {n : Nat} (hn : ∀ x, (enc x).length = n) (h0 : n ≠ 0) {n0 : Nat} {H : Heap} {t : T} {l : List α} (hm : Mut enc n n0 H t l) {i : Nat} {x : α} (hx : l[i]? = some x) : ∃ b, H[b]? = some (.cells (msC enc l)) ∧ iadT n i t = some (.ptr b (i * n)) ∧ ldcB n (i * n) (some (.cells (msC enc l))) = some (enc x) := by
  have hi := (List.getElem?_eq_some_iff.1 hx).1
  rcases hm with ⟨rfl, _⟩ | ⟨b, rfl, hb, _⟩
  · simp at hi
  · refine ⟨b, hb, by rw [iad_m]; simp [hi, h0], ?_⟩
    have := msC_get hn hx 0 n (by omega)
    simp -implicitDefEqProofs only [Nat.add_zero, List.drop_zero] at this
    rw [this, List.take_of_length_le (by rw [hn]; omega)]
def eK (x : Nm × Hd) : List T := [.str x.1.1, .int .u64 x.1.2, .str x.2.value, .sl .arg (x.2.keys.map eS), .int .i64 x.2.stamp]
def keptL (s : Sto) (l : List Nm) : List (Nm × Hd) := l.map fun n => (n, hdOf (mlook s.vs n))
def KeptQ (s : Sto) (H : Heap) : Out → Heap → Prop := fun o H' => Ext H H' ∧ ∃ k l, KOk k l ∧ o = .val (.sl k ((keptL s l).map eK)) ∧ l.Perm (s.vs.map (·.1)) ∧ l.Pairwise (fun a b => ltM a b = true)
theorem kept20 (b : Bk) (s : Sto) (F : Nat → Prop) (H : Heap) (hs : SH H b s F) (hi : SInv s) (hn : s.vs.length ≤ 8000000) : W env (.call 21 [.ptr b.s 0]) H (KeptQ s H) := by
  obtain ⟨im, pm, sa⟩ := hs
  refine W.fnI rfl rfl rfl ?_
  simp -implicitDefEqProofs only [ir21, op, ef, cl, sq, reduceIte, Int.reduceLT, Int.reduceLE, Int.reduceBEq, Int.reduceBNe, Int.reduceEq, Nat.reduceAdd, Nat.reduceLeDiff, Nat.reduceLT, Nat.reduceEqDiff, S1, sa.hs]
  refine callB_of _ _ _ _ _ _ _ (fun o H' => o = .val (.fn 52 [.ptr H.length 0]) ∧ H' = H ++ [.cells [.map b.v]]) ?_ ?_
  · refine W.fnI rfl rfl rfl ?_
    simp -implicitDefEqProofs only [ir39, op, ef, cl, sq, reduceIte, Int.reduceLT, Int.reduceLE, Int.reduceBEq, Int.reduceBNe, Int.reduceEq, Nat.reduceAdd, Nat.reduceLeDiff, Nat.reduceLT, Nat.reduceEqDiff, S1]
    exact rfl
  rintro u H1 ⟨hu, rfl⟩
  cases hu
  have lv := glt sa.hv
  have hkeys : (encV s.vs).map (·.1) = s.vs.map (·.1) := by simp [encV]
  simp -implicitDefEqProofs only [op, ef, cl, sq, reduceIte, Int.reduceLT, Int.reduceLE, Int.reduceBEq, Int.reduceBNe, Int.reduceEq, Nat.reduceAdd, Nat.reduceLeDiff, Nat.reduceLT, Nat.reduceEqDiff, S1]
  refine callB_of _ _ _ _ _ _ _ _ (sortedF34 (encV s.vs) H.length b.v _ (by rw [hkeys]; exact hi.nd) (by simpa [encV] using hn) (g_tail rfl) (by rw [g_app lv]; exact sa.hv)) ?_
  rintro t H2 ⟨hx2, _, l, hu, hmt, hperm, hpw⟩
  cases hu
  rw [hkeys] at hperm
  have hll : l.length ≤ 8000000 := by rw [hperm.length_eq]; simpa using hn
  have hlen := hmt.len
  have hx0 : Ext H H2 := (Ext.rfl'.app _).trans hx2
  simp -implicitDefEqProofs only [op, ef, cl, sq, reduceIte, Int.reduceLT, Int.reduceLE, Int.reduceBEq, Int.reduceBNe, Int.reduceEq, Nat.reduceAdd, Nat.reduceLeDiff, Nat.reduceLT, Nat.reduceEqDiff, S1, hlen]
  have hlenH : ∀ Hx, lenT Hx .sl t = some l.length := fun Hx => by
    rcases hmt with ⟨e, rfl⟩ | ⟨c, rfl, _, _⟩
    · rw [e]; rfl
    · rfl
  refine W.loopI (fun (i : Nat) R H' => At H' (fun H' => ∃ kw, R 3 = .sl kw ((keptL s (l.take i)).map eK) ∧ Ext H H' ∧ Ext H2 H' ∧ Apd H2.length H' kw ∧ KOk kw (l.take i)) ∧ R 0 = .ptr b.s 0 ∧ R 11 = t ∧ R 12 = .int .i64 l.length ∧ R 13 = .int .i64 i ∧ i ≤ l.length) (fun i => l.length - i) 0 ⟨.i ⟨.nil, rfl, hx0, Ext.rfl', apd_nil _ _, fun _ => rfl⟩, rfl, rfl, rfl, rfl, Nat.zero_le _⟩ ?_
  rintro i R H3 ⟨⟨kw, h3, hx3, hx23, hap, hko⟩, h0, h11, h12, h13, hil⟩
  by_cases hlt : i < l.length
  · obtain ⟨m, hm⟩ := getP hlt
    have ws := wrap_succ (show i < 9223372036854775807 by omega)
    obtain ⟨c, g1, g2, g3⟩ := mut_n (enc := eN) (n := 2) (fun _ => rfl) (by decide) (hmt.ext hx23) hm
    have sa3 := sa.frm (ext_frm (F := fun _ => False) hx3) (fun _ _ _ h => h)
    have l0 := glt sa3.hs
    have lv3 := glt sa3.hv
    have hlk := fun Hx z ok => lkpB_K kNok z ok Hx (encV s.vs) m
    simp -implicitDefEqProofs only [kN, eN] at hlk
    have hh := lkp_hd s.vs m
    simp -implicitDefEqProofs only [op, ef, cl, sq, reduceIte, Int.reduceLT, Int.reduceLE, Int.reduceBEq, Int.reduceBNe, Int.reduceEq, Nat.reduceAdd, Nat.reduceLeDiff, Nat.reduceLT, Nat.reduceEqDiff, S1, S2, S3, List.length_set, h0, h11, h12, h13, hlt, natOf_nat, g1, g2, g3, eN, sa3.hs, sa3.hv, l0, lv3, hlk, hh, encHd]
    refine callB_of _ _ _ _ _ _ _ _ (version30 b s F m.1 m.2 _ ⟨im, pm, sa3.frm (ext_frm (F := fun _ => False) (Ext.rfl'.app _)) (fun _ _ _ h => h)⟩ hi) ?_
    rintro u H4 ⟨hx4, kk, hkk, hu⟩
    cases hu
    have c0 : H4[H3.length]? = some (.cells [.str m.1, .int .u64 m.2]) := hx4.get (by rw [g_tail rfl])
    have hx34 : Ext H3 H4 := (Ext.rfl'.app _).trans hx4
    have s4 := hx34.get sa3.hs
    have v4 := hx34.get sa3.hv
    obtain ⟨hd, hhd⟩ : ∃ hd, hd = hdOf (mlook s.vs m) := ⟨_, rfl⟩
    rw [← hhd] at hh hkk
    have hall := all_map (enc := eK) (n := 5) (fun _ => rfl) (keptL s (l.take i))
    have hkl : ((keptL s (l.take i)).map eK).length ≤ 8000000 := by simp -implicitDefEqProofs only [keptL, List.length_map, List.length_take]; omega
    obtain ⟨k', H5, ha, hap', hst⟩ := app_ok (bytes := 72) ((keptL s (l.take i)).map eK) [[T.str m.1, .int .u64 m.2, .str hd.value, .sl .arg (hd.keys.map eS), .int .i64 hd.stamp]] (hap.ext hx34) (Nat.le_trans hx23.len hx34.len) (by simp) (roomT (by simp -implicitDefEqProofs only [List.length_cons, List.length_nil]; omega))
    have hnn := app_nn ha (by simp)
    simp -implicitDefEqProofs only [op, ef, cl, sq, reduceIte, Int.reduceLT, Int.reduceLE, Int.reduceBEq, Int.reduceBNe, Int.reduceEq, Nat.reduceAdd, Nat.reduceLeDiff, Nat.reduceLT, Nat.reduceEqDiff, S1] at ha
    simp -implicitDefEqProofs only [op, ef, cl, sq, reduceIte, Int.reduceLT, Int.reduceLE, Int.reduceBEq, Int.reduceBNe, Int.reduceEq, Nat.reduceAdd, Nat.reduceLeDiff, Nat.reduceLT, Nat.reduceEqDiff, S1, eVer, h3, c0, s4, v4, hlk, hh, encHd, ← hhd, hall, ha, h0, h11, h12, h13, ws]
    refine ⟨i + 1, by omega, .i ⟨k', ?_, hst.ext H (by have := hx0.len; omega) (hx3.trans hx34), hst.ext H2 (Nat.le_refl _) (hx23.trans hx34), hap', fun h => absurd h hnn⟩, rfl, by omega⟩
    rw [take_sn hm]
    simp -implicitDefEqProofs only [keptL, List.map_append, List.map_cons, List.map_nil, eK, ← hhd]
  · have hil' : i = l.length := by omega
    subst hil'
    rw [List.take_length] at h3 hko
    simp -implicitDefEqProofs only [op, ef, cl, sq, reduceIte, Int.reduceLT, Int.reduceLE, Int.reduceBEq, Int.reduceBNe, Int.reduceEq, Nat.reduceAdd, Nat.reduceLeDiff, Nat.reduceLT, Nat.reduceEqDiff, S1, h3, h12, h13, hlt]
    exact ⟨hx3, kw, l, hko, rfl, hperm, hpw⟩
end Go.Proofs.Ytodegnhallgnkaa.St
end

section
namespace Go.Proofs.Ytodegnhallgnkaa.St
open Go.Rmp Go.Proofs.Ytodegnhallgnkaa.Ir
set_option maxRecDepth 10000
theorem sorted_eq : ∀ (l l' : List Nm), l.Pairwise (fun a b => ltM a b = true) → l'.Pairwise (fun a b => ltM a b = true) → (∀ x, x ∈ l ↔ x ∈ l') → l = l'
  | [], [], _, _, _ => rfl
  | [], b :: l', _, _, h => by have := (h b).2 (by simp); simp at this
  | a :: l, [], _, _, h => by have := (h a).1 (by simp); simp at this
  | a :: l, b :: l', h1, h2, h => by
    rw [List.pairwise_cons] at h1 h2
    have e : a = b := by
      rcases List.mem_cons.1 ((h a).1 (by simp)) with e | e
      · exact e
      · rcases List.mem_cons.1 ((h b).2 (by simp)) with e2 | e2
        · exact e2.symm
        · have q1 := h2.1 a e
          have q2 := h1.1 b e2
          have := ltM_trans q1 q2
          rw [ltM_irr] at this; cases this
    subst e
    rw [sorted_eq l l' h1.2 h2.2 fun x => ?_]
    have hx := h x
    simp -implicitDefEqProofs only [List.mem_cons] at hx
    constructor
    · intro hm
      rcases hx.1 (.inr hm) with e | e
      · subst e; have := h1.1 x hm; rw [ltM_irr] at this; cases this
      · exact e
    · intro hm
      rcases hx.2 (.inr hm) with e | e
      · subst e; have := h2.1 x hm; rw [ltM_irr] at this; cases this
      · exact e
theorem mem_keys {α β : Type} [DecidableEq α] {es : List (α × β)} {k : α} : k ∈ es.map (·.1) ↔ (mlook es k).isSome = true := by
  cases h : mlook es k with
  | none => simp [mlook_none.1 h]
  | some v =>
    simp -implicitDefEqProofs only [Option.isSome_some, iff_true]
    exact List.mem_map.2 ⟨_, mlook_mem h, rfl⟩
theorem len_eq {α : Type} {l l' : List α} (h1 : l.Nodup) (h2 : l'.Nodup) (h : ∀ x, x ∈ l ↔ x ∈ l') : l.length = l'.length := ((List.perm_ext_iff_of_nodup h1 h2).2 h).length_eq
def tA : ByteArray := ⟨#[97]⟩
def tB : ByteArray := ⟨#[98]⟩
def tX : ByteArray := ⟨#[120]⟩
def tY : ByteArray := ⟨#[121]⟩
end Go.Proofs.Ytodegnhallgnkaa.St
end

section
namespace Go.Proofs.Ytodegnhallgnkaa.St
open Go.Rmp Go.Proofs.Ytodegnhallgnkaa.Ir
set_option maxRecDepth 10000
theorem SH.ext {H H' : Heap} {b : Bk} {s : Sto} {F : Nat → Prop} (h : SH H b s F) (hx : Ext H H') : SH H' b s F := by
  obtain ⟨im, pm, sa⟩ := h
  exact ⟨im, pm, sa.frm (ext_frm (F := fun _ => False) hx) (fun _ _ _ h => h)⟩
theorem Frm.more {H H' H'' : Heap} {G : Nat → Prop} (h : Frm (fun _ => False) H H') (h' : Frm G H' H'') (hg : ∀ c, G c → H.length ≤ c) : Frm (fun _ => False) H H'' := h.trans h' fun c hc => .inr (hg c hc)
theorem Frm.ext {H H' H'' : Heap} {F : Nat → Prop} (h : Frm F H H') (h' : Ext H' H'') : Frm F H H'' := h.trans (ext_frm (F := fun _ => False) h') fun c hc => hc.elim
theorem frm_ext {H H' : Heap} (h : Frm (fun _ => False) H H') : Ext H H' := ext_of fun c x hx => h.get hx id
theorem li1 {k : SK} {a b c : List T} (h : b.length = 5) : iadT 5 1 (.sl k [a, b, c]) = some (.iptr b) := by simp [iadT, h]
end Go.Proofs.Ytodegnhallgnkaa.St
end

section
namespace Go.Proofs.Ytodegnhallgnkaa.St
open Go.Rmp Go.Proofs.Ytodegnhallgnkaa.Ir
set_option maxRecDepth 10000
def I64 (n : Int) : Prop := -9223372036854775808 ≤ n ∧ n ≤ 9223372036854775807
def pairsOf (ks : List ByteArray) (v : ByteArray) : List (ByteArray × ByteArray) := ks.map fun k => (k, v)
theorem pairsOf_keys (ks : List ByteArray) (v : ByteArray) : (pairsOf ks v).map (·.1) = ks := by simp [pairsOf, Function.comp_def]
end Go.Proofs.Ytodegnhallgnkaa.St
end

section
namespace Go.Proofs.Ytodegnhallgnkaa.St
open Go.Rmp Go.Proofs.Ytodegnhallgnkaa.Ir
set_option maxRecDepth 10000
def Stm (s : Sto) : Prop := ∀ m h, mlook s.vs m = some h → (h.stamp = -1 ↔ ¬ (m.2 < lastOf s m.1))
theorem Stm.emp : Stm Sto.emp := fun m h hm => by simp [Sto.emp, mlook_nil] at hm
theorem Stm.put {s s' : Sto} {n : Nat} {ks : List ByteArray} {v : ByteArray} {now : Int} {fr : Bool} (hs : Stm s) (hp : PutV s s' n (pairsOf ks v) ks now fr) (ht : 0 ≤ now) : Stm s' := by
  have hl : ∀ k, lastOf s' k = lastOf s k := fun k => by simp [lastOf, hp.ls]
  intro m h hm
  rw [hl]
  by_cases hc : m.2 = n ∧ m.1 ∈ ks
  · obtain ⟨h1, h2⟩ := hc
    have hmem : (m.1, v) ∈ pairsOf ks v := List.mem_map.2 ⟨m.1, h2, rfl⟩
    have e : m = (m.1, n) := Prod.ext rfl h1
    cases hv : mlook s.vs (m.1, n) with
    | some x =>
      have := hp.old _ hmem x hv
      rw [e, this] at hm; cases hm
      exact hs m h (by rw [e]; exact hv)
    | none =>
      obtain ⟨kk, _, hnew⟩ := hp.new _ hmem hv
      rw [e, hnew] at hm; cases hm
      simp -implicitDefEqProofs only [h1]
      by_cases hlt : n < lastOf s m.1
      · simp [hlt]; omega
      · simp [hlt]
  · rw [hp.other m (if h1 : m.2 = n then .inr (by rw [pairsOf_keys]; exact fun h2 => hc ⟨h1, h2⟩) else .inl h1)] at hm
    exact hs m h hm
theorem com_on {s s' : Sto} {n : Nat} {now : Int} {D : List ByteArray} (hc : ComV s s' n now D) {k : ByteArray} (h1 : k ∈ D) (h2 : lastOf s k < n) : lastOf s' k = n := by simp [lastOf, hc.on k h1 h2]
theorem com_off {s s' : Sto} {n : Nat} {now : Int} {D : List ByteArray} (hc : ComV s s' n now D) {k : ByteArray} (h : ¬ (k ∈ D ∧ lastOf s k < n)) : lastOf s' k = lastOf s k := by simp [lastOf, hc.off k h]
theorem Stm.com {s s' : Sto} {n : Nat} {now : Int} {D : List ByteArray} (hs : Stm s) (hc : ComV s s' n now D) (ht : 0 ≤ now) : Stm s' := by
  intro m h hm
  obtain ⟨h1, h2⟩ := hc.vs.2 m
  cases hv : mlook s.vs m with
  | none => rw [h1 hv] at hm; cases hm
  | some x =>
    have hx := hs m x hv
    by_cases hS : (m.1 ∈ D ∧ lastOf s m.1 < n ∧ m.2 < n) ∧ x.stamp = -1
    · rw [(h2 x hv).1 hS] at hm; cases hm
      rw [com_on hc hS.1.1 hS.1.2.1]
      have e : (stamped x now).stamp = now := rfl
      have h3 := hS.1.2.2
      rw [e]
      constructor
      · intro h; omega
      · intro h; exact absurd h3 h
    · rw [(h2 x hv).2 hS] at hm; cases hm
      by_cases hd : m.1 ∈ D ∧ lastOf s m.1 < n
      · rw [com_on hc hd.1 hd.2]
        by_cases hlt : m.2 < n
        · have : h.stamp ≠ -1 := fun e => hS ⟨⟨hd.1, hd.2, hlt⟩, e⟩
          exact ⟨fun e => absurd e this, fun e => absurd hlt e⟩
        · have : ¬ (m.2 < lastOf s m.1) := by omega
          exact ⟨fun _ => hlt, fun _ => hx.2 this⟩
      · rw [com_off hc hd]; exact hx
theorem Stm.drop {s : Sto} (hi : SInv s) (hs : Stm s) (k : ByteArray) (n : Nat) : Stm (s.drop k n) := by
  intro m h hm
  simp -implicitDefEqProofs only [Sto.drop, mcut_look hi.nd] at hm
  split at hm
  · cases hm
  · exact hs m h hm
theorem SH.set1 {H : Heap} {b : Bk} {s : Sto} {F : Nat → Prop} {L : Nat} {x : B} (h : SH H b s F) (hF : ¬ F L) : SH (H.set L x) b s F := by
  obtain ⟨im, pm, h⟩ := h
  exact ⟨im, pm, h.frm (G := fun c => c = L) ⟨by simp, fun c _ hne => List.getElem?_set_ne (fun e => hne e.symm)⟩ fun c hc _ e => hF (e ▸ hc)⟩
end Go.Proofs.Ytodegnhallgnkaa.St
end

section
namespace Go.Proofs.Ytodegnhallgnkaa.St
open Go.Rmp Go.Proofs.Ytodegnhallgnkaa.Ir
set_option maxRecDepth 10000
end Go.Proofs.Ytodegnhallgnkaa.St
end

section
namespace Go.Proofs.Ytodegnhallgnkaa.St
open Go.Rmp Go.Proofs.Ytodegnhallgnkaa.Ir
set_option maxRecDepth 10000
end Go.Proofs.Ytodegnhallgnkaa.St
end

section
namespace Go.Proofs.Ytodegnhallgnkaa.St
open Go.Rmp Go.Proofs.Ytodegnhallgnkaa.Ir
set_option maxRecDepth 10000
structure Vd where
  value : ByteArray
  keys : List ByteArray
  stamp : Int
def Hd.vd (h : Hd) : Vd := ⟨h.value, h.keys, h.stamp⟩
structure Ab where
  v : Nm → Option Vd
  l : ByteArray → Option Nat
def Ab.last (a : Ab) (k : ByteArray) : Nat := (a.l k).getD 0
def Ab.has (a : Ab) (m : Nm) : Bool := (a.v m).isSome
def absS (s : Sto) : Ab := ⟨fun m => (mlook s.vs m).map Hd.vd, fun k => mlook s.ls k⟩
def Ab.emp : Ab := ⟨fun _ => none, fun _ => none⟩
def Ab.put (a : Ab) (n : Nat) (l : List (ByteArray × ByteArray)) (ks : List ByteArray) (now : Int) : Ab :=
  ⟨fun m => match a.v m with
    | some h => some h
    | none => if m.2 = n then (mlook l m.1).map fun v => ⟨v, ks, if n < a.last m.1 then now else -1⟩ else none, a.l⟩
def Ab.fresh (a : Ab) (n : Nat) (l : List (ByteArray × ByteArray)) : Bool := l.any fun p => !a.has (p.1, n)
def Ab.com (a : Ab) (n : Nat) (now : Int) : Ab :=
  ⟨fun m => (a.v m).map fun h => if h.stamp = -1 ∧ a.has (m.1, n) = true ∧ a.last m.1 < n ∧ m.2 < n then { h with stamp := now } else h,
   fun k => if a.has (k, n) = true ∧ a.last k < n then some n else a.l k⟩
def Ab.cut (a : Ab) (m0 : Nm) : Ab := ⟨fun m => if m = m0 then none else a.v m, a.l⟩
theorem ab_ext {a b : Ab} (h1 : ∀ m, a.v m = b.v m) (h2 : ∀ k, a.l k = b.l k) : a = b := by
  cases a; cases b; simp -implicitDefEqProofs only [Ab.mk.injEq]; exact ⟨funext h1, funext h2⟩
theorem mlook_of {α β : Type} [DecidableEq α] {es : List (α × β)} (hn : (es.map (·.1)).Nodup) {p : α × β} (hp : p ∈ es) : mlook es p.1 = some p.2 := by
  induction es with
  | nil => cases hp
  | cons e es ih =>
    rw [List.map_cons, List.nodup_cons] at hn
    rw [mlook_cons]
    rcases List.mem_cons.1 hp with rfl | hp
    · simp
    · rw [if_neg, ih hn.2 hp]
      intro h
      exact hn.1 (h ▸ List.mem_map.2 ⟨p, hp, rfl⟩)
theorem PutV.abs {s s' : Sto} {n : Nat} {l : List (ByteArray × ByteArray)} {ks : List ByteArray} {now : Int} {fr : Bool} (h : PutV s s' n l ks now fr) (hn : (l.map (·.1)).Nodup) : absS s' = (absS s).put n l ks now := by
  refine ab_ext (fun m => ?_) fun k => by simp -implicitDefEqProofs only [absS, Ab.put, h.ls]
  simp -implicitDefEqProofs only [absS, Ab.put]
  by_cases hm : m.2 = n ∧ m.1 ∈ l.map (·.1)
  · obtain ⟨rfl, hm⟩ := hm
    obtain ⟨p, hp, hpm⟩ := List.mem_map.1 hm
    have e : m = (p.1, m.2) := by rw [hpm]
    cases hl : mlook s.vs m with
    | some x =>
      have := h.old p hp x (by rw [← e]; exact hl)
      rw [← e] at this
      simp [this]
    | none =>
      obtain ⟨kk, _, h2⟩ := h.new p hp (by rw [← e]; exact hl)
      rw [← e] at h2
      have h3 := mlook_of hn hp
      rw [hpm] at h3 h2
      simp -implicitDefEqProofs only [h2, h3, Hd.vd, Option.map_some, Option.map_none, if_true]; rfl
  · have h1 := h.other m (by
      by_cases e : m.2 = n
      · exact .inr fun h => hm ⟨e, h⟩
      · exact .inl e)
    rw [h1]
    cases hl : mlook s.vs m with
    | some x => simp
    | none =>
      simp -implicitDefEqProofs only [Option.map_none]
      split
      · rename_i e
        rw [mlook_none.2 fun h => hm ⟨e, h⟩]; rfl
      · rfl
theorem PutV.fr {s s' : Sto} {n : Nat} {l : List (ByteArray × ByteArray)} {ks : List ByteArray} {now : Int} {fr : Bool} (h : PutV s s' n l ks now fr) : fr = (absS s).fresh n l := by
  rw [Bool.eq_iff_iff, h.fresh]
  simp -implicitDefEqProofs only [Ab.fresh, List.any_eq_true, Ab.has, absS, Option.isSome_map, Bool.not_eq_true', Option.isSome_eq_false_iff, Option.isNone_iff_eq_none]
theorem ComV.abs {s s' : Sto} {n : Nat} {now : Int} (hi : SInv s) (h : ComV s s' n now (s.pls n)) : absS s' = (absS s).com n now := by
  have hp : ∀ k, k ∈ s.pls n ↔ (absS s).has (k, n) = true := fun k => by rw [hi.plm]; simp [Ab.has, absS]
  have hlast : ∀ k, lastOf s k = (absS s).last k := fun _ => rfl
  have hv : ∀ m, (absS s).v m = (mlook s.vs m).map Hd.vd := fun _ => rfl
  have hl' : ∀ k, (absS s).l k = mlook s.ls k := fun _ => rfl
  obtain ⟨a, ha⟩ : ∃ a, a = absS s := ⟨_, rfl⟩
  rw [← ha] at hp hlast hv hl' ⊢
  refine ab_ext (fun m => ?_) fun k => ?_
  · obtain ⟨h1, h2⟩ := h.vs.2 m
    show (mlook s'.vs m).map Hd.vd = (a.v m).map _
    rw [hv]
    cases hl : mlook s.vs m with
    | none => rw [h1 hl]; rfl
    | some x =>
      obtain ⟨h3, h4⟩ := h2 x hl
      by_cases hc : (m.1 ∈ s.pls n ∧ lastOf s m.1 < n ∧ m.2 < n) ∧ x.stamp = -1
      · rw [h3 hc]
        simp -implicitDefEqProofs only [Option.map_some, Option.some.injEq]
        rw [if_pos ⟨hc.2, (hp _).1 hc.1.1, hlast _ ▸ hc.1.2.1, hc.1.2.2⟩]; rfl
      · rw [h4 hc]
        simp -implicitDefEqProofs only [Option.map_some, Option.some.injEq]
        rw [if_neg]
        rintro ⟨a, b, c, d⟩
        exact hc ⟨⟨(hp _).2 b, by rw [hlast]; exact c, d⟩, a⟩
  · show mlook s'.ls k = if _ then _ else a.l k
    rw [hl']
    by_cases hc : k ∈ s.pls n ∧ lastOf s k < n
    · rw [h.on k hc.1 hc.2, if_pos ⟨(hp _).1 hc.1, by rw [← hlast]; exact hc.2⟩]
    · rw [h.off k hc, if_neg fun hh => hc ⟨(hp _).2 hh.1, by rw [hlast]; exact hh.2⟩]
theorem drop_abs {s : Sto} (hi : SInv s) (k : ByteArray) (n : Nat) : absS (s.drop k n) = (absS s).cut (k, n) := by
  refine ab_ext (fun m => ?_) fun k => rfl
  simp -implicitDefEqProofs only [absS, Ab.cut, Sto.drop, mcut_look hi.nd]
  split <;> rfl
theorem nd_le {α : Type} : ∀ {l l' : List α}, l.Nodup → (∀ x ∈ l, x ∈ l') → l.length ≤ l'.length
  | [], _, _, _ => Nat.zero_le _
  | x :: l, l', hn, hs => by
    obtain ⟨a, b, rfl⟩ := List.append_of_mem (hs x List.mem_cons_self)
    rw [List.nodup_cons] at hn
    have := nd_le (l := l) (l' := a ++ b) hn.2 fun y hy => by
      have h := hs y (List.mem_cons_of_mem _ hy)
      rcases List.mem_append.1 h with h | h
      · exact List.mem_append_left _ h
      · rcases List.mem_cons.1 h with rfl | h
        · exact absurd hy hn.1
        · exact List.mem_append_right _ h
    simp -implicitDefEqProofs only [List.length_append, List.length_cons] at this ⊢
    omega
theorem PutV.vlen {s s' : Sto} {n : Nat} {l : List (ByteArray × ByteArray)} {ks : List ByteArray} {now : Int} {fr : Bool} (h : PutV s s' n l ks now fr) (hi : SInv s') : s'.vs.length ≤ s.vs.length + l.length := by
  have := nd_le (l := s'.vs.map (·.1)) (l' := s.vs.map (·.1) ++ l.map fun p => (p.1, n)) hi.nd fun m hm => by
    rw [List.mem_append]
    by_cases hc : m.2 = n ∧ m.1 ∈ l.map (·.1)
    · obtain ⟨p, hp, e⟩ := List.mem_map.1 hc.2
      exact .inr (List.mem_map.2 ⟨p, hp, by rw [e, ← hc.1]⟩)
    · refine .inl ?_
      rw [mem_keys] at hm ⊢
      rwa [h.other m (by
        by_cases e : m.2 = n
        · exact .inr fun h => hc ⟨e, h⟩
        · exact .inl e)] at hm
  simpa using this
theorem VS.vlen {v v' : List (Nm × Hd)} {now : Int} {S : Nm → Prop} (h : VS v v' now S) (hn : (v.map (·.1)).Nodup) : v'.length = v.length := by
  have := len_eq h.1 hn fun m => by rw [mem_keys, mem_keys, h.some]
  simpa using this
def AtS (H : Heap) (b : Bk) (a : Ab) (F : Nat → Prop) (n : Nat) : Prop := ∃ s, SH H b s F ∧ SInv s ∧ absS s = a ∧ s.n ≤ n ∧ s.vs.length ≤ n
theorem AtS.ext {H H' : Heap} {b : Bk} {a : Ab} {F : Nat → Prop} {n : Nat} (h : AtS H b a F n) (hx : Ext H H') : AtS H' b a F n := by
  obtain ⟨s, h1, h2⟩ := h
  exact ⟨s, h1.ext hx, h2⟩
theorem AtS.le {H : Heap} {b : Bk} {a : Ab} {F : Nat → Prop} {n m : Nat} (h : AtS H b a F n) (hm : n ≤ m) : AtS H b a F m := by
  obtain ⟨s, h1, h2, h3, h4, h5⟩ := h
  exact ⟨s, h1, h2, h3, by omega, by omega⟩
theorem AtS.frm {H H' : Heap} {b : Bk} {a : Ab} {F G : Nat → Prop} {n : Nat} (h : AtS H b a F n) (hf : Frm G H H') (hg : ∀ c, F c → c < H.length → ¬ G c) : AtS H' b a F n := by
  obtain ⟨s, ⟨im, pm, sa⟩, h2⟩ := h
  exact ⟨s, ⟨im, pm, sa.frm hf hg⟩, h2⟩
def Gro (F F' : Nat → Prop) (H H' : Heap) : Prop := ∀ c, F' c → F c ∨ (H.length ≤ c ∧ c < H'.length)
theorem newA (H : Heap) : W env (.call 12 []) H (fun o H' => Ext H H' ∧ ∃ b F, o = .val (.ptr b.s 0) ∧ AtS H' b Ab.emp F 0 ∧ ∀ c, F c → H.length ≤ c ∧ c < H'.length) :=
  W.use (new7 H) fun o H' ⟨hx, b, F, hu, sh, hF⟩ => ⟨hx, b, F, hu, ⟨_, sh, SInv.emp, rfl, Nat.le_refl _, Nat.le_refl _⟩, hF⟩
theorem may_nd {n : Nat} {l : List (ByteArray × ByteArray)} {ks : List ByteArray} (h : MayP n l ks) : (l.map (·.1)).Nodup := by
  refine List.pairwise_map.2 (List.pairwise_iff_getElem.2 fun i j hi hj hij e => ?_)
  have := pairs_lt h i j _ _ hij (List.getElem?_eq_getElem hi) (List.getElem?_eq_getElem hj)
  rw [e, lt_irr] at this; cases this
def PutAQ (b : Bk) (a : Ab) (F : Nat → Prop) (m n : Nat) (l : List (ByteArray × ByteArray)) (ks : List ByteArray) (now : Int) (H : Heap) : Out → Heap → Prop := fun o H' =>
  ∃ F', o = .val (.tup [.bool (a.fresh n l), .int .i64 0]) ∧ AtS H' b (a.put n l ks now) F' (m + l.length) ∧ Frm F H H' ∧ Gro F F' H H'
theorem putA {b : Bk} {a : Ab} {F : Nat → Prop} {m : Nat} (n : Nat) (k k' : SK) (l : List (ByteArray × ByteArray)) (ks : List ByteArray) (now : Int) {H : Heap} (h : AtS H b a F m) (hn : m + l.length ≤ 8000000) (hko : KOk k' ks) (hm : MayP n l ks) (ht : TickOk now) :
    W env (.call 14 [.ptr b.s 0, .int .u64 n, .sl k (l.map eP), .sl k' (ks.map eS), .int .i64 now]) H (PutAQ b a F m n l ks now H) := by
  obtain ⟨s, sh, hi, rfl, h4, h5⟩ := h
  refine W.use (put28 b s F n k k' l ks now H sh hi (by omega) hko hm ht) fun o H' ⟨s', F', fr, hu, sh', hi', hp, hn', hfr, hg⟩ => ⟨F', ?_, ⟨s', sh', hi', hp.abs (may_nd hm), by omega, ?_⟩, hfr, hg⟩
  · rw [hu, hp.fr]
  · have := hp.vlen hi'; omega
def ComAQ (b : Bk) (a : Ab) (F : Nat → Prop) (m n : Nat) (now : Int) (H : Heap) : Out → Heap → Prop := fun o H' =>
  ∃ D : List ByteArray, D.Nodup ∧ (∀ k, k ∈ D ↔ a.has (k, n) = true) ∧ o = .val (.tup [.int .i64 D.length, .int .i64 0]) ∧ AtS H' b (a.com n now) F m ∧ Frm F H H'
theorem comA {b : Bk} {a : Ab} {F : Nat → Prop} {m : Nat} (n : Nat) (now : Int) {H : Heap} (h : AtS H b a F m) (hn : m ≤ 8000000) (hid : 65536 ≤ n) (ht : TickOk now) : W env (.call 18 [.ptr b.s 0, .int .u64 n, .int .i64 now]) H (ComAQ b a F m n now H) := by
  obtain ⟨s, sh, hi, rfl, h4, h5⟩ := h
  refine W.use (commit14 b s F n now H sh hi (by omega) hid ht) fun o H' ⟨s', hu, sh', hi', hc, hn', _, _, hfr⟩ => ⟨s.pls n, hi.pnd n, fun k => ?_, hu, ⟨s', sh', hi', hc.abs hi, by omega, ?_⟩, hfr⟩
  · rw [hi.plm]; simp [Ab.has, absS]
  · have := hc.vs.vlen hi.nd; omega
def DropAQ (b : Bk) (a : Ab) (F : Nat → Prop) (m : Nat) (k : ByteArray) (n : Nat) (H : Heap) : Out → Heap → Prop := fun o H' =>
  (a.v (k, n) = none ∧ o = .val (.int .i64 110) ∧ Ext H H') ∨ (∃ h, a.v (k, n) = some h ∧ h.stamp = -1 ∧ o = .val (.int .i64 1) ∧ Ext H H') ∨
  ∃ h, a.v (k, n) = some h ∧ h.stamp ≠ -1 ∧ o = .val (.int .i64 0) ∧ AtS H' b (a.cut (k, n)) F m ∧ Frm F H H'
theorem mcut_len {α β : Type} [DecidableEq α] (es : List (α × β)) (k : α) : (mcut es k).length ≤ es.length := by
  unfold mcut; split
  · exact List.length_eraseIdx_le es _
  · exact Nat.le_refl _
theorem dropA {b : Bk} {a : Ab} {F : Nat → Prop} {m : Nat} (k : ByteArray) (n : Nat) {H : Heap} (h : AtS H b a F m) (hn : m ≤ 8000000) : W env (.call 31 [.ptr b.s 0, .str k, .int .u64 n]) H (DropAQ b a F m k n H) := by
  obtain ⟨s, sh, hi, rfl, h4, h5⟩ := h
  refine W.use (drop15 b s F k n H sh hi (by omega)) fun o H' hq => ?_
  rcases hq with ⟨h1, hu, hx⟩ | ⟨h, h1, h2, hu, hx⟩ | ⟨h, h1, h2, hu, sh', hfr⟩
  · exact .inl ⟨by simp [absS, h1], hu, hx⟩
  · exact .inr (.inl ⟨h.vd, by simp [absS, h1], h2, hu, hx⟩)
  · exact .inr (.inr ⟨h.vd, by simp [absS, h1], h2, hu, ⟨_, sh', hi.drop k n, drop_abs hi k n, by simpa [Sto.drop] using h4, Nat.le_trans (mcut_len _ _) h5⟩, hfr⟩)
theorem byIDA {b : Bk} {a : Ab} {F : Nat → Prop} {m : Nat} (k : ByteArray) (n : Nat) {H : Heap} (h : AtS H b a F m) : W env (.call 19 [.ptr b.s 0, .str k, .int .u64 n]) H (fun o H' => Ext H H' ∧ ((a.v (k, n) = none ∧ o = .val (.tup [.agg [.str ⟨#[]⟩, .int .u64 0, .str ⟨#[]⟩, .sl .nil []], .int .i64 110])) ∨ ∃ h kk, a.v (k, n) = some h ∧ KOk kk h.keys ∧ o = .val (.tup [.agg (eVer k n h.value kk h.keys), .int .i64 0]))) := by
  obtain ⟨s, sh, hi, rfl, h4, h5⟩ := h
  refine W.use (byID12 b s F k n H sh hi) fun o H' ⟨hx, hq⟩ => ⟨hx, ?_⟩
  rcases hq with ⟨h1, hu⟩ | ⟨h, kk, h1, h2, hu⟩
  · exact .inl ⟨by simp [absS, h1], hu⟩
  · exact .inr ⟨h.vd, kk, by simp [absS, h1], h2, hu⟩
def vdOf (o : Option Vd) : Vd := o.getD ⟨⟨#[]⟩, [], 0⟩
theorem vd_hd (o : Option Hd) : (hdOf o).vd = vdOf (o.map Hd.vd) := by cases o <;> rfl
def Names (a : Ab) (l : List Nm) : Prop := l.Pairwise (fun x y => ltM x y = true) ∧ ∀ m, m ∈ l ↔ a.has m = true
theorem Names.uniq {a : Ab} {l l' : List Nm} (h : Names a l) (h' : Names a l') : l = l' := sorted_eq l l' h.1 h'.1 fun m => by rw [h.2, h'.2]
def eKA (a : Ab) (m : Nm) : List T := [.str m.1, .int .u64 m.2, .str (vdOf (a.v m)).value, .sl .arg ((vdOf (a.v m)).keys.map eS), .int .i64 (vdOf (a.v m)).stamp]
theorem Names.nd {a : Ab} {l : List Nm} (h : Names a l) : l.Nodup := h.1.imp fun {x y} hxy => by rintro rfl; rw [ltM_irr] at hxy; cases hxy
theorem keptA {b : Bk} {a : Ab} {F : Nat → Prop} {m : Nat} {H : Heap} (h : AtS H b a F m) (hn : m ≤ 8000000) : W env (.call 21 [.ptr b.s 0]) H (fun o H' => Ext H H' ∧ ∃ k l, KOk k l ∧ Names a l ∧ l.length ≤ m ∧ o = .val (.sl k (l.map (eKA a)))) := by
  obtain ⟨s, sh, hi, rfl, h4, h5⟩ := h
  refine W.use (kept20 b s F H sh hi (by omega)) fun o H' ⟨hx, k, l, hko, hu, hp, hpw⟩ => ⟨hx, k, l, hko, ⟨hpw, fun m => ?_⟩, ?_, ?_⟩
  · rw [hp.mem_iff, mem_keys]; simp [Ab.has, absS]
  · rw [hp.length_eq]; simpa using h5
  · rw [hu]
    congr 2
    rw [keptL, List.map_map]
    refine List.map_congr_left fun m _ => ?_
    have e := vd_hd (mlook s.vs m)
    simp -implicitDefEqProofs only [Function.comp, eK, eKA, absS, ← e, Hd.vd]
end Go.Proofs.Ytodegnhallgnkaa.St
end

section
namespace Go.Proofs.Ytodegnhallgnkaa.St
open Go.Rmp Go.Proofs.Ytodegnhallgnkaa.Ir
set_option maxRecDepth 10000
def eW (x : Nm) : List T := [.str x.1, .int .u64 x.2]
theorem hasW (x : Nm) : hasAll [.str, .int] (eW x) = true := rfl
end Go.Proofs.Ytodegnhallgnkaa.St
end

section
namespace Go.Proofs.Ytodegnhallgnkaa.St
open Go.Rmp Go.Proofs.Ytodegnhallgnkaa.Ir
set_option maxRecDepth 10000
theorem tick29 (now : Int) (H : Heap) : W env (.call 29 [.int .i64 now]) H (Ret (.bool (decide (0 ≤ now) && decide (now ≤ 1099511627776))) H) := by
  refine W.fnI rfl rfl rfl ?_
  cases h : decide (0 ≤ now) <;> simp -implicitDefEqProofs only [ir29, op, ef, cl, sq, reduceIte, Int.reduceLT, Int.reduceLE, Int.reduceBEq, Int.reduceBNe, Int.reduceEq, Nat.reduceAdd, Nat.reduceLeDiff, Nat.reduceLT, Nat.reduceEqDiff, S1, h, Bool.false_and]
theorem ret30 (now : Int) (H : Heap) : W env (.call 30 [.int .i64 now]) H (Ret (.bool (decide (0 ≤ now) && decide (now ≤ 1048576))) H) := by
  refine W.fnI rfl rfl rfl ?_
  cases h : decide (0 ≤ now) <;> simp -implicitDefEqProofs only [ir30, op, ef, cl, sq, reduceIte, Int.reduceLT, Int.reduceLE, Int.reduceBEq, Int.reduceBNe, Int.reduceEq, Nat.reduceAdd, Nat.reduceLeDiff, Nat.reduceLT, Nat.reduceEqDiff, S1, h, Bool.false_and]
theorem wrapu8 {n : Int} (h : 0 ≤ n ∧ n < 256) : IntKind.u8.wrap n = n := by
  unfold IntKind.wrap
  simp -implicitDefEqProofs only [IntKind.signed, IntKind.bits]
  simp
  omega
theorem and_nat (w a b : Nat) (ha : a < 2 ^ w) (hb : b < 2 ^ w) : (BitVec.ofInt w (a : Int) &&& BitVec.ofInt w (b : Int)).toNat = a &&& b := by
  rw [BitVec.toNat_and]
  simp -implicitDefEqProofs only [BitVec.ofInt_natCast, BitVec.toNat_ofNat, Nat.mod_eq_of_lt ha, Nat.mod_eq_of_lt hb]
structure Opv where
  kind : Int
  id : Nat
  keys : Nat
  some : Nat
  value : ByteArray
def eO (o : Opv) : List T := [.int .i64 o.kind, .int .u64 o.id, .int .u8 o.keys, .int .u8 o.some, .str o.value]
def OkO (o : Opv) : Prop := o.id < 18446744073709551616 ∧ o.keys < 256 ∧ o.some < 256
def idO (o : Opv) : Nat := 65536 * (1 + (o.id / 4) % 16) + o.id % 4
theorem idO_ge (o : Opv) : 65536 ≤ idO o := by unfold idO; omega
theorem and15 (a : Nat) (h : a < 18446744073709551616) : IntKind.u64.wrap ((BitVec.ofInt IntKind.u64.bits (a : Int) &&& BitVec.ofInt IntKind.u64.bits 15).toNat : Nat) = ((a % 16 : Nat) : Int) := by
  have h1 := and_nat IntKind.u64.bits a 15 (by simpa [IntKind.bits] using h) (by simp [IntKind.bits])
  have h2 : ((15 : Nat) : Int) = 15 := rfl
  rw [h2] at h1
  rw [h1, show (15 : Nat) = 2 ^ 4 - 1 from rfl, Nat.and_two_pow_sub_one_eq_mod, wrapu64 (by omega)]
theorem and3 (a : Nat) (h : a < 18446744073709551616) : IntKind.u64.wrap ((BitVec.ofInt IntKind.u64.bits (a : Int) &&& BitVec.ofInt IntKind.u64.bits 3).toNat : Nat) = ((a % 4 : Nat) : Int) := by
  have h1 := and_nat IntKind.u64.bits a 3 (by simpa [IntKind.bits] using h) (by simp [IntKind.bits])
  have h2 : ((3 : Nat) : Int) = 3 := rfl
  rw [h2] at h1
  rw [h1, show (3 : Nat) = 2 ^ 2 - 1 from rfl, Nat.and_two_pow_sub_one_eq_mod, wrapu64 (by omega)]
theorem shr2 (a : Nat) : ((a : Int).fdiv (2 ^ (min ((2 : Int)).toNat IntKind.u64.bits))) = ((a / 4 : Nat) : Int) := by
  have : (2 : Int) ^ (min ((2 : Int)).toNat IntKind.u64.bits) = ((4 : Nat) : Int) := by decide
  rw [this, Int.fdiv_eq_ediv_of_nonneg _ (by omega)]; omega
theorem id15 (o : Opv) (ho : OkO o) (H : Heap) : W env (.call 15 [.agg (eO o)]) H (RetG (.int .u64 (idO o : Nat)) H) := by
  have h0 : ¬ ((2 : Int) < 0) := by decide
  have h1 := shr2 o.id
  have h2 := and15 (o.id / 4) (by have := ho.1; omega)
  have h3 := and3 o.id ho.1
  have h4 : IntKind.u64.wrap (1 + ((o.id / 4 % 16 : Nat) : Int)) = ((1 + o.id / 4 % 16 : Nat) : Int) := by rw [wrapu64 (by omega)]; omega
  have h5 : IntKind.u64.wrap (65536 * ((1 + o.id / 4 % 16 : Nat) : Int)) = ((65536 * (1 + o.id / 4 % 16) : Nat) : Int) := by rw [wrapu64 (by omega)]; omega
  have h6 : IntKind.u64.wrap (((65536 * (1 + o.id / 4 % 16) : Nat) : Int) + ((o.id % 4 : Nat) : Int)) = ((idO o : Nat) : Int) := by rw [wrapu64 (by omega)]; unfold idO; omega
  refine W.fnI rfl rfl rfl ?_
  simp -implicitDefEqProofs only [ir15, eO, op, ef, cl, sq, reduceIte, Int.reduceLT, Int.reduceLE, Int.reduceBEq, Int.reduceBNe, Int.reduceEq, Nat.reduceAdd, Nat.reduceLeDiff, Nat.reduceLT, Nat.reduceEqDiff, S1, S2, h0, h1, h2, h3, h4, h5, h6]
def nm6 (i : Nat) : ByteArray := match i with
  | 0 => ⟨#[]⟩
  | 1 => ⟨#[97]⟩
  | 2 => ⟨#[98]⟩
  | 3 => ⟨#[99]⟩
  | 4 => ⟨#[100]⟩
  | _ => ⟨#[101]⟩
def bitm (m i : Nat) : Bool := ((IntKind.u8.wrap ((BitVec.ofInt IntKind.u8.bits ((m : Int).fdiv (2 ^ (min (i : Int).toNat IntKind.u8.bits))) &&& BitVec.ofInt IntKind.u8.bits 1).toNat : Nat)) == 1)
set_option maxRecDepth 100000 in
theorem bitm_eq' : ∀ m : Fin 256, ∀ i : Fin 6, bitm m i = m.val.testBit i := by decide +kernel
theorem bitm_eq {m i : Nat} (hm : m < 256) (hi : i < 6) : bitm m i = m.testBit i := bitm_eq' ⟨m, hm⟩ ⟨i, hi⟩
def namesN (m : Nat) : Nat → List ByteArray
  | 0 => []
  | i + 1 => namesN m i ++ if m.testBit i then [nm6 i] else []
def names (m : Nat) : List ByteArray := namesN m 6
theorem namesN_len (m : Nat) : ∀ i, (namesN m i).length ≤ i
  | 0 => Nat.le_refl _
  | i + 1 => by
    have := namesN_len m i
    simp -implicitDefEqProofs only [namesN, List.length_append]
    split <;> simp <;> omega
theorem mem_namesN {m : Nat} {x : ByteArray} : ∀ i, x ∈ namesN m i ↔ ∃ j, j < i ∧ m.testBit j = true ∧ x = nm6 j
  | 0 => by simp [namesN]
  | i + 1 => by
    simp -implicitDefEqProofs only [namesN, List.mem_append, mem_namesN i]
    constructor
    · rintro (⟨j, h1, h2⟩ | h)
      · exact ⟨j, by omega, h2⟩
      · split at h
        · rename_i hb; simp at h; exact ⟨i, by omega, hb, h⟩
        · simp at h
    · rintro ⟨j, h1, h2, h3⟩
      by_cases e : j = i
      · subst e; rw [if_pos h2]; exact .inr (by simp [h3])
      · exact .inl ⟨j, by omega, h2, h3⟩
theorem nm6_lt : ∀ i j : Fin 6, i < j → strLt (nm6 i) (nm6 j) = true := by decide +kernel
theorem namesN_pw (m : Nat) : ∀ i, i ≤ 6 → (namesN m i).Pairwise (fun a b => strLt a b = true)
  | 0, _ => by simp [namesN]
  | i + 1, h => by
    simp -implicitDefEqProofs only [namesN]
    rw [List.pairwise_append]
    refine ⟨namesN_pw m i (by omega), by split <;> simp, fun a ha b hb => ?_⟩
    obtain ⟨j, h1, _, rfl⟩ := (mem_namesN i).1 ha
    split at hb
    · simp at hb; subst hb
      exact nm6_lt ⟨j, by omega⟩ ⟨i, by omega⟩ h1
    · simp at hb
theorem names32 (m : Nat) (hm : m < 256) (H : Heap) : W env (.call 32 [.int .u8 m]) H (fun o H' => Ext H H' ∧ ∃ k, KOk k (names m) ∧ o = .val (.sl k ((names m).map eS))) := by
  refine W.fnI rfl rfl rfl ?_
  simp -implicitDefEqProofs only [ir32, op, ef, cl, sq, reduceIte, Int.reduceLT, Int.reduceLE, Int.reduceBEq, Int.reduceBNe, Int.reduceEq, Nat.reduceAdd, Nat.reduceLeDiff, Nat.reduceLT, Nat.reduceEqDiff, S1]
  refine W.loopV [(0, _), (3, _)] (fun (i : Nat) R H' => At H' (fun H' => ∃ kw, R 4 = .sl kw ((namesN m i).map eS) ∧ Ext H H' ∧ Apd H.length H' kw ∧ KOk kw (namesN m i)) ∧ R 5 = .int .i64 i ∧ i ≤ 6) (fun i => 6 - i) 0 ⟨.i ⟨.nil, rfl, Ext.rfl', apd_nil _ _, fun _ => rfl⟩, rfl, Nat.zero_le _⟩ ?_
  rintro i R H1 ⟨⟨kw, g4, hx, hap, hko⟩, g5, hi⟩
  by_cases hlt : i < 6
  · have wsi := wrap_succ (show i < 9223372036854775807 by omega)
    have nn : ¬ (i : Int) < 0 := by omega
    have hb : (IntKind.u8.wrap ((BitVec.ofInt IntKind.u8.bits ((m : Int).fdiv (2 ^ (min (i : Int).toNat IntKind.u8.bits))) &&& BitVec.ofInt IntKind.u8.bits 1).toNat : Nat) == 1) = m.testBit i := bitm_eq hm hlt
    have hia : iadT 1 i (.sl .full [[T.str ⟨#[]⟩], [T.str ⟨#[97]⟩], [T.str ⟨#[98]⟩], [T.str ⟨#[99]⟩], [T.str ⟨#[100]⟩], [T.str ⟨#[101]⟩]]) = some (.iptr [.str (nm6 i)]) := by
      have hc : i = 0 ∨ i = 1 ∨ i = 2 ∨ i = 3 ∨ i = 4 ∨ i = 5 := by omega
      rcases hc with rfl | rfl | rfl | rfl | rfl | rfl <;> rfl
    cases hbi : m.testBit i
    · rw [hbi] at hb
      simp -implicitDefEqProofs only [mkR_nil, mkR_cons, op, ef, cl, sq, reduceIte, Int.reduceLT, Int.reduceLE, Int.reduceBEq, Int.reduceBNe, Int.reduceEq, Nat.reduceAdd, Nat.reduceLeDiff, Nat.reduceLT, Nat.reduceEqDiff, S1, g4, g5, hlt, nn, hb, wsi]
      exact ⟨i + 1, by omega, .i ⟨kw, by simp -implicitDefEqProofs only [op, ef, cl, sq, reduceIte, Int.reduceLT, Int.reduceLE, Int.reduceBEq, Int.reduceBNe, Int.reduceEq, Nat.reduceAdd, Nat.reduceLeDiff, Nat.reduceLT, Nat.reduceEqDiff, S1, g4, namesN, hbi], hx, hap, by simpa [namesN, hbi] using hko⟩, rfl, by omega⟩
    · rw [hbi] at hb
      have hl := namesN_len m i
      have hall := all_map (enc := eS) (n := 1) (fun _ => rfl) (namesN m i)
      obtain ⟨k', H', ha, hap', hst⟩ := app_ok (bytes := 16) ((namesN m i).map eS) [[T.str (nm6 i)]] hap hx.len (by simp) (roomS (by simp; omega) (by omega))
      have hnn := app_nn ha (by simp)
      simp -implicitDefEqProofs only [op, ef, cl, sq, reduceIte, Int.reduceLT, Int.reduceLE, Int.reduceBEq, Int.reduceBNe, Int.reduceEq, Nat.reduceAdd, Nat.reduceLeDiff, Nat.reduceLT, Nat.reduceEqDiff, S1] at ha
      simp -implicitDefEqProofs only [mkR_nil, mkR_cons, op, ef, cl, sq, reduceIte, Int.reduceLT, Int.reduceLE, Int.reduceBEq, Int.reduceBNe, Int.reduceEq, Nat.reduceAdd, Nat.reduceLeDiff, Nat.reduceLT, Nat.reduceEqDiff, S1, g4, g5, hlt, nn, hb, natOf_nat, hia, hall, ha, wsi]
      exact ⟨i + 1, by omega, .i ⟨k', by simp -implicitDefEqProofs only [op, ef, cl, sq, reduceIte, Int.reduceLT, Int.reduceLE, Int.reduceBEq, Int.reduceBNe, Int.reduceEq, Nat.reduceAdd, Nat.reduceLeDiff, Nat.reduceLT, Nat.reduceEqDiff, S1, namesN, hbi, if_true, List.map_append, eS], hst.ext H (Nat.le_refl _) hx, hap', fun h => absurd h hnn⟩, rfl, by omega⟩
  · have hi6 : i = 6 := by omega
    subst hi6
    simp -implicitDefEqProofs only [mkR_nil, mkR_cons, op, ef, cl, sq, reduceIte, Int.reduceLT, Int.reduceLE, Int.reduceBEq, Int.reduceBNe, Int.reduceEq, Nat.reduceAdd, Nat.reduceLeDiff, Nat.reduceLT, Nat.reduceEqDiff, S1, g4, g5, hlt]
    exact ⟨hx, kw, hko, rfl⟩
def sh300 (v : ByteArray) : ByteArray := v.extract 0 (min v.size 300)
theorem sh300_size (v : ByteArray) : (sh300 v).size ≤ 300 := by simp -implicitDefEqProofs only [sh300, ByteArray.size_extract]; omega
def pairsO (o : Opv) : List (ByteArray × ByteArray) := (names (o.keys &&& o.some)).map fun k => (k, sh300 o.value)
def keysO (o : Opv) : List ByteArray := names o.keys
theorem pairsO_len (o : Opv) : (pairsO o).length ≤ 6 := by simpa [pairsO, names] using namesN_len (o.keys &&& o.some) 6
theorem keysO_len (o : Opv) : (keysO o).length ≤ 6 := namesN_len o.keys 6
theorem and8 (a b : Nat) (ha : a < 256) (hb : b < 256) : IntKind.u8.wrap ((BitVec.ofInt IntKind.u8.bits (a : Int) &&& BitVec.ofInt IntKind.u8.bits (b : Int)).toNat : Nat) = ((a &&& b : Nat) : Int) := by
  have h1 := and_nat IntKind.u8.bits a b (by simpa [IntKind.bits] using ha) (by simpa [IntKind.bits] using hb)
  have : a &&& b ≤ a := Nat.and_le_left
  rw [h1, wrapu8 (by omega)]
theorem write13 (o : Opv) (ho : OkO o) (H : Heap) : W env (.call 13 [.agg (eO o)]) H (fun u H' => Ext H H' ∧ ∃ k k', KOk k (pairsO o) ∧ KOk k' (keysO o) ∧ u = .val (.tup [.sl k ((pairsO o).map eP), .sl k' ((keysO o).map eS)])) := by
  have hand := and8 o.keys o.some ho.2.1 ho.2.2
  have hlt : o.keys &&& o.some < 256 := Nat.lt_of_le_of_lt Nat.and_le_left ho.2.1
  refine W.fnI rfl rfl rfl ?_
  simp -implicitDefEqProofs only [ir13, eO, op, ef, cl, sq, reduceIte, Int.reduceLT, Int.reduceLE, Int.reduceBEq, Int.reduceBNe, Int.reduceEq, Nat.reduceAdd, Nat.reduceLeDiff, Nat.reduceLT, Nat.reduceEqDiff, S1, S2]
  have hx0 : Ext H (H ++ [B.cells [T.int IntKind.i64 o.kind, T.int IntKind.u64 o.id, T.int IntKind.u8 o.keys, T.int IntKind.u8 o.some, T.str o.value]]) := ⟨_, rfl⟩
  refine callB_of _ _ _ _ _ _ _ _ (names32 o.keys ho.2.1 _) ?_
  rintro u H1 ⟨hx1, k1, hk1, hu⟩
  cases hu
  have hc1 : H1[H.length]? = some (.cells [T.int IntKind.i64 o.kind, T.int IntKind.u64 o.id, T.int IntKind.u8 o.keys, T.int IntKind.u8 o.some, T.str o.value]) := hx1.get (g_tail rfl)
  simp -implicitDefEqProofs only [op, ef, cl, sq, reduceIte, Int.reduceLT, Int.reduceLE, Int.reduceBEq, Int.reduceBNe, Int.reduceEq, Nat.reduceAdd, Nat.reduceLeDiff, Nat.reduceLT, Nat.reduceEqDiff, S1, hc1, hand]
  refine callB_of _ _ _ _ _ _ _ _ (names32 (o.keys &&& o.some) hlt _) ?_
  rintro u H2 ⟨hx2, k2, hk2, hu⟩
  cases hu
  have hc2 := hx2.get hc1
  obtain ⟨ns, hns⟩ : ∃ ns, ns = names (o.keys &&& o.some) := ⟨_, rfl⟩
  have hnl : ns.length ≤ 6 := by rw [hns]; exact namesN_len _ 6
  rw [← hns]
  have hx3 : Ext H H2 := (hx0.trans hx1).trans hx2
  have lH := glt hc2
  simp -implicitDefEqProofs only [op, ef, cl, sq, reduceIte, Int.reduceLT, Int.reduceLE, Int.reduceBEq, Int.reduceBNe, Int.reduceEq, Nat.reduceAdd, Nat.reduceLeDiff, Nat.reduceLT, Nat.reduceEqDiff, S1, List.length_map]
  refine W.loopV [(1, _), (4, _), (5, _)] (fun (i : Nat) R H' => At H' (fun H' => ∃ kw, R 6 = .sl kw (((ns.take i).map fun k => (k, sh300 o.value)).map eP) ∧ Ext H2 H' ∧ Apd H2.length H' kw ∧ KOk kw (ns.take i)) ∧ R 7 = .int .i64 i ∧ i ≤ ns.length) (fun i => ns.length - i) 0 ⟨.i ⟨.nil, rfl, Ext.rfl', apd_nil _ _, fun _ => rfl⟩, rfl, Nat.zero_le _⟩ ?_
  rintro i R H3 ⟨⟨kw, g6, hx, hap, hko⟩, g7, hi⟩
  by_cases hlt : i < ns.length
  · obtain ⟨x, hxi⟩ := getP hlt
    have ix := iadX (e := eS) (n := 1) (fun _ => rfl) (by decide) (k := k2) hxi
    have wsi := wrap_succ (show i < 9223372036854775807 by omega)
    have hc3 := hx.get hc2
    have hall := all_map (enc := eP) (n := 2) (fun _ => rfl) ((ns.take i).map fun k => (k, sh300 o.value))
    have hmn : (if (300 : Int) < (o.value.size : Int) then (300 : Int) else (o.value.size : Int)) = ((min o.value.size 300 : Nat) : Int) := by split <;> omega
    have hle : min o.value.size 300 ≤ o.value.size := Nat.min_le_left _ _
    obtain ⟨k', H', ha, hap', hst⟩ := app_ok (bytes := 32) (((ns.take i).map fun k => (k, sh300 o.value)).map eP) [[T.str x, T.str (sh300 o.value)]] hap hx.len (by simp) (roomS (by simp; omega) (by omega))
    have hnn := app_nn ha (by simp)
    simp -implicitDefEqProofs only [op, ef, cl, sq, reduceIte, Int.reduceLT, Int.reduceLE, Int.reduceBEq, Int.reduceBNe, Int.reduceEq, Nat.reduceAdd, Nat.reduceLeDiff, Nat.reduceLT, Nat.reduceEqDiff, S1] at ha
    unfold sh300 at *
    simp -implicitDefEqProofs only [mkR_nil, mkR_cons, op, ef, cl, sq, reduceIte, Int.reduceLT, Int.reduceLE, Int.reduceBEq, Int.reduceBNe, Int.reduceEq, Nat.reduceAdd, Nat.reduceLeDiff, Nat.reduceLT, Nat.reduceEqDiff, S1, g6, g7, hlt, natOf_nat, ix, eS, hc3, hmn, hle, Nat.zero_le, and_self, hall, ha, wsi]
    refine ⟨i + 1, by omega, .i ⟨k', ?_, hst.ext H2 (Nat.le_refl _) hx, hap', fun h => absurd h hnn⟩, rfl, by omega⟩
    simp -implicitDefEqProofs only [op, ef, cl, sq, reduceIte, Int.reduceLT, Int.reduceLE, Int.reduceBEq, Int.reduceBNe, Int.reduceEq, Nat.reduceAdd, Nat.reduceLeDiff, Nat.reduceLT, Nat.reduceEqDiff, S1, take_sn hxi, List.map_append, eP]
  · have hie : i = ns.length := by omega
    subst hie
    rw [List.take_length] at g6 hko
    simp -implicitDefEqProofs only [mkR_nil, mkR_cons, op, ef, cl, sq, reduceIte, Int.reduceLT, Int.reduceLE, Int.reduceBEq, Int.reduceBNe, Int.reduceEq, Nat.reduceAdd, Nat.reduceLeDiff, Nat.reduceLT, Nat.reduceEqDiff, S1, List.length_map, g6, g7, hlt]
    refine ⟨hx3.trans hx, kw, k1, fun h => ?_, hk1, ?_⟩
    · simp -implicitDefEqProofs only [pairsO, ← hns, hko h, List.map_nil]
    · rw [hns]; rfl
end Go.Proofs.Ytodegnhallgnkaa.St
end

section
namespace Go.Proofs.Ytodegnhallgnkaa.St
open Go.Rmp Go.Proofs.Ytodegnhallgnkaa.Ir
set_option maxRecDepth 10000
theorem rises_pw2 {l : List ByteArray} (h : l.Pairwise (fun a b => strLt a b = true)) {i j : Nat} {a b : ByteArray} (hij : i < j) (ha : l[i]? = some a) (hb : l[j]? = some b) : strLt a b = true := by
  obtain ⟨h1, e1⟩ := List.getElem?_eq_some_iff.1 ha
  obtain ⟨h2, e2⟩ := List.getElem?_eq_some_iff.1 hb
  have := List.pairwise_iff_getElem.1 h i j h1 h2 hij
  rwa [e1, e2] at this
theorem nm6_size (j : Nat) : (nm6 j).size ≤ 1 := by
  unfold nm6; split <;> decide
theorem names_good {m : Nat} (h : names m ≠ []) : GoodKeys (names m) := by
  have hp := namesN_pw m 6 (Nat.le_refl _)
  have hl := namesN_len m 6
  refine ⟨fun i hi x hx => ⟨?_, fun h0 y hy => rises_pw2 hp (by omega) hy hx⟩, ?_, by unfold names; omega⟩
  · obtain ⟨j, _, _, rfl⟩ := (mem_namesN 6).1 (List.mem_of_getElem? hx)
    have := nm6_size j; omega
  · cases e : names m with
    | nil => exact absurd e h
    | cons x l => simp
theorem names_sub {a b : Nat} {x : ByteArray} (h : x ∈ names (a &&& b)) : x ∈ names a := by
  obtain ⟨j, h1, h2, h3⟩ := (mem_namesN 6).1 h
  rw [Nat.testBit_and, Bool.and_eq_true] at h2
  exact (mem_namesN 6).2 ⟨j, h1, h2.1, h3⟩
theorem may_O (o : Opv) (hne : pairsO o ≠ []) : MayP (idO o) (pairsO o) (keysO o) := by
  have hp := namesN_pw (o.keys &&& o.some) 6 (Nat.le_refl _)
  have hn : names (o.keys &&& o.some) ≠ [] := fun h => hne (by simp [pairsO, h])
  have hk : keysO o ≠ [] := fun h => by
    obtain ⟨x, hx⟩ := List.exists_mem_of_ne_nil _ hn
    have := names_sub hx
    have h : names o.keys = [] := h
    rw [h] at this; cases this
  have hs := sh300_size o.value
  refine ⟨idO_ge o, names_good hk, ?_, fun i hi p hp' => ?_⟩
  · cases e : pairsO o with
    | nil => exact absurd e hne
    | cons x l => simp
  · unfold pairsO at hp'
    rw [List.getElem?_map] at hp'
    cases hk : (names (o.keys &&& o.some))[i]? with
    | none => rw [hk] at hp'; cases hp'
    | some k =>
      rw [hk] at hp'; cases hp'
      refine ⟨fun h0 q hq => ?_, names_sub (List.mem_of_getElem? hk), by simp only; omega⟩
      unfold pairsO at hq
      rw [List.getElem?_map] at hq
      cases hk2 : (names (o.keys &&& o.some))[i - 1]? with
      | none => rw [hk2] at hq; cases hq
      | some k2 => rw [hk2] at hq; cases hq; exact rises_pw2 hp (by omega) hk2 hk
theorem putNo {b : Bk} {a : Ab} {F : Nat → Prop} {m : Nat} (n : Nat) (k k' : SK) (l : List (ByteArray × ByteArray)) (ks : List ByteArray) (now : Int) {H : Heap} (h : AtS H b a F m) (hl : l.length ≤ 8000000) (hks : ks.length ≤ 8000000) (hm : ¬ (MayP n l ks ∧ TickOk now)) :
    W env (.call 14 [.ptr b.s 0, .int .u64 n, .sl k (l.map eP), .sl k' (ks.map eS), .int .i64 now]) H (fun o H' => o = .val (.tup [.bool false, .int .i64 1]) ∧ Ext H H') := by
  refine W.fnI rfl rfl rfl ?_
  simp -implicitDefEqProofs only [ir14, op, ef, cl, sq, reduceIte, Int.reduceLT, Int.reduceLE, Int.reduceBEq, Int.reduceBNe, Int.reduceEq, Nat.reduceAdd, Nat.reduceLeDiff, Nat.reduceLT, Nat.reduceEqDiff, S1]
  refine callB_of _ _ _ _ _ _ _ _ (may43 n k k' l ks _ (by omega) (by omega)) ?_
  rintro u H1 ⟨hx1, bb, hu, hb⟩
  cases hu
  cases bb
  · simp -implicitDefEqProofs only [op, ef, cl, sq, reduceIte, Int.reduceLT, Int.reduceLE, Int.reduceBEq, Int.reduceBNe, Int.reduceEq, Nat.reduceAdd, Nat.reduceLeDiff, Nat.reduceLT, Nat.reduceEqDiff, S1]; exact hx1
  · simp -implicitDefEqProofs only [op, ef, cl, sq, reduceIte, Int.reduceLT, Int.reduceLE, Int.reduceBEq, Int.reduceBNe, Int.reduceEq, Nat.reduceAdd, Nat.reduceLeDiff, Nat.reduceLT, Nat.reduceEqDiff, S1]
    refine callB_of _ _ _ _ _ _ _ _ (tick31 now _) ?_
    rintro u H2 ⟨hu, rfl⟩
    cases hu
    have hf : (decide (0 ≤ now) && decide (now ≤ 1099511627776)) = false := by
      rw [Bool.and_eq_false_iff, decide_eq_false_iff_not, decide_eq_false_iff_not]
      have : ¬ TickOk now := fun h => hm ⟨hb.1 rfl, h⟩
      unfold TickOk at this; omega
    simp -implicitDefEqProofs only [op, ef, cl, sq, reduceIte, Int.reduceLT, Int.reduceLE, Int.reduceBEq, Int.reduceBNe, Int.reduceEq, Nat.reduceAdd, Nat.reduceLeDiff, Nat.reduceLT, Nat.reduceEqDiff, S1, hf]
    exact hx1
theorem has28 {b : Bk} {a : Ab} {F : Nat → Prop} {m : Nat} (n : Nat) {H : Heap} (h : AtS H b a F m) : W env (.call 28 [.ptr b.s 0, .int .u64 n]) H (fun o H' => H' = H ∧ ∃ D : List ByteArray, D.Nodup ∧ (∀ k, k ∈ D ↔ a.has (k, n) = true) ∧ o = .val (.int .i64 D.length)) := by
  obtain ⟨s, ⟨im, pm, sa⟩, hi, rfl, h4, h5⟩ := h
  obtain ⟨t, htt⟩ : ∃ t, lkpT (mlook pm n) (.sl .nil []) false = t := ⟨_, rfl⟩
  have hlH : lenT H .sl t = some (s.pls n).length := by
    have := (sa.op n).mut
    rw [htt] at this
    rcases this with ⟨e, rfl⟩ | ⟨c, rfl, _, _⟩
    · rw [e]; rfl
    · rfl
  refine W.fnI rfl rfl rfl ?_
  simp -implicitDefEqProofs only [ir28, op, ef, cl, sq, reduceIte, Int.reduceLT, Int.reduceLE, Int.reduceBEq, Int.reduceBNe, Int.reduceEq, Nat.reduceAdd, Nat.reduceLeDiff, Nat.reduceLT, Nat.reduceEqDiff, S1, sa.hs, sa.hp, lkpB_N, htt, hlH]
  exact ⟨s.pls n, hi.pnd n, fun k => by rw [hi.plm]; simp [Ab.has, absS], rfl⟩
def stampOf (a : Ab) (m : Nm) : Int := (vdOf (a.v m)).stamp
def isDue (a : Ab) (now r : Int) (m : Nm) : Bool := decide (0 ≤ stampOf a m) && decide (stampOf a m ≤ now - r)
def dueL (a : Ab) (now r : Int) (l : List Nm) : List Nm := l.filter (isDue a now r)
def RetOk (r : Int) : Prop := 0 ≤ r ∧ r ≤ 1048576
theorem dueL_len (a : Ab) (now r : Int) (l : List Nm) : (dueL a now r l).length ≤ l.length := List.length_filter_le _ _
theorem filter_take {α : Type} {p : α → Bool} {l : List α} {i : Nat} {x : α} (hx : l[i]? = some x) : (l.take (i + 1)).filter p = (l.take i).filter p ++ if p x then [x] else [] := by
  rw [take_sn hx, List.filter_append]; congr 1
  cases h : p x <;> simp [h]
theorem due9 {b : Bk} {a : Ab} {F : Nat → Prop} {m : Nat} (now r : Int) {H : Heap} (h : AtS H b a F m) (hm : m ≤ 8000000) (ht : TickOk now) (hr : RetOk r) : W env (.call 9 [.ptr b.s 0, .int .i64 now, .int .i64 r]) H (fun o H' => Ext H H' ∧ ∃ k l, KOk k (dueL a now r l) ∧ Names a l ∧ l.length ≤ m ∧ o = .val (.tup [.sl k ((dueL a now r l).map eW), .int .i64 0])) := by
  have h1 : (decide (0 ≤ now) && decide (now ≤ 1099511627776)) = true := by simp [ht.1, ht.2]
  have h2 : (decide (0 ≤ r) && decide (r ≤ 1048576)) = true := by simp [hr.1, hr.2]
  have hw : IntKind.i64.wrap (now - r) = now - r := by
    have := ht.1; have := ht.2; have := hr.1; have := hr.2
    rw [wrap64 (by omega)]
  refine W.fnI rfl rfl rfl ?_
  simp -implicitDefEqProofs only [ir9, op, ef, cl, sq, reduceIte, Int.reduceLT, Int.reduceLE, Int.reduceBEq, Int.reduceBNe, Int.reduceEq, Nat.reduceAdd, Nat.reduceLeDiff, Nat.reduceLT, Nat.reduceEqDiff, S1, eqRef, nilOf]
  refine callB_of _ _ _ _ _ _ _ _ (tick29 now _) ?_
  rintro u H1 ⟨hu, rfl⟩
  cases hu
  simp -implicitDefEqProofs only [op, ef, cl, sq, reduceIte, Int.reduceLT, Int.reduceLE, Int.reduceBEq, Int.reduceBNe, Int.reduceEq, Nat.reduceAdd, Nat.reduceLeDiff, Nat.reduceLT, Nat.reduceEqDiff, S1, h1]
  refine callB_of _ _ _ _ _ _ _ _ (ret30 r _) ?_
  rintro u H2 ⟨hu, rfl⟩
  cases hu
  simp -implicitDefEqProofs only [op, ef, cl, sq, reduceIte, Int.reduceLT, Int.reduceLE, Int.reduceBEq, Int.reduceBNe, Int.reduceEq, Nat.reduceAdd, Nat.reduceLeDiff, Nat.reduceLT, Nat.reduceEqDiff, S1, h2]
  refine callB_of _ _ _ _ _ _ _ _ (keptA h hm) ?_
  rintro u H3 ⟨hx3, k, l, hko, hn, hll, hu⟩
  cases hu
  simp -implicitDefEqProofs only [op, ef, cl, sq, reduceIte, Int.reduceLT, Int.reduceLE, Int.reduceBEq, Int.reduceBNe, Int.reduceEq, Nat.reduceAdd, Nat.reduceLeDiff, Nat.reduceLT, Nat.reduceEqDiff, S1, List.length_map]
  refine W.loopV [(1, _), (2, _), (24, _), (25, _)] (fun (i : Nat) R H' => At H' (fun H' => ∃ kw, R 8 = .sl kw ((dueL a now r (l.take i)).map eW) ∧ Ext H3 H' ∧ Apd H3.length H' kw ∧ KOk kw (dueL a now r (l.take i))) ∧ R 26 = .int .i64 i ∧ i ≤ l.length) (fun i => l.length - i) 0 ⟨.i ⟨.nil, rfl, Ext.rfl', apd_nil _ _, fun _ => rfl⟩, rfl, Nat.zero_le _⟩ ?_
  rintro i R H4 ⟨⟨kw, g8, hx, hap, hkw⟩, g26, hi⟩
  by_cases hlt : i < l.length
  · obtain ⟨x, hxi⟩ := getP hlt
    have ix := iadX (e := eKA a) (n := 5) (fun _ => rfl) (by decide) (k := k) hxi
    have wsi := wrap_succ (show i < 9223372036854775807 by omega)
    obtain ⟨hd, hhd⟩ : ∃ hd, hd = vdOf (a.v x) := ⟨_, rfl⟩
    have hst : stampOf a x = hd.stamp := by rw [hhd]; rfl
    have hft := filter_take (p := isDue a now r) hxi
    have hxx : ∀ y : B, Ext H4 (H4 ++ [y]) := fun y => ⟨_, rfl⟩
    by_cases h0 : 0 ≤ hd.stamp
    · by_cases h3 : hd.stamp ≤ now - r
      · have hdue : isDue a now r x = true := by simp [isDue, hst, h0, h3]
        rw [hdue] at hft
        have hl2 := dueL_len a now r (l.take i)
        have hall := all_map (enc := eW) (n := 2) (fun _ => rfl) (dueL a now r (l.take i))
        obtain ⟨k', H', ha, hap', hst'⟩ := app_ok (bytes := 24) ((dueL a now r (l.take i)).map eW) [[T.str x.1, T.int .u64 x.2]] (hap.ext (hxx (.cells [.str x.1, .int .u64 x.2, .str hd.value, .sl .arg (hd.keys.map eS), .int .i64 hd.stamp]))) (Nat.le_trans hx.len (hxx _).len) (by simp) (roomS (by simp at hl2 ⊢; omega) (by omega))
        have hnn := app_nn ha (by simp)
        simp -implicitDefEqProofs only [op, ef, cl, sq, reduceIte, Int.reduceLT, Int.reduceLE, Int.reduceBEq, Int.reduceBNe, Int.reduceEq, Nat.reduceAdd, Nat.reduceLeDiff, Nat.reduceLT, Nat.reduceEqDiff, S1] at ha
        simp -implicitDefEqProofs only [mkR_nil, mkR_cons, op, ef, cl, sq, reduceIte, Int.reduceLT, Int.reduceLE, Int.reduceBEq, Int.reduceBNe, Int.reduceEq, Nat.reduceAdd, Nat.reduceLeDiff, Nat.reduceLT, Nat.reduceEqDiff, S1, S2, g8, g26, hlt, natOf_nat, ix, eKA, ← hhd, h0, h3, hw, hall, ha, wsi]
        refine ⟨i + 1, by omega, .i ⟨k', ?_, hst'.ext H3 (Nat.le_refl _) (hx.trans (hxx _)), hap', fun h => absurd h hnn⟩, rfl, by omega⟩
        simp -implicitDefEqProofs only [op, ef, cl, sq, reduceIte, Int.reduceLT, Int.reduceLE, Int.reduceBEq, Int.reduceBNe, Int.reduceEq, Nat.reduceAdd, Nat.reduceLeDiff, Nat.reduceLT, Nat.reduceEqDiff, S1, dueL, hft, if_true, List.map_append, eW]
      · have hdue : isDue a now r x = false := by simp [isDue, hst, h3]
        rw [hdue] at hft
        simp -implicitDefEqProofs only [mkR_nil, mkR_cons, op, ef, cl, sq, reduceIte, Int.reduceLT, Int.reduceLE, Int.reduceBEq, Int.reduceBNe, Int.reduceEq, Nat.reduceAdd, Nat.reduceLeDiff, Nat.reduceLT, Nat.reduceEqDiff, S1, S2, g8, g26, hlt, natOf_nat, ix, eKA, ← hhd, h0, h3, hw, wsi]
        refine ⟨i + 1, by omega, .i ⟨kw, ?_, hx.trans (hxx _), hap.ext (hxx _), ?_⟩, rfl, by omega⟩
        · simp -implicitDefEqProofs only [op, ef, cl, sq, reduceIte, Int.reduceLT, Int.reduceLE, Int.reduceBEq, Int.reduceBNe, Int.reduceEq, Nat.reduceAdd, Nat.reduceLeDiff, Nat.reduceLT, Nat.reduceEqDiff, S1, g8, dueL, hft, Bool.false_eq_true, if_false, List.append_nil]
        · simpa [dueL, hft] using hkw
    · have hdue : isDue a now r x = false := by simp [isDue, hst, h0]
      rw [hdue] at hft
      simp -implicitDefEqProofs only [mkR_nil, mkR_cons, op, ef, cl, sq, reduceIte, Int.reduceLT, Int.reduceLE, Int.reduceBEq, Int.reduceBNe, Int.reduceEq, Nat.reduceAdd, Nat.reduceLeDiff, Nat.reduceLT, Nat.reduceEqDiff, S1, S2, g8, g26, hlt, natOf_nat, ix, eKA, ← hhd, h0, wsi]
      refine ⟨i + 1, by omega, .i ⟨kw, ?_, hx.trans (hxx _), hap.ext (hxx _), ?_⟩, rfl, by omega⟩
      · simp -implicitDefEqProofs only [op, ef, cl, sq, reduceIte, Int.reduceLT, Int.reduceLE, Int.reduceBEq, Int.reduceBNe, Int.reduceEq, Nat.reduceAdd, Nat.reduceLeDiff, Nat.reduceLT, Nat.reduceEqDiff, S1, g8, dueL, hft, Bool.false_eq_true, if_false, List.append_nil]
      · simpa [dueL, hft] using hkw
  · have hie : i = l.length := by omega
    subst hie
    rw [List.take_length] at g8 hkw
    simp -implicitDefEqProofs only [mkR_nil, mkR_cons, op, ef, cl, sq, reduceIte, Int.reduceLT, Int.reduceLE, Int.reduceBEq, Int.reduceBNe, Int.reduceEq, Nat.reduceAdd, Nat.reduceLeDiff, Nat.reduceLT, Nat.reduceEqDiff, S1, List.length_map, g8, g26, hlt]
    exact ⟨hx3.trans hx, kw, l, hkw, hn, hll, rfl⟩
def memN (D : List Nm) (m : Nm) : Bool := D.any fun x => decide (x = m)
theorem memN_iff {D : List Nm} {m : Nm} : memN D m = true ↔ m ∈ D := by simp [memN]
theorem memN_no {D : List Nm} {m : Nm} (h : m ∉ D) : memN D m = false := by
  cases e : memN D m with
  | false => rfl
  | true => exact absurd (memN_iff.1 e) h
def Ab.cuts (a : Ab) (D : List Nm) : Ab := ⟨fun m => if memN D m = true then none else a.v m, a.l⟩
theorem cuts_nil (a : Ab) : a.cuts [] = a := by cases a; rfl
theorem cuts_s (a : Ab) (D : List Nm) (x : Nm) : (a.cuts D).cut x = a.cuts (D ++ [x]) := ab_ext (fun m => by
  have e : memN (D ++ [x]) m = (memN D m || decide (x = m)) := by simp [memN]
  simp -implicitDefEqProofs only [Ab.cut, Ab.cuts, e]
  by_cases h : m = x
  · subst h; simp
  · simp [h, Ne.symm h]) fun _ => rfl
theorem due_mem {a : Ab} {now r : Int} {l : List Nm} {x : Nm} (hn : Names a l) (hx : x ∈ dueL a now r l) : ∃ h, a.v x = some h ∧ 0 ≤ h.stamp ∧ h.stamp ≤ now - r := by
  obtain ⟨h1, h2⟩ := List.mem_filter.1 hx
  have h3 := (hn.2 x).1 h1
  simp -implicitDefEqProofs only [Ab.has, Option.isSome_iff_exists] at h3
  obtain ⟨h, h3⟩ := h3
  simp -implicitDefEqProofs only [isDue, stampOf, h3, vdOf, Option.getD_some, Bool.and_eq_true, decide_eq_true_eq] at h2
  exact ⟨h, h3, h2⟩
theorem dueL_nd {a : Ab} {now r : Int} {l : List Nm} (hn : Names a l) : (dueL a now r l).Nodup := hn.nd.sublist List.filter_sublist
theorem collect11 {b : Bk} {a : Ab} {F : Nat → Prop} {m : Nat} (now r : Int) {H : Heap} (h : AtS H b a F m) (hm : m ≤ 8000000) (ht : TickOk now) (hr : RetOk r) : W env (.call 11 [.ptr b.s 0, .int .i64 now, .int .i64 r]) H (fun o H' => ∃ k l, KOk k (dueL a now r l) ∧ Names a l ∧ l.length ≤ m ∧ o = .val (.tup [.sl k ((dueL a now r l).map eW), .int .i64 0]) ∧ AtS H' b (a.cuts (dueL a now r l)) F m ∧ Frm F H H') := by
  refine W.fnI rfl rfl rfl ?_
  simp -implicitDefEqProofs only [ir11, op, ef, cl, sq, reduceIte, Int.reduceLT, Int.reduceLE, Int.reduceBEq, Int.reduceBNe, Int.reduceEq, Nat.reduceAdd, Nat.reduceLeDiff, Nat.reduceLT, Nat.reduceEqDiff, S1]
  refine callB_of _ _ _ _ _ _ _ _ (due9 now r h hm ht hr) ?_
  rintro u H1 ⟨hx1, k, l, hko, hn, hll, hu⟩
  cases hu
  obtain ⟨D, hD⟩ : ∃ D, D = dueL a now r l := ⟨_, rfl⟩
  have hDl := dueL_len a now r l
  have hdm := fun x => due_mem (a := a) (now := now) (r := r) (l := l) (x := x) hn
  have hdn := dueL_nd (now := now) (r := r) hn
  rw [← hD] at hDl hdm hdn hko
  rw [← hD]
  simp -implicitDefEqProofs only [op, ef, cl, sq, reduceIte, Int.reduceLT, Int.reduceLE, Int.reduceBEq, Int.reduceBNe, Int.reduceEq, Nat.reduceAdd, Nat.reduceLeDiff, Nat.reduceLT, Nat.reduceEqDiff, S1, List.length_map]
  refine W.loopV [(0, _), (8, _), (9, _), (19, _), (20, _)] (fun (i : Nat) R H' => At H' (fun H' => AtS H' b (a.cuts (D.take i)) F m ∧ Frm F H H') ∧ R 21 = .int .i64 i ∧ i ≤ D.length) (fun i => D.length - i) 0 ⟨.i ⟨by rw [List.take_zero, cuts_nil]; exact h.ext hx1, ext_frm hx1⟩, rfl, Nat.zero_le _⟩ ?_
  rintro i R H2 ⟨⟨ha, hf⟩, g21, hi⟩
  by_cases hlt : i < D.length
  · obtain ⟨x, hxi⟩ := getP hlt
    have ix := iadX (e := eW) (n := 2) (fun _ => rfl) (by decide) (k := k) hxi
    have wsi := wrap_succ (show i < 9223372036854775807 by omega)
    obtain ⟨hd, hv, h0, _⟩ := hdm x (List.mem_of_getElem? hxi)
    have hnm : x ∉ D.take i := fun hh => by
      obtain ⟨j, hj, e2⟩ := List.getElem_of_mem hh
      have hj' : j < i ∧ j < D.length := by simp -implicitDefEqProofs only [List.length_take] at hj; omega
      have hjk : D[j]? = some x := by rw [← e2]; simp [List.getElem?_eq_getElem hj'.2]
      have := (List.getElem?_inj hj'.2 hdn).1 (hjk.trans hxi.symm)
      omega
    have hvc : (a.cuts (D.take i)).v (x.1, x.2) = some hd := by simp -implicitDefEqProofs only [Ab.cuts, memN_no hnm, Bool.false_eq_true, if_false]; exact hv
    have hxx : ∀ y : B, Ext H2 (H2 ++ [y]) := fun y => ⟨_, rfl⟩
    simp -implicitDefEqProofs only [mkR_nil, mkR_cons, op, ef, cl, sq, reduceIte, Int.reduceLT, Int.reduceLE, Int.reduceBEq, Int.reduceBNe, Int.reduceEq, Nat.reduceAdd, Nat.reduceLeDiff, Nat.reduceLT, Nat.reduceEqDiff, S1, S2, List.length_map, g21, hlt, natOf_nat, ix, eW]
    refine callB_of _ _ _ _ _ _ _ _ (dropA x.1 x.2 (ha.ext (hxx _)) hm) ?_
    rintro u H3 (⟨hh, _⟩ | ⟨h', hh, hm1, _⟩ | ⟨h', hh, hm1, hu, ha3, hf3⟩)
    · rw [hvc] at hh; cases hh
    · rw [hvc] at hh; cases hh; omega
    cases hu
    rw [cuts_s, ← take_sn hxi] at ha3
    simp -implicitDefEqProofs only [mkR_nil, mkR_cons, op, ef, cl, sq, reduceIte, Int.reduceLT, Int.reduceLE, Int.reduceBEq, Int.reduceBNe, Int.reduceEq, Nat.reduceAdd, Nat.reduceLeDiff, Nat.reduceLT, Nat.reduceEqDiff, S1, g21, wsi]
    exact ⟨i + 1, by omega, .i ⟨ha3, (hf.ext (hxx _)).trans hf3 fun c h => .inl h⟩, rfl, by omega⟩
  · have hie : i = D.length := by omega
    subst hie
    rw [List.take_length] at ha
    simp -implicitDefEqProofs only [mkR_nil, mkR_cons, op, ef, cl, sq, reduceIte, Int.reduceLT, Int.reduceLE, Int.reduceBEq, Int.reduceBNe, Int.reduceEq, Nat.reduceAdd, Nat.reduceLeDiff, Nat.reduceLT, Nat.reduceEqDiff, S1, List.length_map, g21, hlt]
    exact ⟨k, l, by rw [← hD]; exact hko, hn, hll, by rw [← hD], by rw [← hD]; exact ha, hf⟩
end Go.Proofs.Ytodegnhallgnkaa.St
end

section
namespace Go.Proofs.Ytodegnhallgnkaa.St
open Go.Rmp Go.Proofs.Ytodegnhallgnkaa.Ir
set_option maxRecDepth 10000
def AbT (a : Ab) : Prop := ∀ m h, a.v m = some h → h.stamp = -1 ∨ TickOk h.stamp
theorem AbT.emp : AbT Ab.emp := fun m h e => by cases e
theorem AbT.put {a : Ab} (h : AbT a) {n : Nat} {l : List (ByteArray × ByteArray)} {ks : List ByteArray} {now : Int} (ht : TickOk now) : AbT (a.put n l ks now) := fun m x e => by
  simp -implicitDefEqProofs only [Ab.put] at e
  cases h1 : a.v m with
  | some y => rw [h1] at e; cases e; exact h m _ h1
  | none =>
    rw [h1] at e
    simp only at e
    split at e
    · cases h2 : mlook l m.1 with
      | none => rw [h2] at e; cases e
      | some v =>
        rw [h2] at e; cases e
        simp only
        split
        · exact .inr ht
        · exact .inl rfl
    · cases e
theorem AbT.com {a : Ab} (h : AbT a) {n : Nat} {now : Int} (ht : TickOk now) : AbT (a.com n now) := fun m x e => by
  simp -implicitDefEqProofs only [Ab.com] at e
  cases h1 : a.v m with
  | none => rw [h1] at e; cases e
  | some y =>
    rw [h1] at e; simp -implicitDefEqProofs only [Option.map_some, Option.some.injEq] at e; subst e
    split
    · exact .inr ht
    · exact h m y h1
theorem AbT.cuts {a : Ab} (h : AbT a) (D : List Nm) : AbT (a.cuts D) := fun m x e => by
  simp -implicitDefEqProofs only [Ab.cuts] at e
  split at e
  · cases e
  · exact h m x e
theorem AbT.st {a : Ab} (h : AbT a) {m : Nm} (hm : a.has m = true) : stampOf a m = -1 ∨ TickOk (stampOf a m) := by
  obtain ⟨x, hx⟩ := Option.isSome_iff_exists.1 hm
  have := h m x hx
  simp -implicitDefEqProofs only [stampOf, hx, vdOf, Option.getD_some]; exact this
structure NxtV (a : Ab) (l : List Nm) (r at_ : Int) (is : Bool) : Prop where
  some : is = true ↔ ∃ m ∈ l, 0 ≤ stampOf a m
  on : is = true → ∃ m ∈ l, 0 ≤ stampOf a m ∧ at_ = stampOf a m + r
  least : ∀ m ∈ l, 0 ≤ stampOf a m → at_ ≤ stampOf a m + r
  off : is = false → at_ = 0
theorem NxtV.skip {a : Ab} {l : List Nm} {r t : Int} {is : Bool} (h : NxtV a l r t is) {m : Nm} (hm : 0 ≤ stampOf a m → is = true ∧ t ≤ stampOf a m + r) : NxtV a (l ++ [m]) r t is := by
  refine ⟨?_, fun e => ?_, fun x hx h0 => ?_, h.off⟩
  · rw [h.some]
    constructor
    · rintro ⟨x, hx, h0⟩; exact ⟨x, List.mem_append_left _ hx, h0⟩
    · rintro ⟨x, hx, h0⟩
      rcases List.mem_append.1 hx with hx | hx
      · exact ⟨x, hx, h0⟩
      · simp at hx; subst hx; exact h.some.1 (hm h0).1
  · obtain ⟨x, hx, h0⟩ := h.on e; exact ⟨x, List.mem_append_left _ hx, h0⟩
  · rcases List.mem_append.1 hx with hx | hx
    · exact h.least x hx h0
    · simp at hx; subst hx; exact (hm h0).2
theorem NxtV.take {a : Ab} {l : List Nm} {r t : Int} {is : Bool} (h : NxtV a l r t is) {m : Nm} (h0 : 0 ≤ stampOf a m) (hm : is = true → stampOf a m + r < t) : NxtV a (l ++ [m]) r (stampOf a m + r) true := by
  refine ⟨⟨fun _ => ⟨m, by simp, h0⟩, fun _ => rfl⟩, fun _ => ⟨m, by simp, h0, rfl⟩, fun x hx h1 => ?_, fun e => by cases e⟩
  rcases List.mem_append.1 hx with hx | hx
  · have := h.least x hx h1
    have := hm (h.some.2 ⟨x, hx, h1⟩)
    omega
  · simp at hx; subst hx; exact Int.le_refl _
theorem next24 {b : Bk} {a : Ab} {F : Nat → Prop} {m : Nat} (r : Int) {H : Heap} (h : AtS H b a F m) (hm : m ≤ 8000000) (hT : AbT a) (hr : RetOk r) : W env (.call 24 [.ptr b.s 0, .int .i64 r]) H (fun o H' => Ext H H' ∧ ∃ l t is, Names a l ∧ NxtV a l r t is ∧ o = .val (.tup [.int .i64 t, .bool is, .int .i64 0])) := by
  have h2 : (decide (0 ≤ r) && decide (r ≤ 1048576)) = true := by simp [hr.1, hr.2]
  refine W.fnI rfl rfl rfl ?_
  simp -implicitDefEqProofs only [ir24, op, ef, cl, sq, reduceIte, Int.reduceLT, Int.reduceLE, Int.reduceBEq, Int.reduceBNe, Int.reduceEq, Nat.reduceAdd, Nat.reduceLeDiff, Nat.reduceLT, Nat.reduceEqDiff, S1, eqRef, nilOf]
  refine callB_of _ _ _ _ _ _ _ _ (ret30 r _) ?_
  rintro u H2 ⟨hu, rfl⟩
  cases hu
  simp -implicitDefEqProofs only [op, ef, cl, sq, reduceIte, Int.reduceLT, Int.reduceLE, Int.reduceBEq, Int.reduceBNe, Int.reduceEq, Nat.reduceAdd, Nat.reduceLeDiff, Nat.reduceLT, Nat.reduceEqDiff, S1, h2]
  refine callB_of _ _ _ _ _ _ _ _ (keptA h hm) ?_
  rintro u H3 ⟨hx3, k, l, hko, hn, hll, hu⟩
  cases hu
  simp -implicitDefEqProofs only [op, ef, cl, sq, reduceIte, Int.reduceLT, Int.reduceLE, Int.reduceBEq, Int.reduceBNe, Int.reduceEq, Nat.reduceAdd, Nat.reduceLeDiff, Nat.reduceLT, Nat.reduceEqDiff, S1, List.length_map]
  refine W.loopV [(1, _), (19, _), (20, _)] (fun (i : Nat) R H' => At H' (fun H' => Ext H3 H' ∧ ∃ t is, R 7 = .int .i64 t ∧ R 8 = .bool is ∧ NxtV a (l.take i) r t is) ∧ R 21 = .int .i64 i ∧ i ≤ l.length) (fun i => l.length - i) 0 ⟨.i ⟨Ext.rfl', 0, false, rfl, rfl, ⟨(by simp), fun e => (by cases e), (by simp), fun _ => rfl⟩⟩, rfl, Nat.zero_le _⟩ ?_
  rintro i R H4 ⟨⟨hx, t, is, g7, g8, hv⟩, g21, hi⟩
  by_cases hlt : i < l.length
  · obtain ⟨x, hxi⟩ := getP hlt
    have ix := iadX (e := eKA a) (n := 5) (fun _ => rfl) (by decide) (k := k) hxi
    have wsi := wrap_succ (show i < 9223372036854775807 by omega)
    have hst := hT.st ((hn.2 x).1 (List.mem_of_getElem? hxi))
    obtain ⟨st, hs⟩ : ∃ st, st = stampOf a x := ⟨_, rfl⟩
    have hs' : (vdOf (a.v x)).stamp = st := by rw [hs]; rfl
    have hw : IntKind.i64.wrap (st + r) = st + r := by
      unfold TickOk RetOk at *
      rw [wrap64 (by omega)]
    have hxx : ∀ y : B, Ext H3 (H4 ++ [y]) := fun y => hx.app _
    by_cases h0 : 0 ≤ st
    · cases is
      · simp -implicitDefEqProofs only [mkR_nil, mkR_cons, op, ef, cl, sq, reduceIte, Int.reduceLT, Int.reduceLE, Int.reduceBEq, Int.reduceBNe, Int.reduceEq, Nat.reduceAdd, Nat.reduceLeDiff, Nat.reduceLT, Nat.reduceEqDiff, S1, S2, g7, g8, g21, hlt, natOf_nat, ix, eKA, hs', h0, hw, wsi]
        refine ⟨i + 1, by omega, .i ⟨hxx _, st + r, true, rfl, rfl, ?_⟩, rfl, by omega⟩
        rw [take_sn hxi, hs]; exact hv.take (hs ▸ h0) (fun e => by cases e)
      · by_cases hl : st + r < t
        · simp -implicitDefEqProofs only [mkR_nil, mkR_cons, op, ef, cl, sq, reduceIte, Int.reduceLT, Int.reduceLE, Int.reduceBEq, Int.reduceBNe, Int.reduceEq, Nat.reduceAdd, Nat.reduceLeDiff, Nat.reduceLT, Nat.reduceEqDiff, S1, S2, g7, g8, g21, hlt, natOf_nat, ix, eKA, hs', h0, hl, hw, wsi]
          refine ⟨i + 1, by omega, .i ⟨hxx _, st + r, true, rfl, rfl, ?_⟩, rfl, by omega⟩
          rw [take_sn hxi, hs]; exact hv.take (hs ▸ h0) (fun _ => hs ▸ hl)
        · simp -implicitDefEqProofs only [mkR_nil, mkR_cons, op, ef, cl, sq, reduceIte, Int.reduceLT, Int.reduceLE, Int.reduceBEq, Int.reduceBNe, Int.reduceEq, Nat.reduceAdd, Nat.reduceLeDiff, Nat.reduceLT, Nat.reduceEqDiff, S1, S2, g7, g8, g21, hlt, natOf_nat, ix, eKA, hs', h0, hl, hw, wsi]
          refine ⟨i + 1, by omega, .i ⟨hxx _, t, true, rfl, rfl, ?_⟩, rfl, by omega⟩
          rw [take_sn hxi]; exact hv.skip fun _ => ⟨rfl, by rw [← hs]; omega⟩
    · simp -implicitDefEqProofs only [mkR_nil, mkR_cons, op, ef, cl, sq, reduceIte, Int.reduceLT, Int.reduceLE, Int.reduceBEq, Int.reduceBNe, Int.reduceEq, Nat.reduceAdd, Nat.reduceLeDiff, Nat.reduceLT, Nat.reduceEqDiff, S1, S2, g7, g8, g21, hlt, natOf_nat, ix, eKA, hs', h0, hw, wsi]
      refine ⟨i + 1, by omega, .i ⟨hxx _, t, is, rfl, rfl, ?_⟩, rfl, by omega⟩
      rw [take_sn hxi]; exact hv.skip fun h => absurd (hs ▸ h) h0
  · have hie : i = l.length := by omega
    subst hie
    rw [List.take_length] at hv
    simp -implicitDefEqProofs only [mkR_nil, mkR_cons, op, ef, cl, sq, reduceIte, Int.reduceLT, Int.reduceLE, Int.reduceBEq, Int.reduceBNe, Int.reduceEq, Nat.reduceAdd, Nat.reduceLeDiff, Nat.reduceLT, Nat.reduceEqDiff, S1, List.length_map, g7, g8, g21, hlt]
    exact ⟨hx3.trans hx, l, t, is, hn, hv, rfl⟩
def LNames (a : Ab) (l : List ByteArray) : Prop := l.Pairwise (fun x y => strLt x y = true) ∧ ∀ k, k ∈ l ↔ (a.l k).isSome = true
theorem sortedS_eq : ∀ (l l' : List ByteArray), l.Pairwise (fun a b => strLt a b = true) → l'.Pairwise (fun a b => strLt a b = true) → (∀ x, x ∈ l ↔ x ∈ l') → l = l'
  | [], [], _, _, _ => rfl
  | [], b :: l', _, _, h => by have := (h b).2 (by simp); cases this
  | a :: l, [], _, _, h => by have := (h a).1 (by simp); cases this
  | a :: l, b :: l', h1, h2, h => by
    rw [List.pairwise_cons] at h1 h2
    have hab : a = b := by
      rcases List.mem_cons.1 ((h a).1 (by simp)) with e | ha
      · exact e
      · rcases List.mem_cons.1 ((h b).2 (by simp)) with e | hb
        · exact e.symm
        · have x1 := h1.1 b hb
          have x2 := h2.1 a ha
          rw [lt_asymm x1] at x2; cases x2
    subst hab
    congr 1
    refine sortedS_eq l l' h1.2 h2.2 fun x => ⟨fun hx => ?_, fun hx => ?_⟩
    · rcases List.mem_cons.1 ((h x).1 (by simp [hx])) with e | hx'
      · subst e; have := h1.1 x hx; rw [lt_irr] at this; cases this
      · exact hx'
    · rcases List.mem_cons.1 ((h x).2 (by simp [hx])) with e | hx'
      · subst e; have := h2.1 x hx; rw [lt_irr] at this; cases this
      · exact hx'
theorem LNames.uniq {a : Ab} {l l' : List ByteArray} (h : LNames a l) (h' : LNames a l') : l = l' := sortedS_eq l l' h.1 h'.1 fun m => by rw [h.2, h'.2]
def stepO (s : Ab × Int) (o : Opv) : Ab × Int :=
  if o.kind = 1 then (if (pairsO o).isEmpty = true then s.1 else s.1.put (idO o) (pairsO o) (keysO o) s.2, s.2)
  else if o.kind = 2 then (s.1.com (idO o) s.2, s.2) else (s.1, s.2 + (o.id % 8 : Nat))
structure BldOk (s : Ab × Int) (i : Nat) : Prop where
  t : 0 ≤ s.2 ∧ s.2 ≤ 7 * i
  st : AbT s.1
  few : ∀ k, (s.1.l k).isSome = true → k ∈ names 63
  key : ∀ m, s.1.has m = true → m.1 ∈ names 63
theorem has_put {a : Ab} {n : Nat} {l : List (ByteArray × ByteArray)} {ks : List ByteArray} {now : Int} {m : Nm} : (a.put n l ks now).has m = (a.has m || (decide (m.2 = n) && (mlook l m.1).isSome)) := by
  simp -implicitDefEqProofs only [Ab.has, Ab.put]
  cases h : a.v m with
  | some x => simp
  | none =>
    by_cases e : m.2 = n
    · simp [e]
    · simp [e]
theorem has_com {a : Ab} {n : Nat} {now : Int} {m : Nm} : (a.com n now).has m = a.has m := by
  simp -implicitDefEqProofs only [Ab.has, Ab.com, Option.isSome_map]
theorem names63 {m : Nat} {x : ByteArray} (h : x ∈ names m) : x ∈ names 63 := by
  obtain ⟨j, h1, h2, h3⟩ := (mem_namesN 6).1 h
  refine (mem_namesN 6).2 ⟨j, h1, ?_, h3⟩
  have : ∀ j : Fin 6, (63 : Nat).testBit j = true := by decide
  exact this ⟨j, h1⟩
theorem mlook_key {α β : Type} [DecidableEq α] {es : List (α × β)} {k : α} (h : (mlook es k).isSome = true) : k ∈ es.map (·.1) := by rw [mem_keys]; exact h
theorem BldOk.step {s : Ab × Int} {i : Nat} (h : BldOk s i) (hi : i ≤ 1048576) (o : Opv) : BldOk (stepO s o) (i + 1) := by
  have ht : TickOk s.2 := ⟨h.t.1, by have := h.t.2; omega⟩
  unfold stepO
  split
  · split
    · exact ⟨⟨h.t.1, by have := h.t.2; simp only; omega⟩, h.st, h.few, h.key⟩
    · refine ⟨⟨h.t.1, by have := h.t.2; simp only; omega⟩, h.st.put ht, h.few, fun m hm => ?_⟩
      simp -implicitDefEqProofs only [has_put, Bool.or_eq_true, Bool.and_eq_true] at hm
      rcases hm with hm | hm
      · exact h.key m hm
      · have := mlook_key hm.2
        simp -implicitDefEqProofs only [pairsO, List.map_map, List.mem_map] at this
        obtain ⟨x, hx, e⟩ := this
        exact e ▸ names63 hx
  · split
    · refine ⟨⟨h.t.1, by have := h.t.2; simp only; omega⟩, h.st.com ht, fun k hk => ?_, fun m hm => h.key m (by rw [has_com] at hm; exact hm)⟩
      simp -implicitDefEqProofs only [Ab.com] at hk
      split at hk
      · rename_i hc; exact h.key (k, _) hc.1
      · exact h.few k hk
    · refine ⟨⟨?_, ?_⟩, h.st, h.few, h.key⟩
      · have := h.t.1; simp only; omega
      · have := h.t.2; simp only; omega
theorem putO {b : Bk} {a : Ab} {F : Nat → Prop} {m : Nat} (o : Opv) (k k' : SK) (now : Int) {H : Heap} (h : AtS H b a F m) (hn : m + 6 ≤ 8000000) (hko : KOk k' (keysO o)) (ht : TickOk now) :
    W env (.call 14 [.ptr b.s 0, .int .u64 (idO o : Nat), .sl k ((pairsO o).map eP), .sl k' ((keysO o).map eS), .int .i64 now]) H (fun u H' => ∃ F', (u = if (pairsO o).isEmpty = true then .val (.tup [.bool false, .int .i64 1]) else .val (.tup [.bool (a.fresh (idO o) (pairsO o)), .int .i64 0])) ∧ AtS H' b (if (pairsO o).isEmpty = true then a else a.put (idO o) (pairsO o) (keysO o) now) F' (m + 6) ∧ Frm F H H' ∧ Gro F F' H H') := by
  have h6 := pairsO_len o
  have k6 := keysO_len o
  by_cases he : (pairsO o).isEmpty = true
  · refine W.use (putNo (idO o) k k' (pairsO o) (keysO o) now h (by omega) (by omega) fun hh => ?_) fun u H' ⟨hu, hx⟩ => ⟨F, ?_, ?_, ext_frm hx, fun c h => .inl h⟩
    · have := hh.1.2.2.1
      rw [List.isEmpty_iff.1 he] at this; simp at this
    · rw [if_pos he]; exact hu
    · rw [if_pos he]; exact (h.ext hx).le (by omega)
  · refine W.use (putA (idO o) k k' (pairsO o) (keysO o) now h (by omega) hko (may_O o fun e => he (by rw [e]; rfl)) ht) fun u H' ⟨F', hu, ha, hf, hg⟩ => ⟨F', ?_, ?_, hf, hg⟩
    · rw [if_neg he]; exact hu
    · rw [if_neg he]; exact ha.le (by omega)
theorem Gro.trans {F F' F2 : Nat → Prop} {H H' H2 : Heap} (h : Gro F F' H H') (h' : Gro F' F2 H' H2) (l1 : H.length ≤ H'.length) (l2 : H'.length ≤ H2.length) : Gro F F2 H H2 := fun c hc => by
  rcases h' c hc with hc | hc
  · rcases h c hc with hc | hc
    · exact .inl hc
    · exact .inr ⟨hc.1, by omega⟩
  · exact .inr ⟨by omega, hc.2⟩
end Go.Proofs.Ytodegnhallgnkaa.St
end

section
namespace Go.Proofs.Ytodegnhallgnkaa.St
open Go.Rmp Go.Proofs.Ytodegnhallgnkaa.Ir
set_option maxRecDepth 10000
structure Prv (H0 H : Heap) (b : Bk) (a : Ab) (F : Nat → Prop) (m : Nat) : Prop where
  at_ : AtS H b a F m
  frm : Frm (fun _ => False) H0 H
  new : ∀ c, F c → H0.length ≤ c ∧ c < H.length
theorem Prv.ext {H0 H H' : Heap} {b : Bk} {a : Ab} {F : Nat → Prop} {m : Nat} (h : Prv H0 H b a F m) (hx : Ext H H') : Prv H0 H' b a F m := ⟨h.at_.ext hx, h.frm.ext hx, fun c hc => by have := h.new c hc; have := hx.len; omega⟩
theorem Prv.go {H0 H H' : Heap} {b : Bk} {a a' : Ab} {F F' : Nat → Prop} {m m' : Nat} (h : Prv H0 H b a F m) (ha : AtS H' b a' F' m') (hf : Frm F H H') (hg : Gro F F' H H') : Prv H0 H' b a' F' m' := ⟨ha, h.frm.more hf fun c hc => (h.new c hc).1, fun c hc => by
  have l1 := h.frm.1
  have l2 := hf.1
  rcases hg c hc with h' | h'
  · have := h.new c h'; omega
  · omega⟩
theorem Prv.go' {H0 H H' : Heap} {b : Bk} {a a' : Ab} {F : Nat → Prop} {m m' : Nat} (h : Prv H0 H b a F m) (ha : AtS H' b a' F m') (hf : Frm F H H') : Prv H0 H' b a' F m' := h.go ha hf fun _ h => .inl h
def p1 : List (ByteArray × ByteArray) := [(tA, tX)]
def p2 : List (ByteArray × ByteArray) := [(tA, tY)]
theorem mayL1 : MayP 65536 p1 [tA] := by
  refine ⟨by decide, goodB_iff.1 (by decide +kernel), by decide, fun i hi p hp => ?_⟩
  have : i = 0 := by simp [p1] at hi; omega
  subst this
  simp [p1] at hp; subst hp
  exact ⟨fun h => by omega, by simp, by decide⟩
theorem mayL2 : MayP 131072 p2 [tA] := by
  refine ⟨by decide, goodB_iff.1 (by decide +kernel), by decide, fun i hi p hp => ?_⟩
  have : i = 0 := by simp [p2] at hi; omega
  subst this
  simp [p2] at hp; subst hp
  exact ⟨fun h => by omega, by simp, by decide⟩
def aL : Ab := (((Ab.emp.put 65536 p1 [tA] 0).com 65536 0).put 131072 p2 [tA] 1).com 131072 3
def nL : List Nm := [(tA, 65536), (tA, 131072)]
theorem namesL : Names aL nL := by
  refine ⟨by simp -implicitDefEqProofs only [nL, List.pairwise_cons]; exact ⟨fun x hx => by simp at hx; subst hx; decide +kernel, by simp⟩, fun m => ?_⟩
  simp -implicitDefEqProofs only [aL, has_com, has_put, p1, p2, mlook_cons, mlook_nil, nL, List.mem_cons, List.not_mem_nil, or_false]
  obtain ⟨k, n⟩ := m
  simp -implicitDefEqProofs only [Ab.has, Ab.emp, Prod.mk.injEq, Option.isSome_none, Bool.false_or, Bool.or_eq_true, Bool.and_eq_true, decide_eq_true_eq]
  by_cases hk : k = tA <;> simp [hk]
theorem due0 : dueL aL 12 10 nL = [] := by decide +kernel
theorem due1 : dueL aL 13 10 nL = [(tA, 65536)] := by decide +kernel
theorem stL1 : stampOf aL (tA, 65536) = 3 := by decide +kernel
theorem stL2 : stampOf aL (tA, 131072) = -1 := by decide +kernel
theorem nxtL {t : Int} {is : Bool} (h : NxtV aL nL 10 t is) : t = 13 ∧ is = true := by
  have his : is = true := h.some.2 ⟨(tA, 65536), by simp [nL], by rw [stL1]; decide⟩
  obtain ⟨m, hm, h0, e⟩ := h.on his
  simp -implicitDefEqProofs only [nL, List.mem_cons, List.not_mem_nil, or_false] at hm
  rcases hm with rfl | rfl
  · rw [stL1] at e; exact ⟨e, his⟩
  · rw [stL2] at h0; omega
theorem has0 : ∀ k, (aL.cuts [(tA, 65536)]).has (k, 65536) = false := fun k => by
  have hn := namesL.2 (k, 65536)
  simp -implicitDefEqProofs only [Ab.has, Ab.cuts]
  by_cases h : k = tA
  · subst h; rfl
  · have : memN [(tA, 65536)] (k, 65536) = false := by simp [memN, Ne.symm h]
    rw [this]
    have hh : aL.has (k, 65536) = false := by
      cases e : aL.has (k, 65536) with
      | false => rfl
      | true => have := hn.2 e; simp [nL, h] at this
    simpa [Ab.has] using hh
theorem tAL : AbT aL := (((AbT.emp.put ⟨by decide, by decide⟩).com ⟨by decide, by decide⟩).put ⟨by decide, by decide⟩).com ⟨by decide, by decide⟩
theorem alive7 (H : Heap) : W env (.call 7 []) H (RetG (.bool true) H) := by
  refine W.fnI rfl rfl rfl ?_
  simp -implicitDefEqProofs only [ir7, op, ef, cl, sq, reduceIte, Int.reduceLT, Int.reduceLE, Int.reduceBEq, Int.reduceBNe, Int.reduceEq, Nat.reduceAdd, Nat.reduceLeDiff, Nat.reduceLT, Nat.reduceEqDiff, S1]
  refine callB_of _ _ _ _ _ _ _ _ (newA _) ?_
  rintro u H1 ⟨hx1, b, F0, hu, h1, hF0⟩
  cases hu
  have v1 : Prv H H1 b Ab.emp F0 0 := ⟨h1, ext_frm hx1, hF0⟩
  simp -implicitDefEqProofs only [op, ef, cl, sq, reduceIte, Int.reduceLT, Int.reduceLE, Int.reduceBEq, Int.reduceBNe, Int.reduceEq, Nat.reduceAdd, Nat.reduceLeDiff, Nat.reduceLT, Nat.reduceEqDiff, S1, eqRef, nilOf]
  refine callB_of _ _ _ _ _ _ _ _ (putA 65536 .full .full p1 [tA] 0 v1.at_ (by decide) (fun h => by cases h) mayL1 ⟨by decide, by decide⟩) ?_
  rintro u H2 ⟨F2, hu, a2, f2, g2⟩
  cases hu
  have v2 := v1.go a2 f2 g2
  simp -implicitDefEqProofs only [op, ef, cl, sq, reduceIte, Int.reduceLT, Int.reduceLE, Int.reduceBEq, Int.reduceBNe, Int.reduceEq, Nat.reduceAdd, Nat.reduceLeDiff, Nat.reduceLT, Nat.reduceEqDiff, S1]
  refine callB_of _ _ _ _ _ _ _ _ (comA 65536 0 v2.at_ (by decide) (by decide) ⟨by decide, by decide⟩) ?_
  rintro u H3 ⟨D3, _, _, hu, a3, f3⟩
  cases hu
  have v3 := v2.go' a3 f3
  simp -implicitDefEqProofs only [op, ef, cl, sq, reduceIte, Int.reduceLT, Int.reduceLE, Int.reduceBEq, Int.reduceBNe, Int.reduceEq, Nat.reduceAdd, Nat.reduceLeDiff, Nat.reduceLT, Nat.reduceEqDiff, S1]
  refine callB_of _ _ _ _ _ _ _ _ (putA 131072 .full .full p2 [tA] 1 v3.at_ (by decide) (fun h => by cases h) mayL2 ⟨by decide, by decide⟩) ?_
  rintro u H4 ⟨F4, hu, a4, f4, g4⟩
  cases hu
  have v4 := v3.go a4 f4 g4
  simp -implicitDefEqProofs only [op, ef, cl, sq, reduceIte, Int.reduceLT, Int.reduceLE, Int.reduceBEq, Int.reduceBNe, Int.reduceEq, Nat.reduceAdd, Nat.reduceLeDiff, Nat.reduceLT, Nat.reduceEqDiff, S1]
  refine callB_of _ _ _ _ _ _ _ _ (comA 131072 3 v4.at_ (by decide) (by decide) ⟨by decide, by decide⟩) ?_
  rintro u H5 ⟨D5, _, _, hu, a5, f5⟩
  cases hu
  have v5 : Prv H H5 b aL F4 (0 + p1.length + p2.length) := v4.go' a5 f5
  simp -implicitDefEqProofs only [op, ef, cl, sq, reduceIte, Int.reduceLT, Int.reduceLE, Int.reduceBEq, Int.reduceBNe, Int.reduceEq, Nat.reduceAdd, Nat.reduceLeDiff, Nat.reduceLT, Nat.reduceEqDiff, S1]
  refine callB_of _ _ _ _ _ _ _ _ (due9 12 10 v5.at_ (by decide) ⟨by decide, by decide⟩ ⟨by decide, by decide⟩) ?_
  rintro u H6 ⟨x6, k6, l6, _, n6, _, hu⟩
  cases n6.uniq namesL
  cases hu
  rw [due0]
  have v6 := v5.ext x6
  simp -implicitDefEqProofs only [op, ef, cl, sq, reduceIte, Int.reduceLT, Int.reduceLE, Int.reduceBEq, Int.reduceBNe, Int.reduceEq, Nat.reduceAdd, Nat.reduceLeDiff, Nat.reduceLT, Nat.reduceEqDiff, S1]
  refine callB_of _ _ _ _ _ _ _ _ (next24 10 v6.at_ (by decide) tAL ⟨by decide, by decide⟩) ?_
  rintro u H7 ⟨x7, l7, t7, is7, n7, hv7, hu⟩
  cases n7.uniq namesL
  cases hu
  obtain ⟨rfl, rfl⟩ := nxtL hv7
  have v7 := v6.ext x7
  simp -implicitDefEqProofs only [op, ef, cl, sq, reduceIte, Int.reduceLT, Int.reduceLE, Int.reduceBEq, Int.reduceBNe, Int.reduceEq, Nat.reduceAdd, Nat.reduceLeDiff, Nat.reduceLT, Nat.reduceEqDiff, S1]
  refine callB_of _ _ _ _ _ _ _ _ (collect11 13 10 v7.at_ (by decide) ⟨by decide, by decide⟩ ⟨by decide, by decide⟩) ?_
  rintro u H8 ⟨k8, l8, _, n8, _, hu, a8, f8⟩
  cases n8.uniq namesL
  cases hu
  rw [due1] at a8
  rw [due1]
  have v8 := v7.go' a8 f8
  have z0 : natOf (.int .i64 0) = some 0 := rfl
  have ia : ∀ k, iadT 2 0 (.sl k [eW (tA, 65536)]) = some (.iptr (eW (tA, 65536))) := fun _ => rfl
  have ld : ∀ Hx, ldc Hx 2 (.iptr (eW (tA, 65536))) = some (eW (tA, 65536)) := fun _ => rfl
  have e1 : eqCells (eW (tA, 65536)) [T.str ⟨#[97]⟩, T.int .u64 65536] = some true := by decide +kernel
  have e2 := hasW (tA, 65536)
  simp -implicitDefEqProofs only [op, ef, cl, sq, reduceIte, Int.reduceLT, Int.reduceLE, Int.reduceBEq, Int.reduceBNe, Int.reduceEq, Nat.reduceAdd, Nat.reduceLeDiff, Nat.reduceLT, Nat.reduceEqDiff, S1, z0, ia, ld, e1, e2]
  refine callB_of _ _ _ _ _ _ _ _ (has28 65536 v8.at_) ?_
  rintro u H9 ⟨rfl, D, hD, hDm, hu⟩
  cases hu
  have hD0 : D = [] := by
    cases D with
    | nil => rfl
    | cons x D => have := (hDm x).1 (by simp); rw [has0] at this; cases this
  subst hD0
  simp -implicitDefEqProofs only [op, ef, cl, sq, reduceIte, Int.reduceLT, Int.reduceLE, Int.reduceBEq, Int.reduceBNe, Int.reduceEq, Nat.reduceAdd, Nat.reduceLeDiff, Nat.reduceLT, Nat.reduceEqDiff, S1, Int.cast_ofNat_Int]
  first | exact frm_ext v8.frm | simp [retg_ext (frm_ext v8.frm)]
end Go.Proofs.Ytodegnhallgnkaa.St
end

section
namespace Go.Proofs.Ytodegnhallgnkaa.St
open Go.Rmp Go.Proofs.Ytodegnhallgnkaa.Ir
set_option maxRecDepth 10000
theorem AtS.keys {H : Heap} {b : Bk} {a : Ab} {F : Nat → Prop} {n : Nat} (h : AtS H b a F n) : ∀ m, (vdOf (a.v m)).keys.length ≤ 1024 := fun m => by
  obtain ⟨s, _, hi, rfl, _⟩ := h
  simp -implicitDefEqProofs only [absS]
  cases e : mlook s.vs m with
  | none => simp [vdOf]
  | some x => exact (hi.kok m x e).2
theorem AtS.names {H : Heap} {b : Bk} {a : Ab} {F : Nat → Prop} {n : Nat} (h : AtS H b a F n) : ∃ l, Names a l ∧ l.length ≤ n := by
  obtain ⟨s, _, hi, rfl, _, hv⟩ := h
  obtain ⟨hp, hpw⟩ := sorted_listF (d := (s.vs.map (·.1)).toArray) (by simpa using hi.nd)
  refine ⟨_, ⟨hpw, fun m => ?_⟩, ?_⟩
  · rw [hp.mem_iff]
    show m ∈ (s.vs.map (·.1)).toArray.toList ↔ _
    rw [List.toList_toArray, mem_keys]; simp [Ab.has, absS]
  · rw [hp.length_eq]; simpa using hv
end Go.Proofs.Ytodegnhallgnkaa.St
end

section
namespace Go.Proofs.Ytodegnhallgnkaa.St
open Go.Rmp Go.Proofs.Ytodegnhallgnkaa.Ir
set_option maxRecDepth 10000
def AbS (a : Ab) : Prop := ∀ m h, a.v m = some h → (h.stamp = -1 ↔ ¬ m.2 < a.last m.1)
theorem AbS.emp : AbS Ab.emp := fun m h e => by cases e
theorem AbS.put {a : Ab} (h : AbS a) {n : Nat} {l : List (ByteArray × ByteArray)} {ks : List ByteArray} {now : Int} (ht : 0 ≤ now) : AbS (a.put n l ks now) := fun m x e => by
  have hl : (a.put n l ks now).last m.1 = a.last m.1 := rfl
  rw [hl]
  simp -implicitDefEqProofs only [Ab.put] at e
  cases h1 : a.v m with
  | some y => rw [h1] at e; cases e; exact h m _ h1
  | none =>
    rw [h1] at e
    simp only at e
    split at e
    · rename_i en
      cases h2 : mlook l m.1 with
      | none => rw [h2] at e; cases e
      | some v =>
        rw [h2] at e; cases e
        simp only
        split
        · rename_i hlt; rw [en]; constructor
          · intro; omega
          · intro hh; exact absurd hlt hh
        · rename_i hlt; rw [en]; simp [hlt]
    · cases e
theorem AbS.com {a : Ab} (h : AbS a) {n : Nat} {now : Int} (ht : 0 ≤ now) : AbS (a.com n now) := fun m x e => by
  have hl : (a.com n now).last m.1 = if a.has (m.1, n) = true ∧ a.last m.1 < n then n else a.last m.1 := by
    show (if _ then some n else a.l m.1).getD 0 = _
    by_cases hc : a.has (m.1, n) = true ∧ a.last m.1 < n
    · rw [if_pos hc, if_pos hc]; rfl
    · rw [if_neg hc, if_neg hc]; rfl
  rw [hl]
  simp -implicitDefEqProofs only [Ab.com] at e
  cases h1 : a.v m with
  | none => rw [h1] at e; cases e
  | some y =>
    have hy := h m y h1
    rw [h1] at e; simp -implicitDefEqProofs only [Option.map_some, Option.some.injEq] at e; subst e
    by_cases hc : a.has (m.1, n) = true ∧ a.last m.1 < n
    · rw [if_pos hc]
      by_cases hs : y.stamp = -1
      · by_cases hm : m.2 < n
        · rw [if_pos ⟨hs, hc.1, hc.2, hm⟩]; simp only; constructor
          · intro; omega
          · intro hh; exact absurd hm hh
        · rw [if_neg fun hh => hm hh.2.2.2]; exact ⟨fun _ => hm, fun _ => hs⟩
      · rw [if_neg fun hh => hs hh.1]
        have : m.2 < a.last m.1 := Decidable.of_not_not fun hh => hs (hy.2 hh)
        constructor
        · intro hh; exact absurd hh hs
        · intro hh; omega
    · rw [if_neg hc, if_neg fun hh => hc ⟨hh.2.1, hh.2.2.1⟩]; exact hy
theorem AbS.cuts {a : Ab} (h : AbS a) (D : List Nm) : AbS (a.cuts D) := fun m x e => by
  simp -implicitDefEqProofs only [Ab.cuts] at e
  split at e
  · cases e
  · exact h m x e
theorem AbS.step {s : Ab × Int} (h : AbS s.1) (ht : 0 ≤ s.2) (o : Opv) : AbS (stepO s o).1 := by
  unfold stepO
  split
  · split
    · exact h
    · exact h.put ht
  · split
    · exact h.com ht
    · exact h
end Go.Proofs.Ytodegnhallgnkaa.St
end

section
namespace Go.Proofs.Ytodegnhallgnkaa.St
open Go.Rmp Go.Proofs.Ytodegnhallgnkaa.Ir
set_option maxRecDepth 10000
structure Old where
  key : ByteArray
  id : Nat
  since : Int
  gone : Bool
def Old.nm (x : Old) : Nm := (x.key, x.id)
def eB (x : Old) : List T := [.str x.key, .int .u64 x.id, .int .i64 x.since, .bool x.gone]
def lastB (ls : List Nm) (k : ByteArray) : Nat := (mlook ls k).getD 0
def isAt (k : ByteArray) (n : Nat) (x : Old) : Bool := decide (x.key = k) && decide (x.id = n) && !x.gone
structure BInv (a : Ab) (bk : List Old) (ls : List Nm) : Prop where
  live : ∀ x ∈ bk, x.gone = false → ∃ h, a.v x.nm = some h ∧ h.stamp = x.since
  all : ∀ m h, a.v m = some h → ∃ x ∈ bk, x.gone = false ∧ x.nm = m
  nd : ((bk.filter fun x => !x.gone).map Old.nm).Nodup
  ls : ∀ k, lastB ls k = a.last k
  S : AbS a
  T : AbT a
theorem BInv.emp : BInv Ab.emp [] [] := ⟨by simp, fun m h e => (by cases e), by simp, fun k => rfl, AbS.emp, AbT.emp⟩
theorem BInv.at_ {a : Ab} {bk : List Old} {ls : List Nm} (h : BInv a bk ls) (k : ByteArray) (n : Nat) : bk.any (isAt k n) = a.has (k, n) := by
  rw [Bool.eq_iff_iff, List.any_eq_true]
  constructor
  · rintro ⟨x, hx, h1⟩
    simp -implicitDefEqProofs only [isAt, Bool.and_eq_true, decide_eq_true_eq, Bool.not_eq_true'] at h1
    obtain ⟨y, hy, _⟩ := h.live x hx h1.2
    have : x.nm = (k, n) := by simp -implicitDefEqProofs only [Old.nm, h1.1.1, h1.1.2]
    rw [this] at hy
    simp [Ab.has, hy]
  · intro h1
    obtain ⟨y, hy⟩ := Option.isSome_iff_exists.1 h1
    obtain ⟨x, hx, hg, e⟩ := h.all _ _ hy
    simp -implicitDefEqProofs only [Old.nm, Prod.mk.injEq] at e
    exact ⟨x, hx, by simp [isAt, e.1, e.2, hg]⟩
def Ab.ins (a : Ab) (m0 : Nm) (h : Vd) : Ab := ⟨fun m => if m = m0 then some h else a.v m, a.l⟩
theorem put_0 (a : Ab) (n : Nat) (ks : List ByteArray) (now : Int) : a.put n [] ks now = a := ab_ext (fun m => by
  simp -implicitDefEqProofs only [Ab.put, mlook_nil, Option.map_none]
  cases a.v m <;> simp) fun _ => rfl
theorem mlook_app {α β : Type} [DecidableEq α] (es : List (α × β)) (k k' : α) (v : β) : mlook (es ++ [(k, v)]) k' = (mlook es k').or (if k' = k then some v else none) := by
  induction es with
  | nil => simp [mlook_cons, mlook_nil]
  | cons e es ih =>
    rw [List.cons_append, mlook_cons, mlook_cons, ih]
    split <;> simp
theorem put_v (a : Ab) (n : Nat) (l : List (ByteArray × ByteArray)) (ks : List ByteArray) (now : Int) (m : Nm) : (a.put n l ks now).v m = (a.v m).or (if m.2 = n then (mlook l m.1).map fun v => ⟨v, ks, if n < a.last m.1 then now else -1⟩ else none) := by
  simp -implicitDefEqProofs only [Ab.put]
  cases a.v m <;> rfl
theorem put_s (a : Ab) (n : Nat) (l : List (ByteArray × ByteArray)) (p : ByteArray × ByteArray) (ks : List ByteArray) (now : Int) (hp : p.1 ∉ l.map (·.1)) :
    a.put n (l ++ [p]) ks now = if a.has (p.1, n) = true then a.put n l ks now else (a.put n l ks now).ins (p.1, n) ⟨p.2, ks, if n < a.last p.1 then now else -1⟩ := by
  obtain ⟨k, v⟩ := p
  have hk : mlook l k = none := mlook_none.2 hp
  have oth : ∀ m : Nm, m ≠ (k, n) → (a.put n (l ++ [(k, v)]) ks now).v m = (a.put n l ks now).v m := fun m hm => by
    rw [put_v, put_v, mlook_app]
    by_cases e : m.2 = n
    · have : ¬ m.1 = k := fun e2 => hm (Prod.ext e2 e)
      rw [if_pos e, if_pos e, if_neg this]
      cases mlook l m.1 <;> rfl
    · rw [if_neg e, if_neg e]
  by_cases hh : a.has (k, n) = true
  · rw [if_pos hh]
    refine ab_ext (fun m => ?_) fun _ => rfl
    by_cases hm : m = (k, n)
    · subst hm
      obtain ⟨z, hz⟩ := Option.isSome_iff_exists.1 hh
      rw [put_v, put_v, hz]; rfl
    · exact oth m hm
  · rw [if_neg hh]
    refine ab_ext (fun m => ?_) fun _ => rfl
    by_cases hm : m = (k, n)
    · subst hm
      have hz : a.v (k, n) = none := by simpa [Ab.has] using hh
      rw [put_v, mlook_app, hz, hk]
      simp [Ab.ins]
    · rw [oth m hm]; simp -implicitDefEqProofs only [Ab.ins, if_neg hm]
theorem BInv.ins {a : Ab} {bk : List Old} {ls : List Nm} (h : BInv a bk ls) {m : Nm} {x : Vd} (hm : a.v m = none) (hS : AbS (a.ins m x)) (hT : AbT (a.ins m x)) : BInv (a.ins m x) (bk ++ [⟨m.1, m.2, x.stamp, false⟩]) ls := by
  have key : ∀ y ∈ bk, y.gone = false → y.nm ≠ m := fun y hy hg e => by
    obtain ⟨z, hz, _⟩ := h.live y hy hg
    rw [e, hm] at hz; cases hz
  refine ⟨fun y hy hg => ?_, fun m' z hz => ?_, ?_, h.ls, hS, hT⟩
  · rcases List.mem_append.1 hy with hy | hy
    · obtain ⟨z, hz, hs⟩ := h.live y hy hg
      exact ⟨z, by simp -implicitDefEqProofs only [Ab.ins, if_neg (key y hy hg)]; exact hz, hs⟩
    · simp at hy; subst hy
      exact ⟨x, by simp [Ab.ins, Old.nm], rfl⟩
  · simp -implicitDefEqProofs only [Ab.ins] at hz
    split at hz
    · rename_i e; subst e
      exact ⟨_, List.mem_append_right _ (List.mem_singleton.2 rfl), rfl, rfl⟩
    · obtain ⟨y, hy, hg, e⟩ := h.all m' z hz
      exact ⟨y, List.mem_append_left _ hy, hg, e⟩
  · rw [List.filter_append, List.map_append, List.nodup_append]
    refine ⟨h.nd, by simp, fun x hx y hy => ?_⟩
    simp -implicitDefEqProofs only [List.filter_cons, List.filter_nil, Bool.not_false, if_true, List.map_cons, List.map_nil, List.mem_singleton] at hy
    subst hy
    obtain ⟨z, hz, rfl⟩ := List.mem_map.1 hx
    obtain ⟨hz1, hz2⟩ := List.mem_filter.1 hz
    exact key z hz1 (by simpa using hz2)
def stB1 (ls : List Nm) (now : Int) (x : Old) : Old := if x.since < 0 ∧ x.id < lastB ls x.key then { x with since := now } else x
theorem stB1_k (ls : List Nm) (now : Int) (x : Old) : (stB1 ls now x).nm = x.nm ∧ (stB1 ls now x).gone = x.gone := by unfold stB1; split <;> exact ⟨rfl, rfl⟩
theorem last_com (a : Ab) (n : Nat) (now : Int) (k : ByteArray) : (a.com n now).last k = if a.has (k, n) = true ∧ a.last k < n then n else a.last k := by
  show (if _ then some n else a.l k).getD 0 = _
  by_cases hc : a.has (k, n) = true ∧ a.last k < n
  · rw [if_pos hc, if_pos hc]; rfl
  · rw [if_neg hc, if_neg hc]; rfl
theorem BInv.com {a : Ab} {bk : List Old} {ls ls' : List Nm} (h : BInv a bk ls) {n : Nat} {now : Int} (hls : ∀ k, lastB ls' k = (a.com n now).last k) (ht : TickOk now) : BInv (a.com n now) (bk.map (stB1 ls' now)) ls' := by
  have key : ∀ (f : Old → Old), (∀ x, (f x).nm = x.nm ∧ (f x).gone = x.gone) → ∀ l : List Old, ((l.map f).filter fun x => !x.gone).map Old.nm = (l.filter fun x => !x.gone).map Old.nm := fun f hf l => by
    rw [List.filter_map, List.map_map]
    have e1 : ((fun x : Old => !x.gone) ∘ f) = fun x => !x.gone := funext fun x => by simp [(hf x).2]
    have e2 : Old.nm ∘ f = Old.nm := funext fun x => (hf x).1
    rw [e1, e2]
  refine ⟨fun y hy hg => ?_, fun m z hz => ?_, ?_, hls, h.S.com ht.1, h.T.com ht⟩
  · obtain ⟨x, hx, rfl⟩ := List.mem_map.1 hy
    rw [(stB1_k ls' now x).1]
    rw [(stB1_k ls' now x).2] at hg
    obtain ⟨z, hz, hs⟩ := h.live x hx hg
    have hSz := h.S _ _ hz
    have hTz := h.T _ _ hz
    unfold TickOk at hTz
    simp -implicitDefEqProofs only [Ab.com, hz, Option.map_some]
    refine ⟨_, rfl, ?_⟩
    have hll := hls x.key
    rw [last_com] at hll
    have en : x.nm.1 = x.key := rfl
    have en2 : x.nm.2 = x.id := rfl
    rw [en, en2] at hSz ⊢
    unfold stB1
    rw [hll, ← hs]
    by_cases hc : a.has (x.key, n) = true ∧ a.last x.key < n
    · rw [if_pos hc]
      by_cases hm : z.stamp = -1 ∧ x.id < n
      · rw [if_pos ⟨hm.1, hc.1, hc.2, hm.2⟩, if_pos ⟨by omega, hm.2⟩]
      · rw [if_neg fun hh => hm ⟨hh.1, hh.2.2.2⟩, if_neg]
        · exact hs
        · rintro ⟨h1, h2⟩; exact hm ⟨by omega, h2⟩
    · rw [if_neg hc, if_neg fun hh => hc ⟨hh.2.1, hh.2.2.1⟩, if_neg]
      · exact hs
      · rintro ⟨h1, h2⟩
        exact hSz.1 (by omega) h2
  · simp -implicitDefEqProofs only [Ab.com] at hz
    cases hv : a.v m with
    | none => rw [hv] at hz; cases hz
    | some w =>
      obtain ⟨x, hx, hg, e⟩ := h.all m w hv
      exact ⟨stB1 ls' now x, List.mem_map.2 ⟨x, hx, rfl⟩, by rw [(stB1_k ls' now x).2]; exact hg, by rw [(stB1_k ls' now x).1]; exact e⟩
  · rw [key _ (stB1_k ls' now)]; exact h.nd
def LsAt (a : Ab) (bk : List Old) (n : Nat) (ls : List Nm) : Prop := ∀ k, lastB ls k = if bk.any (isAt k n) = true ∧ a.last k < n then n else a.last k
def upL (k : ByteArray) (n : Nat) (x : Nm) : Nm := if x.1 = k then (k, n) else x
theorem mlook_upL (ls : List Nm) (k k' : ByteArray) (n : Nat) : mlook (ls.map (upL k n)) k' = if k' = k ∧ ls.any (fun x => decide (x.1 = k)) = true then some n else mlook ls k' := by
  induction ls with
  | nil => simp [mlook_nil]
  | cons e ls ih =>
    obtain ⟨e1, e2⟩ := e
    rw [List.map_cons, mlook_cons, mlook_cons, ih, List.any_cons]
    unfold upL
    by_cases he : e1 = k
    · subst he
      simp -implicitDefEqProofs only [if_true, decide_true, Bool.true_or, and_true]
      by_cases hk : k' = e1 <;> simp [hk]
    · simp -implicitDefEqProofs only [he, if_false, decide_false, Bool.false_or]
      by_cases hk : k' = e1
      · subst hk; simp [he]
      · simp [hk]
theorem LsAt.skip {a : Ab} {bk : List Old} {n : Nat} {ls : List Nm} (h : LsAt a bk n ls) {x : Old} (hx : isAt x.key n x = true → n ≤ lastB ls x.key) : LsAt a (bk ++ [x]) n ls := fun k => by
  rw [h k, List.any_append, List.any_cons, List.any_nil, Bool.or_false]
  cases hb : bk.any (isAt k n)
  · cases hxk : isAt k n x
    · rfl
    · have : x.key = k := by simp -implicitDefEqProofs only [isAt, Bool.and_eq_true, decide_eq_true_eq] at hxk; exact hxk.1.1
      subst this
      have := hx hxk
      rw [h, hb] at this
      simp -implicitDefEqProofs only [Bool.false_eq_true, false_and, if_false] at this ⊢
      rw [if_neg]; simp; omega
  · simp
theorem LsAt.raise {a : Ab} {bk : List Old} {n : Nat} {ls ls' : List Nm} (h : LsAt a bk n ls) {x : Old} (hx : isAt x.key n x = true) (hlt : lastB ls x.key < n) (hls : ∀ k, lastB ls' k = if k = x.key then n else lastB ls k) : LsAt a (bk ++ [x]) n ls' := fun k => by
  rw [hls k, List.any_append, List.any_cons, List.any_nil, Bool.or_false]
  by_cases hk : k = x.key
  · subst hk
    rw [if_pos rfl, hx]
    have := h x.key
    rw [if_pos]
    refine ⟨by simp, ?_⟩
    rw [this] at hlt
    split at hlt <;> omega
  · have hno : isAt k n x = false := by
      cases e : isAt k n x with
      | false => rfl
      | true => simp -implicitDefEqProofs only [isAt, Bool.and_eq_true, decide_eq_true_eq] at e; exact absurd e.1.1.symm hk
    rw [if_neg hk, hno, Bool.or_false, h k]
def dueB (now hold : Int) (x : Old) : Bool := !x.gone && decide (0 ≤ x.since) && decide (hold ≤ now - x.since)
def gnB (now hold : Int) (x : Old) : Old := if dueB now hold x = true then { x with gone := true } else x
theorem BInv.due {a : Ab} {bk : List Old} {ls : List Nm} (h : BInv a bk ls) {now hold : Int} {l : List Nm} (hN : Names a l) {x : Old} (hx : x ∈ bk) (hg : x.gone = false) : x.nm ∈ dueL a now hold l ↔ dueB now hold x = true := by
  obtain ⟨z, hz, hs⟩ := h.live x hx hg
  have hst : stampOf a x.nm = x.since := by simp -implicitDefEqProofs only [stampOf, hz, vdOf, Option.getD_some]; exact hs
  rw [dueL, List.mem_filter, hN.2]
  simp -implicitDefEqProofs only [Ab.has, hz, Option.isSome_some, true_and, isDue, hst, dueB, hg, Bool.not_false, Bool.true_and, Bool.and_eq_true, decide_eq_true_eq]
  omega
theorem BInv.tick {a : Ab} {bk : List Old} {ls : List Nm} (h : BInv a bk ls) {now hold : Int} {l : List Nm} (hN : Names a l) : BInv (a.cuts (dueL a now hold l)) (bk.map (gnB now hold)) ls := by
  have gk : ∀ x, (gnB now hold x).nm = x.nm ∧ (gnB now hold x).since = x.since := fun x => by unfold gnB; split <;> exact ⟨rfl, rfl⟩
  have gg : ∀ x, (gnB now hold x).gone = (x.gone || dueB now hold x) := fun x => by
    unfold gnB
    cases e : dueB now hold x <;> simp
  refine ⟨fun y hy hg => ?_, fun m z hz => ?_, ?_, h.ls, h.S.cuts _, h.T.cuts _⟩
  · obtain ⟨x, hx, rfl⟩ := List.mem_map.1 hy
    rw [gg, Bool.or_eq_false_iff] at hg
    rw [(gk x).1, (gk x).2]
    obtain ⟨z, hz, hs⟩ := h.live x hx hg.1
    have : x.nm ∉ dueL a now hold l := fun hh => by rw [h.due hN hx hg.1, hg.2] at hh; cases hh
    exact ⟨z, by simp -implicitDefEqProofs only [Ab.cuts, memN_no this, Bool.false_eq_true, if_false]; exact hz, hs⟩
  · simp -implicitDefEqProofs only [Ab.cuts] at hz
    split at hz
    · cases hz
    · rename_i hn
      obtain ⟨x, hx, hg, e⟩ := h.all m z hz
      refine ⟨gnB now hold x, List.mem_map.2 ⟨x, hx, rfl⟩, ?_, by rw [(gk x).1]; exact e⟩
      rw [gg, hg, Bool.false_or]
      cases e2 : dueB now hold x with
      | false => rfl
      | true => exact absurd (memN_iff.2 (e ▸ (h.due hN hx hg).2 e2)) hn
  · rw [List.filter_map, List.map_map]
    have e2 : Old.nm ∘ gnB now hold = Old.nm := funext fun x => (gk x).1
    rw [e2]
    refine h.nd.sublist (List.Sublist.map _ ?_)
    have : (List.filter ((fun x => !x.gone) ∘ gnB now hold) bk) = (bk.filter fun x => !x.gone).filter fun x => !dueB now hold x := by
      rw [List.filter_filter]
      refine List.filter_congr fun x _ => ?_
      simp -implicitDefEqProofs only [Function.comp, gg, Bool.not_or]
      exact Bool.and_comm _ _
    rw [this]
    exact List.filter_sublist
theorem BInv.cnt {a : Ab} {bk : List Old} {ls : List Nm} (h : BInv a bk ls) {now hold : Int} {l : List Nm} (hN : Names a l) : (bk.filter (dueB now hold)).length = (dueL a now hold l).length := by
  have hlive : ∀ x, dueB now hold x = true → x.gone = false := fun x hx => by simp -implicitDefEqProofs only [dueB, Bool.and_eq_true, Bool.not_eq_true'] at hx; exact hx.1.1
  have hnd : ((bk.filter (dueB now hold)).map Old.nm).Nodup := by
    refine h.nd.sublist (List.Sublist.map _ ?_)
    have : bk.filter (dueB now hold) = (bk.filter fun x => !x.gone).filter (dueB now hold) := by
      rw [List.filter_filter]
      refine List.filter_congr fun x _ => ?_
      cases e : dueB now hold x with
      | false => simp
      | true => simp [hlive x e]
    rw [this]
    exact List.filter_sublist
  have := len_eq hnd (dueL_nd (now := now) (r := hold) hN) fun m => by
    constructor
    · intro hm
      obtain ⟨x, hx, rfl⟩ := List.mem_map.1 hm
      obtain ⟨h1, h2⟩ := List.mem_filter.1 hx
      exact (h.due hN h1 (hlive x h2)).2 h2
    · intro hm
      obtain ⟨z, hz, _⟩ := due_mem hN hm
      obtain ⟨x, hx, hg, rfl⟩ := h.all m z hz
      exact List.mem_map.2 ⟨x, List.mem_filter.2 ⟨hx, (h.due hN hx hg).1 hm⟩, rfl⟩
  simpa using this
end Go.Proofs.Ytodegnhallgnkaa.St
end

section
namespace Go.Proofs.Ytodegnhallgnkaa.St
open Go.Rmp Go.Proofs.Ytodegnhallgnkaa.Ir
set_option maxRecDepth 10000
theorem mut_frm {α : Type} {enc : α → List T} {n n0 : Nat} {H H' : Heap} {G : Nat → Prop} {t : T} {l : List α} (h : Mut enc n n0 H t l) (hf : Frm G H H') (hg : ∀ c, tb t = some c → ¬ G c) : Mut enc n n0 H' t l := by
  rcases h with h | ⟨c, rfl, hc, h0⟩
  · exact .inl h
  · exact .inr ⟨c, rfl, hf.get hc (hg c rfl), h0⟩
theorem mut_blk {α : Type} {enc : α → List T} {n n0 : Nat} {H : Heap} {t : T} {l : List α} (h : Mut enc n n0 H t l) {c : Nat} (hc : tb t = some c) : H[c]? = some (.cells (msC enc l)) := by
  rcases h with ⟨_, rfl⟩ | ⟨c', rfl, hc', _⟩
  · cases hc
  · cases hc; exact hc'
theorem stayM_frm {n0 : Nat} {H H' : Heap} {t : T} (h : StayM n0 H t H') : Frm (fun c => tb t = some c) H H' := ⟨h.len, fun c hc hg => by
  have hx : H[c]? = some H[c] := List.getElem?_eq_getElem hc
  rw [hx]
  exact h.get c _ hx fun off len n e => hg (by rw [e]; rfl)⟩
theorem AtS.set1 {H : Heap} {b : Bk} {a : Ab} {F : Nat → Prop} {n : Nat} (h : AtS H b a F n) {L : Nat} (x : B) (hF : ¬ F L) : AtS (H.set L x) b a F n := by
  obtain ⟨s, h1, h2⟩ := h
  exact ⟨s, h1.set1 hF, h2⟩
structure Bks (Hs H : Heap) (b : Bk) (a : Ab) (F : Nat → Prop) (m : Nat) (t8 t9 : T) (bk : List Old) (ls : List Nm) : Prop where
  pr : Prv Hs H b a F m
  m8 : Mut eB 4 0 H t8 bk
  m9 : Mut eW 2 0 H t9 ls
  f8 : ∀ c, tb t8 = some c → ¬ F c
  f9 : ∀ c, tb t9 = some c → ¬ F c
  ne : ∀ c, tb t8 = some c → tb t9 = some c → False
theorem Bks.ext {Hs H H' : Heap} {b : Bk} {a : Ab} {F : Nat → Prop} {m : Nat} {t8 t9 : T} {bk : List Old} {ls : List Nm} (h : Bks Hs H b a F m t8 t9 bk ls) (hx : Ext H H') : Bks Hs H' b a F m t8 t9 bk ls := ⟨h.pr.ext hx, h.m8.ext hx, h.m9.ext hx, h.f8, h.f9, h.ne⟩
theorem Bks.go {Hs H H' : Heap} {b : Bk} {a a' : Ab} {F F' : Nat → Prop} {m m' : Nat} {t8 t9 : T} {bk : List Old} {ls : List Nm} (h : Bks Hs H b a F m t8 t9 bk ls) (ha : AtS H' b a' F' m') (hf : Frm F H H') (hg : Gro F F' H H') : Bks Hs H' b a' F' m' t8 t9 bk ls :=
  ⟨h.pr.go ha hf hg, mut_frm h.m8 hf h.f8, mut_frm h.m9 hf h.f9, fun c hc hF => (hg c hF).elim (h.f8 c hc) fun hh => by have := glt (mut_blk h.m8 hc); omega, fun c hc hF => (hg c hF).elim (h.f9 c hc) fun hh => by have := glt (mut_blk h.m9 hc); omega, h.ne⟩
theorem Bks.go' {Hs H H' : Heap} {b : Bk} {a a' : Ab} {F : Nat → Prop} {m m' : Nat} {t8 t9 : T} {bk : List Old} {ls : List Nm} (h : Bks Hs H b a F m t8 t9 bk ls) (ha : AtS H' b a' F m') (hf : Frm F H H') : Bks Hs H' b a' F m' t8 t9 bk ls := h.go ha hf fun _ h => .inl h
theorem Prv.set1 {Hs H : Heap} {b : Bk} {a : Ab} {F : Nat → Prop} {m : Nat} (h : Prv Hs H b a F m) {L : Nat} (x : B) (hF : ¬ F L) (hL : Hs.length ≤ L) : Prv Hs (H.set L x) b a F m := ⟨h.at_.set1 x hF, h.frm.set (.inr hL) x, fun c hc => by have := h.new c hc; simpa using this⟩
theorem Bks.set8 {Hs H : Heap} {b : Bk} {a : Ab} {F : Nat → Prop} {m : Nat} {t8 t9 : T} {bk bk' : List Old} {ls : List Nm} (h : Bks Hs H b a F m t8 t9 bk ls) {c : Nat} (hc : tb t8 = some c) (h0 : Hs.length ≤ c) (hl : bk'.length = bk.length) : Bks Hs (H.set c (.cells (msC eB bk'))) b a F m t8 t9 bk' ls := by
  refine ⟨h.pr.set1 _ (h.f8 c hc) h0, ?_, ?_, h.f8, h.f9, h.ne⟩
  · rcases h.m8 with ⟨_, rfl⟩ | ⟨c', rfl, hc', _⟩
    · cases hc
    · cases hc; exact .inr ⟨_, by rw [hl], g_eq (glt hc'), Nat.zero_le _⟩
  · exact mut_frm h.m9 ((Frm.refl (fun x => x = c) H).set (.inl rfl) _) fun d hd e => h.ne c hc (e ▸ hd)
theorem Bks.set9 {Hs H : Heap} {b : Bk} {a : Ab} {F : Nat → Prop} {m : Nat} {t8 t9 : T} {bk : List Old} {ls ls' : List Nm} (h : Bks Hs H b a F m t8 t9 bk ls) {c : Nat} (hc : tb t9 = some c) (h0 : Hs.length ≤ c) (hl : ls'.length = ls.length) : Bks Hs (H.set c (.cells (msC eW ls'))) b a F m t8 t9 bk ls' := by
  refine ⟨h.pr.set1 _ (h.f9 c hc) h0, ?_, ?_, h.f8, h.f9, h.ne⟩
  · exact mut_frm h.m8 ((Frm.refl (fun x => x = c) H).set (.inl rfl) _) fun d hd e => h.ne c (e ▸ hd) hc
  · rcases h.m9 with ⟨_, rfl⟩ | ⟨c', rfl, hc', _⟩
    · cases hc
    · cases hc; exact .inr ⟨_, by rw [hl], g_eq (glt hc'), Nat.zero_le _⟩
theorem fgt_mut {α : Type} {enc : α → List T} {n n0 : Nat} {H : Heap} {t : T} {l : List α} (h : Mut enc n n0 H t l) : fgt t = t := by
  rcases h with ⟨_, rfl⟩ | ⟨c, rfl, _⟩ <;> rfl
theorem Bks.app8 {Hs H : Heap} {b : Bk} {a : Ab} {F : Nat → Prop} {m : Nat} {t8 t9 : T} {bk : List Old} {ls : List Nm} (h : Bks Hs H b a F m t8 t9 bk ls) (x : Old) (h0 : ∀ c, tb t8 = some c → Hs.length ≤ c) (hl : bk.length ≤ 1000000) :
    ∃ t' H', appM H 4 40 t8 [eB x] = some (t', H') ∧ Bks Hs H' b a F m t' t9 (bk ++ [x]) ls ∧ Frm (fun c => tb t8 = some c) H H' ∧ ∀ c, tb t' = some c → Hs.length ≤ c := by
  obtain ⟨t', H', ha, hm, hst⟩ := appM_ok (enc := eB) (n := 4) (n0 := 0) (fun _ => rfl) (bytes := 40) [x] h.m8 (Nat.zero_le _) (by simp) (roomS (by simp; omega) (by omega))
  have hfr := stayM_frm hst
  have hnew : ∀ c, tb t' = some c → H.length ≤ c := fun c hc => by
    rcases hm with ⟨e, _⟩ | ⟨c', rfl, _, _⟩
    · simp at e
    · cases hc; exact appM_fr ha (by simp)
  have hHs := h.pr.frm.1
  refine ⟨t', H', ha, ⟨⟨h.pr.at_.frm hfr fun c hc _ hh => h.f8 c hh hc, h.pr.frm.more hfr fun c hc => h0 c hc, fun c hc => by have := h.pr.new c hc; have := hst.len; omega⟩, hm, mut_frm h.m9 hfr fun c hc hh => h.ne c hh hc, fun c hc hF => by have := h.pr.new c hF; have := hnew c hc; omega, h.f9, fun c hc hc' => by have := glt (mut_blk h.m9 hc'); have := hnew c hc; omega⟩, hfr, fun c hc => by have := hnew c hc; omega⟩
theorem Bks.app9 {Hs H : Heap} {b : Bk} {a : Ab} {F : Nat → Prop} {m : Nat} {t8 t9 : T} {bk : List Old} {ls : List Nm} (h : Bks Hs H b a F m t8 t9 bk ls) (x : Nm) (h0 : ∀ c, tb t9 = some c → Hs.length ≤ c) (hl : ls.length ≤ 1000000) :
    ∃ t' H', appM H 2 24 t9 [eW x] = some (t', H') ∧ Bks Hs H' b a F m t8 t' bk (ls ++ [x]) ∧ Frm (fun c => tb t9 = some c) H H' ∧ ∀ c, tb t' = some c → Hs.length ≤ c := by
  obtain ⟨t', H', ha, hm, hst⟩ := appM_ok (enc := eW) (n := 2) (n0 := 0) (fun _ => rfl) (bytes := 24) [x] h.m9 (Nat.zero_le _) (by simp) (roomS (by simp; omega) (by omega))
  have hfr := stayM_frm hst
  have hnew : ∀ c, tb t' = some c → H.length ≤ c := fun c hc => by
    rcases hm with ⟨e, _⟩ | ⟨c', rfl, _, _⟩
    · simp at e
    · cases hc; exact appM_fr ha (by simp)
  have hHs := h.pr.frm.1
  refine ⟨t', H', ha, ⟨⟨h.pr.at_.frm hfr fun c hc _ hh => h.f9 c hh hc, h.pr.frm.more hfr fun c hc => h0 c hc, fun c hc => by have := h.pr.new c hc; have := hst.len; omega⟩, mut_frm h.m8 hfr fun c hc hh => h.ne c hc hh, hm, h.f8, fun c hc hF => by have := h.pr.new c hF; have := hnew c hc; omega, fun c hc hc' => by have := glt (mut_blk h.m8 hc); have := hnew c hc'; omega⟩, hfr, fun c hc => by have := hnew c hc; omega⟩
theorem bO_ne {bk : List Old} {o : Opv} {H : Heap} {c L : Nat} (h : H[c]? = some (.cells (msC eB bk))) (hL : H[L]? = some (.cells (eO o))) : c ≠ L := by
  rintro rfl
  rw [h] at hL
  cases bk with
  | nil => cases hL
  | cons x bk => cases hL
theorem lO_ne {ls : List Nm} {o : Opv} {H : Heap} {c L : Nat} (h : H[c]? = some (.cells (msC eW ls))) (hL : H[L]? = some (.cells (eO o))) : c ≠ L := by
  rintro rfl
  rw [h] at hL
  cases ls with
  | nil => cases hL
  | cons x bk => cases hL
theorem len_mut {α : Type} {enc : α → List T} {n n0 : Nat} {H : Heap} {t : T} {l : List α} (h : Mut enc n n0 H t l) : ∀ Hx, lenT Hx .sl t = some l.length := fun Hx => by
  rcases h with ⟨e, rfl⟩ | ⟨c, rfl, _, _⟩
  · rw [e]; rfl
  · rfl
theorem at16 (t : T) (bk : List Old) (k : ByteArray) (n : Nat) (H : Heap) (hm : Mut eB 4 0 H t bk) (hl : bk.length ≤ 1000000) : W env (.call 16 [t, .str k, .int .u64 n]) H (fun o H' => H' = H ∧ ∃ r : Int, o = .val (.int .i64 r) ∧ decide (r < 0) = !bk.any (isAt k n)) := by
  have hlen := len_mut hm
  refine W.fnI rfl rfl rfl ?_
  simp -implicitDefEqProofs only [ir16, op, ef, cl, sq, reduceIte, Int.reduceLT, Int.reduceLE, Int.reduceBEq, Int.reduceBNe, Int.reduceEq, Nat.reduceAdd, Nat.reduceLeDiff, Nat.reduceLT, Nat.reduceEqDiff, S1]
  refine W.loopV [(0, _), (1, _), (2, _)] (fun (i : Nat) R H' => H' = H ∧ R 7 = .int .i64 i ∧ i ≤ bk.length ∧ (bk.take i).any (isAt k n) = false) (fun i => bk.length - i) 0 ⟨rfl, rfl, Nat.zero_le _, by simp⟩ ?_
  rintro i R H1 ⟨rfl, g7, hi, hno⟩
  by_cases hlt : i < bk.length
  · obtain ⟨x, hx⟩ := getP hlt
    obtain ⟨c, hc, ia, _⟩ := mut_n (enc := eB) (n := 4) (fun _ => rfl) (by decide) hm hx
    have wsi := wrap_succ (show i < 9223372036854775807 by omega)
    have r0 : ldcB 1 (i * 4 + 0) (some (.cells (msC eB bk))) = some [.str x.key] := msC_get (enc := eB) (n := 4) (fun _ => rfl) hx 0 1 (by decide)
    have r1 : ldcB 1 (i * 4 + 1) (some (.cells (msC eB bk))) = some [.int .u64 x.id] := msC_get (enc := eB) (n := 4) (fun _ => rfl) hx 1 1 (by decide)
    have r3 : ldcB 1 (i * 4 + 3) (some (.cells (msC eB bk))) = some [.bool x.gone] := msC_get (enc := eB) (n := 4) (fun _ => rfl) hx 3 1 (by decide)
    have hs : (bk.take (i + 1)).any (isAt k n) = isAt k n x := by rw [take_sn hx, List.any_append, hno]; simp
    have nxt : isAt k n x = false → (bk.take (i + 1)).any (isAt k n) = false := fun h => by rw [hs, h]
    by_cases h1 : x.key = k
    · by_cases h2 : x.id = n
      · cases h3 : x.gone
        · rw [h3] at r3
          simp -implicitDefEqProofs only [mkR_nil, mkR_cons, op, ef, cl, sq, reduceIte, Int.reduceLT, Int.reduceLE, Int.reduceBEq, Int.reduceBNe, Int.reduceEq, Nat.reduceAdd, Nat.reduceLeDiff, Nat.reduceLT, Nat.reduceEqDiff, S1, hlen, g7, hlt, natOf_nat, ia, hc, r0, r1, r3, h1, h2]
          refine ⟨i, rfl, ?_⟩
          have : bk.any (isAt k n) = true := List.any_eq_true.2 ⟨x, List.mem_of_getElem? hx, by simp [isAt, h1, h2, h3]⟩
          rw [this]; simp
        · rw [h3] at r3
          simp -implicitDefEqProofs only [mkR_nil, mkR_cons, op, ef, cl, sq, reduceIte, Int.reduceLT, Int.reduceLE, Int.reduceBEq, Int.reduceBNe, Int.reduceEq, Nat.reduceAdd, Nat.reduceLeDiff, Nat.reduceLT, Nat.reduceEqDiff, S1, hlen, g7, hlt, natOf_nat, ia, hc, r0, r1, r3, h1, h2, wsi]
          exact ⟨i + 1, by omega, rfl, hlt, nxt (by simp [isAt, h3])⟩
      · simp -implicitDefEqProofs only [mkR_nil, mkR_cons, op, ef, cl, sq, reduceIte, Int.reduceLT, Int.reduceLE, Int.reduceBEq, Int.reduceBNe, Int.reduceEq, Nat.reduceAdd, Nat.reduceLeDiff, Nat.reduceLT, Nat.reduceEqDiff, S1, hlen, g7, hlt, natOf_nat, ia, hc, r0, r1, r3, h1, h2, wsi]
        exact ⟨i + 1, by omega, rfl, hlt, nxt (by simp [isAt, h2])⟩
    · simp -implicitDefEqProofs only [mkR_nil, mkR_cons, op, ef, cl, sq, reduceIte, Int.reduceLT, Int.reduceLE, Int.reduceBEq, Int.reduceBNe, Int.reduceEq, Nat.reduceAdd, Nat.reduceLeDiff, Nat.reduceLT, Nat.reduceEqDiff, S1, hlen, g7, hlt, natOf_nat, ia, hc, r0, r1, r3, h1, wsi]
      exact ⟨i + 1, by omega, rfl, hlt, nxt (by simp [isAt, h1])⟩
  · have hie : i = bk.length := by omega
    subst hie
    rw [List.take_length] at hno
    simp -implicitDefEqProofs only [mkR_nil, mkR_cons, op, ef, cl, sq, reduceIte, Int.reduceLT, Int.reduceLE, Int.reduceBEq, Int.reduceBNe, Int.reduceEq, Nat.reduceAdd, Nat.reduceLeDiff, Nat.reduceLT, Nat.reduceEqDiff, S1, hlen, g7, hlt]
    exact ⟨-1, rfl, by rw [hno]; decide⟩
theorem last17B (t : T) (ls : List Nm) (k : ByteArray) (H : Heap) (hm : Mut eW 2 0 H t ls) (hl : ls.length ≤ 1000000) : W env (.call 17 [t, .str k]) H (Ret (.int .u64 (lastB ls k : Nat)) H) := by
  have hlen := len_mut hm
  refine W.fnI rfl rfl rfl ?_
  simp -implicitDefEqProofs only [ir17, op, ef, cl, sq, reduceIte, Int.reduceLT, Int.reduceLE, Int.reduceBEq, Int.reduceBNe, Int.reduceEq, Nat.reduceAdd, Nat.reduceLeDiff, Nat.reduceLT, Nat.reduceEqDiff, S1]
  refine W.loopV [(0, _), (1, _)] (fun (i : Nat) R H' => H' = H ∧ R 5 = .int .i64 i ∧ i ≤ ls.length ∧ lastB ls k = lastB (ls.drop i) k) (fun i => ls.length - i) 0 ⟨rfl, rfl, Nat.zero_le _, by simp⟩ ?_
  rintro i R H1 ⟨rfl, g5, hi, hno⟩
  by_cases hlt : i < ls.length
  · obtain ⟨x, hx⟩ := getP hlt
    obtain ⟨c, hc, ia, _⟩ := mut_n (enc := eW) (n := 2) (fun _ => rfl) (by decide) hm hx
    have wsi := wrap_succ (show i < 9223372036854775807 by omega)
    have r0 : ldcB 1 (i * 2 + 0) (some (.cells (msC eW ls))) = some [.str x.1] := msC_get (enc := eW) (n := 2) (fun _ => rfl) hx 0 1 (by decide)
    have r1 : ldcB 1 (i * 2 + 1) (some (.cells (msC eW ls))) = some [.int .u64 x.2] := msC_get (enc := eW) (n := 2) (fun _ => rfl) hx 1 1 (by decide)
    have hd : ls.drop i = x :: ls.drop (i + 1) := by
      obtain ⟨_, e⟩ := List.getElem?_eq_some_iff.1 hx
      rw [← e]; exact List.drop_eq_getElem_cons hlt
    have he : lastB (ls.drop i) k = if k = x.1 then x.2 else lastB (ls.drop (i + 1)) k := by
      rw [hd]; simp -implicitDefEqProofs only [lastB, mlook_cons]; split <;> rfl
    by_cases h1 : x.1 = k
    · rw [if_pos h1.symm] at he
      simp -implicitDefEqProofs only [mkR_nil, mkR_cons, op, ef, cl, sq, reduceIte, Int.reduceLT, Int.reduceLE, Int.reduceBEq, Int.reduceBNe, Int.reduceEq, Nat.reduceAdd, Nat.reduceLeDiff, Nat.reduceLT, Nat.reduceEqDiff, S1, hlen, g5, hlt, natOf_nat, ia, hc, r0, r1, h1, hno, he]
    · rw [if_neg fun h => h1 h.symm] at he
      simp -implicitDefEqProofs only [mkR_nil, mkR_cons, op, ef, cl, sq, reduceIte, Int.reduceLT, Int.reduceLE, Int.reduceBEq, Int.reduceBNe, Int.reduceEq, Nat.reduceAdd, Nat.reduceLeDiff, Nat.reduceLT, Nat.reduceEqDiff, S1, hlen, g5, hlt, natOf_nat, ia, hc, r0, r1, h1, wsi]
      exact ⟨i + 1, by omega, rfl, hlt, by rw [hno, he]⟩
  · have hie : i = ls.length := by omega
    subst hie
    have : lastB (ls.drop ls.length) k = 0 := by rw [List.drop_length]; rfl
    rw [this] at hno
    simp -implicitDefEqProofs only [mkR_nil, mkR_cons, op, ef, cl, sq, reduceIte, Int.reduceLT, Int.reduceLE, Int.reduceBEq, Int.reduceBNe, Int.reduceEq, Nat.reduceAdd, Nat.reduceLeDiff, Nat.reduceLT, Nat.reduceEqDiff, S1, hlen, g5, hlt, hno]
    rfl
end Go.Proofs.Ytodegnhallgnkaa.St
end

section
namespace Go.Proofs.Ytodegnhallgnkaa.St
open Go.Rmp Go.Proofs.Ytodegnhallgnkaa.Ir
set_option maxRecDepth 10000
theorem fresh_s (a : Ab) (n : Nat) (l : List (ByteArray × ByteArray)) (p : ByteArray × ByteArray) : a.fresh n (l ++ [p]) = (a.fresh n l || !a.has (p.1, n)) := by
  simp [Ab.fresh, List.any_append]
theorem put_has (a : Ab) (n : Nat) (l : List (ByteArray × ByteArray)) (k : ByteArray) (ks : List ByteArray) (now : Int) (hp : k ∉ l.map (·.1)) : (a.put n l ks now).has (k, n) = a.has (k, n) := by
  rw [has_put, mlook_none.2 hp]; simp
theorem pairsO_nd (o : Opv) : ((pairsO o).map (·.1)).Nodup := by
  have : (pairsO o).map (·.1) = names (o.keys &&& o.some) := by simp [pairsO, Function.comp_def]
  rw [this]
  exact (namesN_pw _ 6 (Nat.le_refl _)).imp fun {x y} h => by rintro rfl; rw [lt_irr] at h; cases h
theorem take_key {l : List (ByteArray × ByteArray)} (hn : (l.map (·.1)).Nodup) {i : Nat} {p : ByteArray × ByteArray} (hp : l[i]? = some p) : p.1 ∉ (l.take i).map (·.1) := fun hh => by
  obtain ⟨q, hq, e⟩ := List.mem_map.1 hh
  obtain ⟨j, hj, e2⟩ := List.getElem_of_mem hq
  have hj' : j < i ∧ j < l.length := by simp -implicitDefEqProofs only [List.length_take] at hj; omega
  have h1 : (l.map (·.1))[j]? = some p.1 := by rw [List.getElem?_map, ← e, ← e2]; simp [List.getElem?_eq_getElem hj'.2]
  have h2 : (l.map (·.1))[i]? = some p.1 := by rw [List.getElem?_map, hp]; rfl
  have := (List.getElem?_inj (by simpa using hj'.2) hn).1 (h1.trans h2.symm)
  omega
set_option maxHeartbeats 1000000 in
theorem time_put (C0 : C) (hC : blkIn ir4.body 5 = some (.loop C0)) {Hs H : Heap} {b : Bk} {a0 a1 : Ab} {F : Nat → Prop} {m : Nat} {t8 t9 : T} {bk : List Old} {ls : List Nm} {o : Opv} (ho : OkO o) {kp : SK} {now : Int} {L : Nat} {R : Regs}
    (hb : Bks Hs H b a1 F m t8 t9 bk ls) (h8 : ∀ c, tb t8 = some c → Hs.length ≤ c) (hv : BInv a0 bk ls) (ht : TickOk now) (hL : H[L]? = some (.cells (eO o))) (hlen : bk.length ≤ 100000) (hll : ls.length ≤ 1000000)
    (r7 : R 7 = .int .i64 now) (r8 : R 8 = t8) (r9 : R 9 = t9) (r11 : R 11 = .ptr L 0) (r12 : R 12 = .sl kp ((pairsO o).map eP)) (r16 : R 16 = .bool false) (r17 : R 17 = .int .i64 0) :
    W env (.code (.loop C0) R) H (onlyX 5 (fun R' H' => ∃ t8' bk', R' 8 = t8' ∧ R' 16 = .bool (a0.fresh (idO o) (pairsO o)) ∧ Bks Hs H' b a1 F m t8' t9 bk' ls ∧ (∀ c, tb t8' = some c → Hs.length ≤ c) ∧ BInv (a0.put (idO o) (pairsO o) (keysO o) now) bk' ls ∧ bk'.length ≤ bk.length + (pairsO o).length)) := by
  simp [ir4, blkIn, sq] at hC
  subst hC
  have hp6 := pairsO_len o
  have hpn := pairsO_nd o
  obtain ⟨ps, hps⟩ : ∃ ps, ps = pairsO o := ⟨_, rfl⟩
  obtain ⟨n, hn⟩ : ∃ n, n = idO o := ⟨_, rfl⟩
  rw [← hps] at hp6 hpn r12
  rw [← hps, ← hn]
  refine W.loopV [(7, .int .i64 now), (9, t9), (11, .ptr L 0), (12, .sl kp (ps.map eP))] (fun (j : Nat) R H' => At H' (fun H' => ∃ t bj, R 8 = t ∧ Bks Hs H' b a1 F m t t9 bj ls ∧ (∀ c, tb t = some c → Hs.length ≤ c) ∧ BInv (a0.put n (ps.take j) (keysO o) now) bj ls ∧ bj.length ≤ bk.length + j ∧ H'[L]? = some (.cells (eO o))) ∧ R 16 = .bool (a0.fresh n (ps.take j)) ∧ R 17 = .int .i64 j ∧ j ≤ ps.length) (fun j => ps.length - j) 0
    ⟨.i ⟨t8, bk, r8, hb, h8, by rw [List.take_zero, put_0]; exact hv, Nat.le_refl _, hL⟩, by rw [r16]; rfl, r17, Nat.zero_le _⟩ ?_ ⟨r7, r9, r11, r12, trivial⟩
  rintro j R H1 ⟨⟨t, bj, g8, hb1, h81, hv1, hlj, hL1⟩, g16, g17, hj⟩
  have hlm := len_mut hb1.m8
  by_cases hlt : j < ps.length
  · obtain ⟨p, hp⟩ := getP hlt
    have ip := iadX (e := eP) (n := 2) (fun _ => rfl) (by decide) (k := kp) hp
    have wsj := wrap_succ (show j < 9223372036854775807 by omega)
    have l5 : ldcB 5 0 (some (.cells (eO o))) = some (eO o) := rfl
    have hpk := take_key hpn hp
    have hph := put_has a0 n (ps.take j) p.1 (keysO o) now hpk
    have hfs := fresh_s a0 n (ps.take j) p
    have hpt := put_s a0 n (ps.take j) p (keysO o) now hpk
    rw [← take_sn hp] at hfs hpt
    have hat := hv1.at_ p.1 n
    rw [hph] at hat
    have hlast : lastB ls p.1 = a0.last p.1 := hv1.ls p.1
    simp -implicitDefEqProofs only [mkR_nil, mkR_cons, op, ef, cl, sq, reduceIte, Int.reduceLT, Int.reduceLE, Int.reduceBEq, Int.reduceBNe, Int.reduceEq, Nat.reduceAdd, Nat.reduceLeDiff, Nat.reduceLT, Nat.reduceEqDiff, S1, List.length_map, g8, g16, g17, hlt, natOf_nat, ip, eP, hL1, l5]
    refine callB_of _ _ _ _ _ _ _ _ (id15 o ho _) ?_
    rintro u H2 ⟨hu, hx2⟩
    cases hu
    have hx2 : Ext H1 H2 := hx2
    have hb2 := hb1.ext hx2
    have hL2 := hx2.get hL1
    rw [← hn]
    simp -implicitDefEqProofs only [mkR_nil, mkR_cons, op, ef, cl, sq, reduceIte, Int.reduceLT, Int.reduceLE, Int.reduceBEq, Int.reduceBNe, Int.reduceEq, Nat.reduceAdd, Nat.reduceLeDiff, Nat.reduceLT, Nat.reduceEqDiff, S1, g8, g16, g17]
    refine callB_of _ _ _ _ _ _ _ _ (at16 t bj p.1 n _ hb2.m8 (by omega)) ?_
    rintro u H3 ⟨rfl, r, hu, hr⟩
    cases hu
    rw [hat] at hr
    cases hh : a0.has (p.1, n)
    · rw [hh] at hr hfs hpt
      simp -implicitDefEqProofs only [Bool.not_false, Bool.or_true] at hr hfs
      rw [if_neg (by decide)] at hpt
      have hvn : (a0.put n (ps.take j) (keysO o) now).v (p.1, n) = none := by
        rw [hh] at hph; simpa [Ab.has] using hph
      simp -implicitDefEqProofs only [mkR_nil, mkR_cons, op, ef, cl, sq, reduceIte, Int.reduceLT, Int.reduceLE, Int.reduceBEq, Int.reduceBNe, Int.reduceEq, Nat.reduceAdd, Nat.reduceLeDiff, Nat.reduceLT, Nat.reduceEqDiff, S1, hr, g8, g16, g17, natOf_nat, ip, eP, hL2, l5]
      refine callB_of _ _ _ _ _ _ _ _ (id15 o ho _) ?_
      rintro u H4 ⟨hu, hx4⟩
      cases hu
      have hx4 : Ext _ H4 := hx4
      have hb4 := hb2.ext hx4
      have hL4 := hx4.get hL2
      rw [← hn]
      simp -implicitDefEqProofs only [mkR_nil, mkR_cons, op, ef, cl, sq, reduceIte, Int.reduceLT, Int.reduceLE, Int.reduceBEq, Int.reduceBNe, Int.reduceEq, Nat.reduceAdd, Nat.reduceLeDiff, Nat.reduceLT, Nat.reduceEqDiff, S1]
      refine callB_of _ _ _ _ _ _ _ _ (last17B t9 ls p.1 _ hb4.m9 hll) ?_
      rintro u H5 ⟨hu, rfl⟩
      cases hu
      rw [hlast]
      obtain ⟨st, hst⟩ : ∃ st : Int, st = if n < a0.last p.1 then now else -1 := ⟨_, rfl⟩
      have fin : ∀ H6, Ext H5 H6 → ∃ t' H', appM (H6 ++ [.cells (eB ⟨p.1, n, st, false⟩)]) 4 40 t [eB ⟨p.1, n, st, false⟩] = some (t', H') ∧ (At H' (fun H' => Bks Hs H' b a1 F m t' t9 (bj ++ [⟨p.1, n, st, false⟩]) ls ∧ (∀ c, tb t' = some c → Hs.length ≤ c) ∧ BInv (a0.put n (ps.take (j + 1)) (keysO o) now) (bj ++ [⟨p.1, n, st, false⟩]) ls ∧ H'[L]? = some (.cells (eO o)))) := fun H6 hx6 => by
        have hx7 : Ext H5 (H6 ++ [.cells (eB ⟨p.1, n, st, false⟩)]) := hx6.app _
        obtain ⟨t', H', e1, e2, e3, e4⟩ := (hb4.ext hx7).app8 ⟨p.1, n, st, false⟩ h81 (by omega)
        refine ⟨t', H', e1, .i ⟨e2, e4, ?_, e3.get (hx7.get hL4) fun e => bO_ne (mut_blk hb4.m8 e) hL4 rfl⟩⟩
        rw [hpt, ← hst]
        have hS := hv.S.put (n := n) (l := ps.take (j + 1)) (ks := keysO o) ht.1
        have hT := hv.T.put (n := n) (l := ps.take (j + 1)) (ks := keysO o) ht
        rw [hpt, ← hst] at hS hT
        exact hv1.ins hvn hS hT
      by_cases hlx : n < a0.last p.1
      all_goals
        simp -implicitDefEqProofs only [hlx, if_true, if_false] at hst
        simp -implicitDefEqProofs only [mkR_nil, mkR_cons, op, ef, cl, sq, reduceIte, Int.reduceLT, Int.reduceLE, Int.reduceBEq, Int.reduceBNe, Int.reduceEq, Nat.reduceAdd, Nat.reduceLeDiff, Nat.reduceLT, Nat.reduceEqDiff, S1, hlx, hL4, l5, g8, g16, g17, natOf_nat, ip, eP]
        refine callB_of _ _ _ _ _ _ _ _ (id15 o ho _) ?_
        rintro u H6 ⟨hu, hx6⟩
        cases hu
        have hx6 : Ext H5 H6 := hx6
        rw [← hn]
        obtain ⟨t', H', e1, e2, e3, e4, e5⟩ := fin H6 hx6
        have he := elems_one (enc := eB) (n := 4) (fun _ => rfl) (H := H6 ++ [.cells (eB ⟨p.1, n, st, false⟩)]) (bv := H6.length) (v := ⟨p.1, n, st, false⟩) (g_tail rfl)
        have hfg := fgt_mut hb1.m8
        subst hst
        simp -implicitDefEqProofs only [eB] at e1 he
        simp -implicitDefEqProofs only [mkR_nil, mkR_cons, op, ef, cl, sq, reduceIte, Int.reduceLT, Int.reduceLE, Int.reduceBEq, Int.reduceBNe, Int.reduceEq, Nat.reduceAdd, Nat.reduceLeDiff, Nat.reduceLT, Nat.reduceEqDiff, S1, g8, g16, g17, List.flatten_cons, List.flatten_nil, he, hfg, e1, wsj, ne_eq, not_false_eq_true, if_true]
        exact ⟨j + 1, by omega, .i ⟨t', _, rfl, e2, e3, e4, by simp; omega, e5⟩, by rw [hfs], rfl, by omega⟩
    · rw [hh] at hr hfs hpt
      simp -implicitDefEqProofs only [Bool.not_true, Bool.or_false] at hr hfs
      rw [if_pos rfl] at hpt
      simp -implicitDefEqProofs only [mkR_nil, mkR_cons, op, ef, cl, sq, reduceIte, Int.reduceLT, Int.reduceLE, Int.reduceBEq, Int.reduceBNe, Int.reduceEq, Nat.reduceAdd, Nat.reduceLeDiff, Nat.reduceLT, Nat.reduceEqDiff, S1, hr, g8, g16, g17, wsj]
      exact ⟨j + 1, by omega, .i ⟨t, bj, rfl, hb2, h81, by rw [hpt]; exact hv1, by omega, hL2⟩, by rw [hfs], rfl, by omega⟩
  · have hje : j = ps.length := by omega
    subst hje
    rw [List.take_length] at hv1 g16
    simp -implicitDefEqProofs only [mkR_nil, mkR_cons, op, ef, cl, sq, reduceIte, Int.reduceLT, Int.reduceLE, Int.reduceBEq, Int.reduceBNe, Int.reduceEq, Nat.reduceAdd, Nat.reduceLeDiff, Nat.reduceLT, Nat.reduceEqDiff, S1, List.length_map, g8, g16, g17, hlt, onlyX_e]
    exact ⟨t, bj, rfl, hb1, h81, hv1, hlj⟩
end Go.Proofs.Ytodegnhallgnkaa.St
end

section
namespace Go.Proofs.Ytodegnhallgnkaa.St
open Go.Rmp Go.Proofs.Ytodegnhallgnkaa.Ir
set_option maxRecDepth 10000
def mapTo {α : Type} (f : α → α) (l : List α) (i : Nat) : List α := (l.take i).map f ++ l.drop i
section
variable {α : Type} {f : α → α} {l : List α} {i : Nat} {x : α}
theorem mapTo_0 : mapTo f l 0 = l := by simp [mapTo]
theorem mapTo_len : (mapTo f l i).length = l.length := by simp [mapTo]; omega
theorem mapTo_end : mapTo f l l.length = l.map f := by simp [mapTo]
theorem drop_at (h : l[i]? = some x) : l.drop i = x :: l.drop (i + 1) := by
  obtain ⟨hi, e⟩ := List.getElem?_eq_some_iff.1 h
  rw [← e]; exact List.drop_eq_getElem_cons hi
theorem mapTo_get (h : l[i]? = some x) : (mapTo f l i)[i]? = some x := by
  have hi := (List.getElem?_eq_some_iff.1 h).1
  unfold mapTo
  rw [List.getElem?_append_right (by simp; omega), drop_at h]
  have : i - ((l.take i).map f).length = 0 := by simp; omega
  rw [this]; rfl
theorem mapTo_set (h : l[i]? = some x) : (mapTo f l i).set i (f x) = mapTo f l (i + 1) := by
  have hi := (List.getElem?_eq_some_iff.1 h).1
  unfold mapTo
  rw [take_sn h, drop_at h, List.set_append_right _ _ (by simp; omega)]
  have : i - ((l.take i).map f).length = 0 := by simp; omega
  rw [this]; simp
theorem mapTo_same (h : l[i]? = some x) (e : f x = x) : mapTo f l (i + 1) = mapTo f l i := by
  rw [← mapTo_set h, e]
  refine List.ext_getElem? fun j => ?_
  rw [List.getElem?_set]
  split
  · rename_i hj; subst hj
    rw [mapTo_get h]
    have hi := (List.getElem?_eq_some_iff.1 h).1
    rw [mapTo_len, if_pos hi]
  · rfl
end
theorem tb_of {α : Type} {enc : α → List T} {n n0 : Nat} {H : Heap} {t : T} {l : List α} {i c q : Nat} {x : α} (h : Mut enc n n0 H t l) (hx : l[i]? = some x) (hi : iadT n i t = some (.ptr c q)) (h0 : n ≠ 0) : tb t = some c := by
  rcases h with ⟨e, _⟩ | ⟨c', e1, _, _⟩
  · rw [e] at hx; cases hx
  · rw [e1, iad_m] at hi
    split at hi
    · simp -implicitDefEqProofs only [Option.some.injEq, T.ptr.injEq] at hi
      rw [e1, ← hi.1]; rfl
    · cases hi
theorem time_c9 (C0 : C) (hC : blkIn ir4.body 9 = some (.loop C0)) {Hs H : Heap} {b : Bk} {a1 : Ab} {F : Nat → Prop} {m : Nat} {t8 t9 : T} {bk : List Old} {ls : List Nm} {o : Opv} (ho : OkO o) {L x : Nat} {e : Old} {R : Regs}
    (hb : Bks Hs H b a1 F m t8 t9 bk ls) (h9 : ∀ c, tb t9 = some c → Hs.length ≤ c) (hL : H[L]? = some (.cells (eO o))) (hll : ls.length ≤ 1000000) (he : bk[x]? = some e)
    (r8 : R 8 = t8) (r9 : R 9 = t9) (r11 : R 11 = .ptr L 0) (r19 : R 19 = .int .i64 x) (r20 : R 20 = .bool false) (r21 : R 21 = .int .i64 0) :
    W env (.code (.loop C0) R) H (onlyX 9 (fun R' H' => R' 20 = .bool (ls.any fun y => decide (y.1 = e.key)) ∧ Bks Hs H' b a1 F m t8 t9 bk (ls.map (upL e.key (idO o))) ∧ H'[L]? = some (.cells (eO o)))) := by
  simp [ir4, blkIn, sq] at hC
  subst hC
  obtain ⟨n, hn⟩ : ∃ n, n = idO o := ⟨_, rfl⟩
  rw [← hn]
  refine W.loopV [(8, t8), (9, t9), (11, .ptr L 0), (19, .int .i64 x)] (fun (y : Nat) R H' => At H' (fun H' => Bks Hs H' b a1 F m t8 t9 bk (mapTo (upL e.key n) ls y) ∧ H'[L]? = some (.cells (eO o))) ∧ R 20 = .bool ((ls.take y).any fun z => decide (z.1 = e.key)) ∧ R 21 = .int .i64 y ∧ y ≤ ls.length) (fun y => ls.length - y) 0
    ⟨.i ⟨by rw [mapTo_0]; exact hb, hL⟩, r20, r21, Nat.zero_le _⟩ ?_ ⟨r8, r9, r11, r19, trivial⟩
  rintro y R H1 ⟨⟨hb1, hL1⟩, g20, g21, hy⟩
  have hlm := len_mut hb1.m9
  rw [mapTo_len] at hlm
  by_cases hlt : y < ls.length
  · obtain ⟨z, hz⟩ := getP hlt
    have hz' := mapTo_get (f := upL e.key n) hz
    have wsy := wrap_succ (show y < 9223372036854775807 by omega)
    obtain ⟨c, hc, ia, _⟩ := mut_n (enc := eW) (n := 2) (fun _ => rfl) (by decide) hb1.m9 hz'
    obtain ⟨c8, hc8, ia8, _⟩ := mut_n (enc := eB) (n := 4) (fun _ => rfl) (by decide) hb1.m8 he
    have q0 : ldcB 1 (y * 2 + 0) (some (.cells (msC eW (mapTo (upL e.key n) ls y)))) = some [.str z.1] := msC_get (enc := eW) (n := 2) (fun _ => rfl) hz' 0 1 (by decide)
    have q8 : ldcB 1 (x * 4 + 0) (some (.cells (msC eB bk))) = some [.str e.key] := msC_get (enc := eB) (n := 4) (fun _ => rfl) he 0 1 (by decide)
    have hta : (ls.take (y + 1)).any (fun z => decide (z.1 = e.key)) = ((ls.take y).any (fun z => decide (z.1 = e.key)) || decide (z.1 = e.key)) := by rw [take_sn hz, List.any_append]; simp
    by_cases hk : z.1 = e.key
    · have l5 : ldcB 5 0 (some (.cells (eO o))) = some (eO o) := rfl
      simp -implicitDefEqProofs only [mkR_nil, mkR_cons, op, ef, cl, sq, reduceIte, Int.reduceLT, Int.reduceLE, Int.reduceBEq, Int.reduceBNe, Int.reduceEq, Nat.reduceAdd, Nat.reduceLeDiff, Nat.reduceLT, Nat.reduceEqDiff, S1, hlm, g20, g21, hlt, natOf_nat, ia, ia8, hc, hc8, q0, q8, hk, hL1, l5]
      refine callB_of _ _ _ _ _ _ _ _ (id15 o ho _) ?_
      rintro u H2 ⟨hu, hx2⟩
      cases hu
      have hx2 : Ext H1 H2 := hx2
      rw [← hn]
      have hb2 := hb1.ext hx2
      have hL2 := hx2.get hL1
      have hc2 := hx2.get hc
      have hst := msC_set (enc := eW) (n := 2) (y := upL e.key n z) (fun _ => rfl) hz' H2 c [.int .u64 n] 1 (by simp) (by simp [upL, hk, eW])
      rw [mapTo_set hz] at hst
      have htb : tb t9 = some c := tb_of hb1.m9 hz' ia (by decide)
      have hcL : c ≠ L := lO_ne hc2 hL2
      simp -implicitDefEqProofs only [mkR_nil, mkR_cons, op, ef, cl, sq, reduceIte, Int.reduceLT, Int.reduceLE, Int.reduceBEq, Int.reduceBNe, Int.reduceEq, Nat.reduceAdd, Nat.reduceLeDiff, Nat.reduceLT, Nat.reduceEqDiff, S1, g20, g21, natOf_nat, ia, hc2, hst, wsy]
      refine ⟨y + 1, by omega, .i ⟨?_, by rw [g_ne hcL]; exact hL2⟩, by rw [hta]; simp [hk], rfl, by omega⟩
      exact hb2.set9 htb (h9 c htb) (by rw [mapTo_len, mapTo_len])
    · simp -implicitDefEqProofs only [mkR_nil, mkR_cons, op, ef, cl, sq, reduceIte, Int.reduceLT, Int.reduceLE, Int.reduceBEq, Int.reduceBNe, Int.reduceEq, Nat.reduceAdd, Nat.reduceLeDiff, Nat.reduceLT, Nat.reduceEqDiff, S1, hlm, g20, g21, hlt, natOf_nat, ia, ia8, hc, hc8, q0, q8, hk, wsy]
      exact ⟨y + 1, by omega, .i ⟨by rw [mapTo_same hz (by simp [upL, hk])]; exact hb1, hL1⟩, by rw [hta]; simp [hk], rfl, by omega⟩
  · have hye : y = ls.length := by omega
    subst hye
    rw [List.take_length] at g20
    rw [mapTo_end] at hb1
    simp -implicitDefEqProofs only [mkR_nil, mkR_cons, op, ef, cl, sq, reduceIte, Int.reduceLT, Int.reduceLE, Int.reduceBEq, Int.reduceBNe, Int.reduceEq, Nat.reduceAdd, Nat.reduceLeDiff, Nat.reduceLT, Nat.reduceEqDiff, S1, hlm, g20, g21, hlt, onlyX_e]
    exact ⟨hb1, hL1⟩
theorem lastB_up (ls : List Nm) (k k' : ByteArray) (n : Nat) (h : ls.any (fun y => decide (y.1 = k)) = true) : lastB (ls.map (upL k n)) k' = if k' = k then n else lastB ls k' := by
  unfold lastB
  rw [mlook_upL, h]
  by_cases hk : k' = k <;> simp [hk]
theorem lastB_no (ls : List Nm) (k k' : ByteArray) (n : Nat) (h : ls.any (fun y => decide (y.1 = k)) = false) : lastB (ls ++ [(k, n)]) k' = if k' = k then n else lastB ls k' := by
  have : ∀ x ∈ ls, ¬ x.1 = k := fun x hx => by simpa using List.any_eq_false.1 h x hx
  have hm : mlook ls k = none := mlook_none.2 fun hh => by
    obtain ⟨x, hx, e⟩ := List.mem_map.1 hh
    exact this x hx e
  unfold lastB
  rw [mlook_app]
  by_cases hk : k' = k
  · subst hk; simp [hm]
  · rw [if_neg hk, if_neg hk]; cases mlook ls k' <;> rfl
theorem map_no (ls : List Nm) (k : ByteArray) (n : Nat) (h : ls.any (fun y => decide (y.1 = k)) = false) : ls.map (upL k n) = ls := by
  have : ∀ x ∈ ls, ¬ x.1 = k := fun x hx => by simpa using List.any_eq_false.1 h x hx
  conv => rhs; rw [← List.map_id ls]
  exact List.map_congr_left fun x hx => by simp [upL, this x hx]
set_option maxHeartbeats 1000000 in
theorem time_c7 (C0 : C) (hC : blkIn ir4.body 7 = some (.loop C0)) {Hs H : Heap} {b : Bk} {a0 a1 : Ab} {F : Nat → Prop} {m : Nat} {t8 t9 : T} {bk : List Old} {ls : List Nm} {o : Opv} (ho : OkO o) {L : Nat} {R : Regs}
    (hb : Bks Hs H b a1 F m t8 t9 bk ls) (h9 : ∀ c, tb t9 = some c → Hs.length ≤ c) (hv : BInv a0 bk ls) (hL : H[L]? = some (.cells (eO o))) (hlen : bk.length ≤ 100000) (hll : ls.length ≤ 400000)
    (r8 : R 8 = t8) (r9 : R 9 = t9) (r11 : R 11 = .ptr L 0) (r19 : R 19 = .int .i64 0) :
    W env (.code (.loop C0) R) H (onlyX 7 (fun R' H' => ∃ t9' ls', R' 9 = t9' ∧ Bks Hs H' b a1 F m t8 t9' bk ls' ∧ (∀ c, tb t9' = some c → Hs.length ≤ c) ∧ LsAt a0 bk (idO o) ls' ∧ ls'.length ≤ ls.length + bk.length)) := by
  simp [ir4, blkIn, sq] at hC
  subst hC
  obtain ⟨n, hn⟩ : ∃ n, n = idO o := ⟨_, rfl⟩
  rw [← hn]
  have hl8 := len_mut hb.m8
  refine W.loopV [(8, t8), (11, .ptr L 0)] (fun (x : Nat) R H' => At H' (fun H' => ∃ t9' ls', R 9 = t9' ∧ Bks Hs H' b a1 F m t8 t9' bk ls' ∧ (∀ c, tb t9' = some c → Hs.length ≤ c) ∧ LsAt a0 (bk.take x) n ls' ∧ ls'.length ≤ ls.length + x ∧ H'[L]? = some (.cells (eO o))) ∧ R 19 = .int .i64 x ∧ x ≤ bk.length) (fun x => bk.length - x) 0
    ⟨.i ⟨t9, ls, r9, hb, h9, fun k => by rw [hv.ls]; simp, Nat.le_refl _, hL⟩, r19, Nat.zero_le _⟩ ?_ ⟨r8, r11, trivial⟩
  rintro x R H1 ⟨⟨t9', ls', g9, hb1, h91, hLs, hll1, hL1⟩, g19, hx⟩
  by_cases hlt : x < bk.length
  · obtain ⟨e, he⟩ := getP hlt
    have wsx := wrap_succ (show x < 9223372036854775807 by omega)
    obtain ⟨c8, hc8, ia8, _⟩ := mut_n (enc := eB) (n := 4) (fun _ => rfl) (by decide) hb1.m8 he
    have q0 : ldcB 1 (x * 4 + 0) (some (.cells (msC eB bk))) = some [.str e.key] := msC_get (enc := eB) (n := 4) (fun _ => rfl) he 0 1 (by decide)
    have q1 : ldcB 1 (x * 4 + 1) (some (.cells (msC eB bk))) = some [.int .u64 e.id] := msC_get (enc := eB) (n := 4) (fun _ => rfl) he 1 1 (by decide)
    have q3 : ldcB 1 (x * 4 + 3) (some (.cells (msC eB bk))) = some [.bool e.gone] := msC_get (enc := eB) (n := 4) (fun _ => rfl) he 3 1 (by decide)
    have l5 : ldcB 5 0 (some (.cells (eO o))) = some (eO o) := rfl
    have skip := fun h => (hLs.skip (x := e) h : LsAt a0 (bk.take x ++ [e]) n ls')
    rw [← take_sn he] at skip
    simp -implicitDefEqProofs only [mkR_nil, mkR_cons, op, ef, cl, sq, reduceIte, Int.reduceLT, Int.reduceLE, Int.reduceBEq, Int.reduceBNe, Int.reduceEq, Nat.reduceAdd, Nat.reduceLeDiff, Nat.reduceLT, Nat.reduceEqDiff, S1, hl8, g9, g19, hlt, natOf_nat, ia8, hc8, q1, hL1, l5]
    refine callB_of _ _ _ _ _ _ _ _ (id15 o ho _) ?_
    rintro u H2 ⟨hu, hx2⟩
    cases hu
    have hx2 : Ext H1 H2 := hx2
    rw [← hn]
    have hb2 := hb1.ext hx2
    have hL2 := hx2.get hL1
    have hc2 := hx2.get hc8
    by_cases hid : e.id = n
    · cases hg : e.gone
      · rw [hg] at q3
        simp -implicitDefEqProofs only [mkR_nil, mkR_cons, op, ef, cl, sq, reduceIte, Int.reduceLT, Int.reduceLE, Int.reduceBEq, Int.reduceBNe, Int.reduceEq, Nat.reduceAdd, Nat.reduceLeDiff, Nat.reduceLT, Nat.reduceEqDiff, S1, g9, g19, natOf_nat, ia8, hc2, q0, q1, q3, hid, hL2, l5]
        refine callB_of _ _ _ _ _ _ _ _ (last17B t9' ls' e.key _ hb2.m9 (by omega)) ?_
        rintro u H3 ⟨hu, rfl⟩
        cases hu
        simp -implicitDefEqProofs only [mkR_nil, mkR_cons, op, ef, cl, sq, reduceIte, Int.reduceLT, Int.reduceLE, Int.reduceBEq, Int.reduceBNe, Int.reduceEq, Nat.reduceAdd, Nat.reduceLeDiff, Nat.reduceLT, Nat.reduceEqDiff, S1, g9, g19, natOf_nat, ia8, hc2, q0, q1, q3, hid, hL2, l5]
        refine callB_of _ _ _ _ _ _ _ _ (id15 o ho _) ?_
        rintro u H4 ⟨hu, hx4⟩
        cases hu
        have hx4 : Ext H3 H4 := hx4
        rw [← hn]
        have hb4 := hb2.ext hx4
        have hL4 := hx4.get hL2
        have hc4 := hx4.get hc2
        by_cases hla : lastB ls' e.key < n
        · simp -implicitDefEqProofs only [mkR_nil, mkR_cons, op, ef, cl, sq, reduceIte, Int.reduceLT, Int.reduceLE, Int.reduceBEq, Int.reduceBNe, Int.reduceEq, Nat.reduceAdd, Nat.reduceLeDiff, Nat.reduceLT, Nat.reduceEqDiff, S1, g9, g19, hla]
          refine W.loopL 9 [(8, _), (9, _), (11, _), (19, _)] _ (time_c9 _ rfl ho hb4 h91 hL4 (by omega) he rfl g9 rfl g19 rfl rfl) ?_
          rintro R5 H5 ⟨g20, hb5, hL5⟩
          rw [← hn] at hb5
          have hc5 := mut_blk hb5.m8 (tb_of hb1.m8 he ia8 (by decide))
          cases hf : ls'.any fun y => decide (y.1 = e.key)
          · rw [hf] at g20
            rw [map_no _ _ _ hf] at hb5
            have l5' := l5
            simp -implicitDefEqProofs only [mkR_nil, mkR_cons, op, ef, cl, sq, reduceIte, Int.reduceLT, Int.reduceLE, Int.reduceBEq, Int.reduceBNe, Int.reduceEq, Nat.reduceAdd, Nat.reduceLeDiff, Nat.reduceLT, Nat.reduceEqDiff, S1, g9, g19, g20, natOf_nat, ia8, hc5, q0, hL5, l5]
            refine callB_of _ _ _ _ _ _ _ _ (id15 o ho _) ?_
            rintro u H6 ⟨hu, hx6⟩
            cases hu
            have hx6 : Ext H5 H6 := hx6
            have hc6 := hx6.get hc5
            rw [← hn]
            have hx7 : Ext H5 (H6 ++ [.cells (eW (e.key, n))]) := hx6.app _
            obtain ⟨t', H', e1, e2, e3, e4⟩ := (hb5.ext hx7).app9 (e.key, n) h91 (by omega)
            have hel := elems_one (enc := eW) (n := 2) (fun _ => rfl) (H := H6 ++ [.cells (eW (e.key, n))]) (bv := H6.length) (v := (e.key, n)) (g_tail rfl)
            have hfg := fgt_mut hb5.m9
            have hL7 := hx7.get hL5
            have hL8 := e3.get hL7 fun e => lO_ne (mut_blk (hb5.ext hx7).m9 e) hL7 rfl
            simp -implicitDefEqProofs only [eW] at e1 hel
            simp -implicitDefEqProofs only [mkR_nil, mkR_cons, op, ef, cl, sq, reduceIte, Int.reduceLT, Int.reduceLE, Int.reduceBEq, Int.reduceBNe, Int.reduceEq, Nat.reduceAdd, Nat.reduceLeDiff, Nat.reduceLT, Nat.reduceEqDiff, S1, g9, g19, g20, hc6, q0, List.flatten_cons, List.flatten_nil, hel, hfg, e1, wsx, ne_eq, not_false_eq_true, if_true]
            refine ⟨x + 1, by omega, .i ⟨t', _, rfl, e2, e4, ?_, by simp; omega, hL8⟩, rfl, by omega⟩
            rw [take_sn he]
            exact hLs.raise (by simp [isAt, hid, hg]) hla fun k => lastB_no ls' e.key k n hf
          · rw [hf] at g20
            simp -implicitDefEqProofs only [mkR_nil, mkR_cons, op, ef, cl, sq, reduceIte, Int.reduceLT, Int.reduceLE, Int.reduceBEq, Int.reduceBNe, Int.reduceEq, Nat.reduceAdd, Nat.reduceLeDiff, Nat.reduceLT, Nat.reduceEqDiff, S1, g9, g19, g20, wsx]
            refine ⟨x + 1, by omega, .i ⟨t9', _, rfl, hb5, h91, ?_, by simp; omega, hL5⟩, rfl, by omega⟩
            rw [take_sn he]
            exact hLs.raise (by simp [isAt, hid, hg]) hla fun k => lastB_up ls' e.key k n hf
        · simp -implicitDefEqProofs only [mkR_nil, mkR_cons, op, ef, cl, sq, reduceIte, Int.reduceLT, Int.reduceLE, Int.reduceBEq, Int.reduceBNe, Int.reduceEq, Nat.reduceAdd, Nat.reduceLeDiff, Nat.reduceLT, Nat.reduceEqDiff, S1, g9, g19, hla, wsx]
          exact ⟨x + 1, by omega, .i ⟨t9', ls', rfl, hb4, h91, skip fun _ => by omega, by omega, hL4⟩, rfl, by omega⟩
      · rw [hg] at q3
        simp -implicitDefEqProofs only [mkR_nil, mkR_cons, op, ef, cl, sq, reduceIte, Int.reduceLT, Int.reduceLE, Int.reduceBEq, Int.reduceBNe, Int.reduceEq, Nat.reduceAdd, Nat.reduceLeDiff, Nat.reduceLT, Nat.reduceEqDiff, S1, g9, g19, natOf_nat, ia8, hc2, q0, q1, q3, hid, wsx]
        exact ⟨x + 1, by omega, .i ⟨t9', ls', rfl, hb2, h91, skip fun h => (by simp [isAt, hg] at h), by omega, hL2⟩, rfl, by omega⟩
    · simp -implicitDefEqProofs only [mkR_nil, mkR_cons, op, ef, cl, sq, reduceIte, Int.reduceLT, Int.reduceLE, Int.reduceBEq, Int.reduceBNe, Int.reduceEq, Nat.reduceAdd, Nat.reduceLeDiff, Nat.reduceLT, Nat.reduceEqDiff, S1, g9, g19, natOf_nat, ia8, hc2, q0, q1, hid, wsx]
      exact ⟨x + 1, by omega, .i ⟨t9', ls', rfl, hb2, h91, skip fun h => (by simp [isAt, hid] at h), by omega, hL2⟩, rfl, by omega⟩
  · have hxe : x = bk.length := by omega
    subst hxe
    rw [List.take_length] at hLs
    simp -implicitDefEqProofs only [mkR_nil, mkR_cons, op, ef, cl, sq, reduceIte, Int.reduceLT, Int.reduceLE, Int.reduceBEq, Int.reduceBNe, Int.reduceEq, Nat.reduceAdd, Nat.reduceLeDiff, Nat.reduceLT, Nat.reduceEqDiff, S1, hl8, g9, g19, hlt, onlyX_e]
    exact ⟨t9', ls', rfl, hb1, h91, hLs, hll1⟩
end Go.Proofs.Ytodegnhallgnkaa.St
end

section
namespace Go.Proofs.Ytodegnhallgnkaa.St
open Go.Rmp Go.Proofs.Ytodegnhallgnkaa.Ir
set_option maxRecDepth 10000
theorem time_c11 (C0 : C) (hC : blkIn ir4.body 11 = some (.loop C0)) {Hs H : Heap} {b : Bk} {a1 : Ab} {F : Nat → Prop} {m : Nat} {t8 t9 : T} {bk : List Old} {ls : List Nm} {now : Int} {R : Regs}
    (hb : Bks Hs H b a1 F m t8 t9 bk ls) (h8 : ∀ c, tb t8 = some c → Hs.length ≤ c) (hlen : bk.length ≤ 100000) (hll : ls.length ≤ 1000000)
    (r7 : R 7 = .int .i64 now) (r8 : R 8 = t8) (r9 : R 9 = t9) (r22 : R 22 = .int .i64 0) :
    W env (.code (.loop C0) R) H (onlyX 11 (fun R' H' => Bks Hs H' b a1 F m t8 t9 (bk.map (stB1 ls now)) ls)) := by
  simp [ir4, blkIn, sq] at hC
  subst hC
  refine W.loopV [(7, .int .i64 now), (8, t8), (9, t9)] (fun (x : Nat) R H' => At H' (fun H' => Bks Hs H' b a1 F m t8 t9 (mapTo (stB1 ls now) bk x) ls) ∧ R 22 = .int .i64 x ∧ x ≤ bk.length) (fun x => bk.length - x) 0
    ⟨.i (by rw [mapTo_0]; exact hb), r22, Nat.zero_le _⟩ ?_ ⟨r7, r8, r9, trivial⟩
  rintro x R H1 ⟨hb1, g22, hx⟩
  have hb1 : Bks Hs H1 b a1 F m t8 t9 (mapTo (stB1 ls now) bk x) ls := hb1
  have hlm := len_mut hb1.m8
  rw [mapTo_len] at hlm
  by_cases hlt : x < bk.length
  · obtain ⟨e, he0⟩ := getP hlt
    have he := mapTo_get (f := stB1 ls now) he0
    have wsx := wrap_succ (show x < 9223372036854775807 by omega)
    obtain ⟨c8, hc8, ia8, _⟩ := mut_n (enc := eB) (n := 4) (fun _ => rfl) (by decide) hb1.m8 he
    have q0 : ldcB 1 (x * 4 + 0) (some (.cells (msC eB (mapTo (stB1 ls now) bk x)))) = some [.str e.key] := msC_get (enc := eB) (n := 4) (fun _ => rfl) he 0 1 (by decide)
    have q1 : ldcB 1 (x * 4 + 1) (some (.cells (msC eB (mapTo (stB1 ls now) bk x)))) = some [.int .u64 e.id] := msC_get (enc := eB) (n := 4) (fun _ => rfl) he 1 1 (by decide)
    have q2 : ldcB 1 (x * 4 + 2) (some (.cells (msC eB (mapTo (stB1 ls now) bk x)))) = some [.int .i64 e.since] := msC_get (enc := eB) (n := 4) (fun _ => rfl) he 2 1 (by decide)
    by_cases hs : e.since < 0
    · simp -implicitDefEqProofs only [mkR_nil, mkR_cons, op, ef, cl, sq, reduceIte, Int.reduceLT, Int.reduceLE, Int.reduceBEq, Int.reduceBNe, Int.reduceEq, Nat.reduceAdd, Nat.reduceLeDiff, Nat.reduceLT, Nat.reduceEqDiff, S1, hlm, g22, hlt, natOf_nat, ia8, hc8, q0, q1, q2, hs]
      refine callB_of _ _ _ _ _ _ _ _ (last17B t9 ls e.key _ hb1.m9 hll) ?_
      rintro u H2 ⟨hu, rfl⟩
      cases hu
      by_cases hla : e.id < lastB ls e.key
      · have hst := msC_set (enc := eB) (n := 4) (y := stB1 ls now e) (fun _ => rfl) he H2 c8 [.int .i64 now] 2 (by simp) (by simp [stB1, hs, hla, eB])
        rw [mapTo_set he0] at hst
        have htb := tb_of hb1.m8 he ia8 (by decide)
        simp -implicitDefEqProofs only [mkR_nil, mkR_cons, op, ef, cl, sq, reduceIte, Int.reduceLT, Int.reduceLE, Int.reduceBEq, Int.reduceBNe, Int.reduceEq, Nat.reduceAdd, Nat.reduceLeDiff, Nat.reduceLT, Nat.reduceEqDiff, S1, g22, hc8, natOf_nat, ia8, q0, q1, q2, hla, hst, wsx]
        exact ⟨x + 1, by omega, .i (hb1.set8 htb (h8 c8 htb) (by rw [mapTo_len, mapTo_len])), rfl, by omega⟩
      · simp -implicitDefEqProofs only [mkR_nil, mkR_cons, op, ef, cl, sq, reduceIte, Int.reduceLT, Int.reduceLE, Int.reduceBEq, Int.reduceBNe, Int.reduceEq, Nat.reduceAdd, Nat.reduceLeDiff, Nat.reduceLT, Nat.reduceEqDiff, S1, g22, hc8, natOf_nat, ia8, q0, q1, q2, hla, wsx]
        exact ⟨x + 1, by omega, .i (by rw [mapTo_same he0 (by simp [stB1, hla])]; exact hb1), rfl, by omega⟩
    · simp -implicitDefEqProofs only [mkR_nil, mkR_cons, op, ef, cl, sq, reduceIte, Int.reduceLT, Int.reduceLE, Int.reduceBEq, Int.reduceBNe, Int.reduceEq, Nat.reduceAdd, Nat.reduceLeDiff, Nat.reduceLT, Nat.reduceEqDiff, S1, hlm, g22, hlt, natOf_nat, ia8, hc8, q0, q1, q2, hs, wsx]
      exact ⟨x + 1, by omega, .i (by rw [mapTo_same he0 (by simp [stB1, hs])]; exact hb1), rfl, by omega⟩
  · have hxe : x = bk.length := by omega
    subst hxe
    rw [mapTo_end] at hb1
    simp -implicitDefEqProofs only [mkR_nil, mkR_cons, op, ef, cl, sq, reduceIte, Int.reduceLT, Int.reduceLE, Int.reduceBEq, Int.reduceBNe, Int.reduceEq, Nat.reduceAdd, Nat.reduceLeDiff, Nat.reduceLT, Nat.reduceEqDiff, S1, hlm, g22, hlt, onlyX_e]
    exact hb1
theorem time_t3 (C0 : C) (hC : blkIn ir4.body 3 = some (.loop C0)) {Hs H : Heap} {b : Bk} {a1 : Ab} {F : Nat → Prop} {m : Nat} {t8 t9 : T} {bk : List Old} {ls : List Nm} {now hold : Int} {R : Regs}
    (hb : Bks Hs H b a1 F m t8 t9 bk ls) (h8 : ∀ c, tb t8 = some c → Hs.length ≤ c) (hlen : bk.length ≤ 100000) (hn : 0 ≤ now ∧ now ≤ 1000000) (hold0 : 0 ≤ hold ∧ hold ≤ 1000) (hT : ∀ x ∈ bk, x.gone = false → x.since = -1 ∨ TickOk x.since) (hgo : ∀ x ∈ bk, dueB now hold x = true → a1.v x.nm = none)
    (r5 : R 5 = .ptr b.s 0) (r6 : R 6 = .int .i64 hold) (r7 : R 7 = .int .i64 now) (r8 : R 8 = t8) (r25 : R 25 = .int .i64 0) (r26 : R 26 = .int .i64 0) :
    W env (.code (.loop C0) R) H (onlyX 3 (fun R' H' => R' 25 = .int .i64 (bk.filter (dueB now hold)).length ∧ Bks Hs H' b a1 F m t8 t9 (bk.map (gnB now hold)) ls)) := by
  simp [ir4, blkIn, sq] at hC
  subst hC
  refine W.loopV [(5, .ptr b.s 0), (6, .int .i64 hold), (7, .int .i64 now), (8, t8)] (fun (x : Nat) R H' => At H' (fun H' => Bks Hs H' b a1 F m t8 t9 (mapTo (gnB now hold) bk x) ls) ∧ R 25 = .int .i64 ((bk.take x).filter (dueB now hold)).length ∧ R 26 = .int .i64 x ∧ x ≤ bk.length) (fun x => bk.length - x) 0
    ⟨.i (by rw [mapTo_0]; exact hb), by rw [r25]; rfl, r26, Nat.zero_le _⟩ ?_ ⟨r5, r6, r7, r8, trivial⟩
  rintro x R H1 ⟨hb1, g25, g26, hx⟩
  have hb1 : Bks Hs H1 b a1 F m t8 t9 (mapTo (gnB now hold) bk x) ls := hb1
  have hlm := len_mut hb1.m8
  rw [mapTo_len] at hlm
  by_cases hlt : x < bk.length
  · obtain ⟨e, he0⟩ := getP hlt
    have hem := List.mem_of_getElem? he0
    have he := mapTo_get (f := gnB now hold) he0
    have wsx := wrap_succ (show x < 9223372036854775807 by omega)
    obtain ⟨c8, hc8, ia8, _⟩ := mut_n (enc := eB) (n := 4) (fun _ => rfl) (by decide) hb1.m8 he
    have q0 : ldcB 1 (x * 4 + 0) (some (.cells (msC eB (mapTo (gnB now hold) bk x)))) = some [.str e.key] := msC_get (enc := eB) (n := 4) (fun _ => rfl) he 0 1 (by decide)
    have q1 : ldcB 1 (x * 4 + 1) (some (.cells (msC eB (mapTo (gnB now hold) bk x)))) = some [.int .u64 e.id] := msC_get (enc := eB) (n := 4) (fun _ => rfl) he 1 1 (by decide)
    have q2 : ldcB 1 (x * 4 + 2) (some (.cells (msC eB (mapTo (gnB now hold) bk x)))) = some [.int .i64 e.since] := msC_get (enc := eB) (n := 4) (fun _ => rfl) he 2 1 (by decide)
    have q3 : ldcB 1 (x * 4 + 3) (some (.cells (msC eB (mapTo (gnB now hold) bk x)))) = some [.bool e.gone] := msC_get (enc := eB) (n := 4) (fun _ => rfl) he 3 1 (by decide)
    have hft := filter_take (p := dueB now hold) he0
    have hcl : ((bk.take x).filter (dueB now hold)).length ≤ x := Nat.le_trans (List.length_filter_le _ _) (by simp; omega)
    obtain ⟨k, hk⟩ : ∃ k, k = ((bk.take x).filter (dueB now hold)).length := ⟨_, rfl⟩
    rw [← hk] at g25 hcl
    have wk := wrap_succ (show k < 9223372036854775807 by omega)
    have no : dueB now hold e = false → ((bk.take (x + 1)).filter (dueB now hold)).length = k ∧ mapTo (gnB now hold) bk (x + 1) = mapTo (gnB now hold) bk x := fun h => ⟨by rw [hft, h, hk]; simp, mapTo_same he0 (by simp [gnB, h])⟩
    cases hg : e.gone
    · rw [hg] at q3
      have hTe := hT e hem hg
      have wn : IntKind.i64.wrap (now - e.since) = now - e.since := by unfold TickOk at hTe; rw [wrap64 (by omega)]
      by_cases h0 : 0 ≤ e.since
      · by_cases hd : hold ≤ now - e.since
        · have hdu : dueB now hold e = true := by simp [dueB, hg, h0, hd]
          have hst := msC_set (enc := eB) (n := 4) (y := gnB now hold e) (fun _ => rfl) he H1 c8 [.bool true] 3 (by simp) (by simp [gnB, hdu, eB])
          rw [mapTo_set he0] at hst
          have htb := tb_of hb1.m8 he ia8 (by decide)
          have hb2 := hb1.set8 htb (h8 c8 htb) (bk' := mapTo (gnB now hold) bk (x + 1)) (by rw [mapTo_len, mapTo_len])
          have he' : (mapTo (gnB now hold) bk (x + 1))[x]? = some (gnB now hold e) := by
            rw [← mapTo_set he0, List.getElem?_set, if_pos rfl, if_pos (by rw [mapTo_len]; exact hlt)]
          have hxx : Ext (H1.set c8 (.cells (msC eB (mapTo (gnB now hold) bk (x + 1))))) (H1.set c8 (.cells (msC eB (mapTo (gnB now hold) bk (x + 1)))) ++ [.cells [.str ⟨#[]⟩, .int .u64 0, .str ⟨#[]⟩, .sl .nil []]]) := ⟨_, rfl⟩
          have hb3 := hb2.ext hxx
          have lc8 := glt hc8
          have hne : a1.v (e.key, e.id) = none := hgo e hem hdu
          have p0 : ldcB 1 (x * 4 + 0) (some (.cells (msC eB (mapTo (gnB now hold) bk (x + 1))))) = some [.str e.key] := by
            have := msC_get (enc := eB) (n := 4) (fun _ => rfl) he' 0 1 (by decide)
            rw [this]; unfold gnB; split <;> rfl
          have p1 : ldcB 1 (x * 4 + 1) (some (.cells (msC eB (mapTo (gnB now hold) bk (x + 1))))) = some [.int .u64 e.id] := by
            have := msC_get (enc := eB) (n := 4) (fun _ => rfl) he' 1 1 (by decide)
            rw [this]; unfold gnB; split <;> rfl
          have lset : (H1.set c8 (.cells (msC eB (mapTo (gnB now hold) bk (x + 1))))).length = H1.length := List.length_set
          simp -implicitDefEqProofs only [mkR_nil, mkR_cons, op, ef, cl, sq, reduceIte, Int.reduceLT, Int.reduceLE, Int.reduceBEq, Int.reduceBNe, Int.reduceEq, Nat.reduceAdd, Nat.reduceLeDiff, Nat.reduceLT, Nat.reduceEqDiff, S1, S2, hlm, g25, g26, hlt, natOf_nat, ia8, hc8, lc8, q0, q1, q2, q3, h0, hd, wn, hst, p0, p1, wk]
          refine callB_of _ _ _ _ _ _ _ _ (byIDA e.key e.id hb3.pr.at_) ?_
          rintro u H2 ⟨hx2, ⟨_, hu⟩ | ⟨h, kk, hh, _⟩⟩
          rotate_left
          · rw [hne] at hh; cases hh
          cases hu
          have hc2 : H2[H1.length]? = some (.cells [.str ⟨#[]⟩, .int .u64 0, .str ⟨#[]⟩, .sl .nil []]) := hx2.get (by rw [← lset]; exact g_tail rfl)
          have l2 := glt hc2
          have hb4 := hb3.ext hx2
          have hF1 : ¬ F H1.length := fun h => by have := (hb1.pr.new _ h).2; omega
          have hfr4 : Bks Hs (H2.set H1.length (.cells [.str ⟨#[]⟩, .int .u64 0, .str ⟨#[]⟩, .sl .nil []])) b a1 F m t8 t9 (mapTo (gnB now hold) bk (x + 1)) ls := by
            have : H2.set H1.length (.cells [.str ⟨#[]⟩, .int .u64 0, .str ⟨#[]⟩, .sl .nil []]) = H2 := by
              refine List.ext_getElem? fun j => ?_
              by_cases e : j = H1.length
              · subst e; rw [g_eq l2, hc2]
              · rw [g_ne (Ne.symm e)]
            rw [this]; exact hb4
          simp -implicitDefEqProofs only [mkR_nil, mkR_cons, op, ef, cl, sq, reduceIte, Int.reduceLT, Int.reduceLE, Int.reduceBEq, Int.reduceBNe, Int.reduceEq, Nat.reduceAdd, Nat.reduceLeDiff, Nat.reduceLT, Nat.reduceEqDiff, S1, S2, hc2, l2, lset, g25, g26, wk, wsx]
          exact ⟨x + 1, by omega, .i hfr4, by rw [hft, hdu, if_pos rfl, List.length_append, ← hk]; rfl, rfl, by omega⟩
        · have hdu : dueB now hold e = false := by simp [dueB, hd]
          simp -implicitDefEqProofs only [mkR_nil, mkR_cons, op, ef, cl, sq, reduceIte, Int.reduceLT, Int.reduceLE, Int.reduceBEq, Int.reduceBNe, Int.reduceEq, Nat.reduceAdd, Nat.reduceLeDiff, Nat.reduceLT, Nat.reduceEqDiff, S1, hlm, g25, g26, hlt, natOf_nat, ia8, hc8, q0, q1, q2, q3, h0, hd, wn, wsx]
          exact ⟨x + 1, by omega, .i (by rw [(no hdu).2]; exact hb1), by rw [(no hdu).1], rfl, by omega⟩
      · have hdu : dueB now hold e = false := by simp [dueB, h0]
        simp -implicitDefEqProofs only [mkR_nil, mkR_cons, op, ef, cl, sq, reduceIte, Int.reduceLT, Int.reduceLE, Int.reduceBEq, Int.reduceBNe, Int.reduceEq, Nat.reduceAdd, Nat.reduceLeDiff, Nat.reduceLT, Nat.reduceEqDiff, S1, hlm, g25, g26, hlt, natOf_nat, ia8, hc8, q0, q1, q2, q3, h0, wn, wsx]
        exact ⟨x + 1, by omega, .i (by rw [(no hdu).2]; exact hb1), by rw [(no hdu).1], rfl, by omega⟩
    · rw [hg] at q3
      have hdu : dueB now hold e = false := by simp [dueB, hg]
      simp -implicitDefEqProofs only [mkR_nil, mkR_cons, op, ef, cl, sq, reduceIte, Int.reduceLT, Int.reduceLE, Int.reduceBEq, Int.reduceBNe, Int.reduceEq, Nat.reduceAdd, Nat.reduceLeDiff, Nat.reduceLT, Nat.reduceEqDiff, S1, hlm, g25, g26, hlt, natOf_nat, ia8, hc8, q0, q1, q2, q3, wsx]
      exact ⟨x + 1, by omega, .i (by rw [(no hdu).2]; exact hb1), by rw [(no hdu).1], rfl, by omega⟩
  · have hxe : x = bk.length := by omega
    subst hxe
    rw [mapTo_end] at hb1
    rw [List.take_length] at g25
    simp -implicitDefEqProofs only [mkR_nil, mkR_cons, op, ef, cl, sq, reduceIte, Int.reduceLT, Int.reduceLE, Int.reduceBEq, Int.reduceBNe, Int.reduceEq, Nat.reduceAdd, Nat.reduceLeDiff, Nat.reduceLT, Nat.reduceEqDiff, S1, hlm, g25, g26, hlt, onlyX_e]
    exact hb1
theorem time_f13 (C0 : C) (hC : blkIn ir4.body 13 = some (.loop C0)) {Hs H : Heap} {b : Bk} {a1 : Ab} {F : Nat → Prop} {m : Nat} {t8 t9 : T} {bk : List Old} {ls : List Nm} {R : Regs}
    (hb : Bks Hs H b a1 F m t8 t9 bk ls) (hlen : bk.length ≤ 100000) (hv : BInv a1 bk ls)
    (r5 : R 5 = .ptr b.s 0) (r8 : R 8 = t8) (r29 : R 29 = .int .i64 0) :
    W env (.code (.loop C0) R) H (onlyX 13 (fun R' H' => Ext H H')) := by
  simp [ir4, blkIn, sq] at hC
  subst hC
  have hlm := len_mut hb.m8
  refine W.loopV [(5, .ptr b.s 0), (8, t8)] (fun (x : Nat) R H' => At H' (fun H' => Ext H H') ∧ R 29 = .int .i64 x ∧ x ≤ bk.length) (fun x => bk.length - x) 0 ⟨.i Ext.rfl', r29, Nat.zero_le _⟩ ?_ ⟨r5, r8, trivial⟩
  rintro x R H1 ⟨hx1, g29, hx⟩
  have hx1 : Ext H H1 := hx1
  have hb1 := hb.ext hx1
  by_cases hlt : x < bk.length
  · obtain ⟨e, he⟩ := getP hlt
    have wsx := wrap_succ (show x < 9223372036854775807 by omega)
    obtain ⟨c8, hc8, ia8, _⟩ := mut_n (enc := eB) (n := 4) (fun _ => rfl) (by decide) hb1.m8 he
    have q0 : ldcB 1 (x * 4 + 0) (some (.cells (msC eB bk))) = some [.str e.key] := msC_get (enc := eB) (n := 4) (fun _ => rfl) he 0 1 (by decide)
    have q1 : ldcB 1 (x * 4 + 1) (some (.cells (msC eB bk))) = some [.int .u64 e.id] := msC_get (enc := eB) (n := 4) (fun _ => rfl) he 1 1 (by decide)
    have q3 : ldcB 1 (x * 4 + 3) (some (.cells (msC eB bk))) = some [.bool e.gone] := msC_get (enc := eB) (n := 4) (fun _ => rfl) he 3 1 (by decide)
    have lc8 := glt hc8
    cases hg : e.gone
    · rw [hg] at q3
      obtain ⟨z, hz, _⟩ := hv.live e (List.mem_of_getElem? he) hg
      have hxx : Ext H1 (H1 ++ [.cells [.str ⟨#[]⟩, .int .u64 0, .str ⟨#[]⟩, .sl .nil []]]) := ⟨_, rfl⟩
      simp -implicitDefEqProofs only [mkR_nil, mkR_cons, op, ef, cl, sq, reduceIte, Int.reduceLT, Int.reduceLE, Int.reduceBEq, Int.reduceBNe, Int.reduceEq, Nat.reduceAdd, Nat.reduceLeDiff, Nat.reduceLT, Nat.reduceEqDiff, S1, S2, hlm, g29, hlt, natOf_nat, ia8, hc8, lc8, q0, q1, q3]
      refine callB_of _ _ _ _ _ _ _ _ (byIDA e.key e.id (hb1.ext hxx).pr.at_) ?_
      rintro u H2 ⟨hx2, ⟨hh, _⟩ | ⟨h, kk, hh, _, hu⟩⟩
      · have hz : a1.v (e.key, e.id) = some z := hz
        rw [hz] at hh; cases hh
      cases hu
      have hc2 : H2[H1.length]? = some (.cells [.str ⟨#[]⟩, .int .u64 0, .str ⟨#[]⟩, .sl .nil []]) := hx2.get (g_tail rfl)
      have l2 := glt hc2
      have hc82 := (hxx.trans hx2).get hc8
      have lne : H1.length ≠ c8 := by omega
      simp -implicitDefEqProofs only [mkR_nil, mkR_cons, op, ef, cl, sq, reduceIte, Int.reduceLT, Int.reduceLE, Int.reduceBEq, Int.reduceBNe, Int.reduceEq, Nat.reduceAdd, Nat.reduceLeDiff, Nat.reduceLT, Nat.reduceEqDiff, S1, S2, eVer, hc2, l2, hc82, lne, g29, natOf_nat, ia8, q1, wsx]
      exact ⟨x + 1, by omega, .i ((hx1.trans (hxx.trans hx2)).set (by have := hx1.len; omega) _), rfl, by omega⟩
    · rw [hg] at q3
      simp -implicitDefEqProofs only [mkR_nil, mkR_cons, op, ef, cl, sq, reduceIte, Int.reduceLT, Int.reduceLE, Int.reduceBEq, Int.reduceBNe, Int.reduceEq, Nat.reduceAdd, Nat.reduceLeDiff, Nat.reduceLT, Nat.reduceEqDiff, S1, hlm, g29, hlt, natOf_nat, ia8, hc8, q3, wsx]
      exact ⟨x + 1, by omega, .i hx1, rfl, by omega⟩
  · have hxe : x = bk.length := by omega
    subst hxe
    simp -implicitDefEqProofs only [mkR_nil, mkR_cons, op, ef, cl, sq, reduceIte, Int.reduceLT, Int.reduceLE, Int.reduceBEq, Int.reduceBNe, Int.reduceEq, Nat.reduceAdd, Nat.reduceLeDiff, Nat.reduceLT, Nat.reduceEqDiff, S1, hlm, g29, hlt, onlyX_e]
    exact hx1
end Go.Proofs.Ytodegnhallgnkaa.St
end

section
namespace Go.Proofs.Ytodegnhallgnkaa.St
open Go.Rmp Go.Proofs.Ytodegnhallgnkaa.Ir
set_option maxRecDepth 10000
theorem put_if (a : Ab) (n : Nat) (ps : List (ByteArray × ByteArray)) (ks : List ByteArray) (now : Int) : (if ps.isEmpty = true then a else a.put n ps ks now) = a.put n ps ks now := by
  split
  · rename_i h; rw [List.isEmpty_iff.1 h, put_0]
  · rfl
def TimeP (Hs : Heap) (b : Bk) (i : Nat) (R : Regs) (H : Heap) : Prop := ∃ a F bk ls t8 t9 now, R 7 = .int .i64 now ∧ R 8 = t8 ∧ R 9 = t9 ∧ Bks Hs H b a F (6 * i) t8 t9 bk ls ∧ (∀ c, tb t8 = some c → Hs.length ≤ c) ∧ (∀ c, tb t9 = some c → Hs.length ≤ c) ∧ BInv a bk ls ∧ bk.length ≤ 6 * i ∧ ls.length ≤ 1200 * i ∧ 0 ≤ now ∧ now ≤ i
set_option maxHeartbeats 2000000 in
theorem time4 (k0 : SK) (l : List Opv) (keep : Nat) (hl : l.length ≤ 1048576) (ho : ∀ o ∈ l, OkO o) (hk : keep < 256) (H : Heap) : W env (.call 4 [.sl k0 (l.map eO), .int .u8 keep]) H (fun o _ => o = .val (.bool true)) := by
  have hr : (((keep : Int)).tmod 12) = ((keep % 12 : Nat) : Int) := by
    rw [Int.tmod_eq_emod_of_nonneg (by omega)]; omega
  have n12 : ¬ ((12 : Int) = 0) := by decide
  have wc : IntKind.i64.wrap ((keep % 12 : Nat) : Int) = ((keep % 12 : Nat) : Int) := by rw [wrap64 (by omega)]
  obtain ⟨hold, hh⟩ : ∃ hold : Int, hold = ((keep % 12 : Nat) : Int) := ⟨_, rfl⟩
  have hh16 : 0 ≤ hold ∧ hold ≤ 1000 := by omega
  have rok : RetOk hold := ⟨by omega, by omega⟩
  rw [← hh] at hr wc
  refine W.fnI rfl rfl rfl ?_
  simp -implicitDefEqProofs only [ir4, op, ef, cl, sq, reduceIte, Int.reduceLT, Int.reduceLE, Int.reduceBEq, Int.reduceBNe, Int.reduceEq, Nat.reduceAdd, Nat.reduceLeDiff, Nat.reduceLT, Nat.reduceEqDiff, S1]
  refine callB_of _ _ _ _ _ _ _ _ (alive7 _) ?_
  rintro u Hs ⟨hu, hx0⟩
  cases hu
  simp -implicitDefEqProofs only [op, ef, cl, sq, reduceIte, Int.reduceLT, Int.reduceLE, Int.reduceBEq, Int.reduceBNe, Int.reduceEq, Nat.reduceAdd, Nat.reduceLeDiff, Nat.reduceLT, Nat.reduceEqDiff, S1]
  refine callB_of _ _ _ _ _ _ _ _ (newA _) ?_
  rintro u H1 ⟨hx1, b, F0, hu, v1, nF⟩
  cases hu
  simp -implicitDefEqProofs only [op, ef, cl, sq, reduceIte, Int.reduceLT, Int.reduceLE, Int.reduceBEq, Int.reduceBNe, Int.reduceEq, Nat.reduceAdd, Nat.reduceLeDiff, Nat.reduceLT, Nat.reduceEqDiff, S1, eqRef, nilOf, hr, n12, wc]
  refine W.loopV [(0, _), (5, _), (6, _)] (fun (i : Nat) R H' => At H' (fun H' => TimeP Hs b i R H') ∧ R 10 = .int .i64 i ∧ i ≤ 200) (fun i => 200 - i) 0
    ⟨.i ⟨Ab.emp, F0, [], [], .sl .nil [], .sl .nil [], 0, rfl, rfl, rfl, ⟨⟨v1, ext_frm hx1, nF⟩, .inl ⟨rfl, rfl⟩, .inl ⟨rfl, rfl⟩, fun c h => (by cases h), fun c h => (by cases h), fun c h => (by cases h)⟩, fun c h => (by cases h), fun c h => (by cases h), BInv.emp, Nat.le_refl _, Nat.le_refl _, by decide, by decide⟩, rfl, Nat.zero_le _⟩ ?_
  rintro i R H2 ⟨⟨a, F, bk, ls, t8, t9, now, g7, g8, g9, hb, h8, h9, hv, hlb, hll, hn⟩, g10, hi⟩
  by_cases hlen : i < l.length
  rotate_left
  · simp -implicitDefEqProofs only [mkR_nil, mkR_cons, op, ef, cl, sq, reduceIte, Int.reduceLT, Int.reduceLE, Int.reduceBEq, Int.reduceBNe, Int.reduceEq, Nat.reduceAdd, Nat.reduceLeDiff, Nat.reduceLT, Nat.reduceEqDiff, S1, List.length_map, g10, hlen]
  by_cases h200 : i < 200
  rotate_left
  · simp -implicitDefEqProofs only [mkR_nil, mkR_cons, op, ef, cl, sq, reduceIte, Int.reduceLT, Int.reduceLE, Int.reduceBEq, Int.reduceBNe, Int.reduceEq, Nat.reduceAdd, Nat.reduceLeDiff, Nat.reduceLT, Nat.reduceEqDiff, S1, List.length_map, g10, hlen, h200]
  obtain ⟨o, hoi⟩ := getP hlen
  have hok := ho o (List.mem_of_getElem? hoi)
  have ix := iadX (e := eO) (n := 5) (fun _ => rfl) (by decide) (k := k0) hoi
  have wsi := wrap_succ (show i < 9223372036854775807 by omega)
  have l5 : ∀ Hx, ldc Hx 5 (.iptr (eO o)) = some (eO o) := fun _ => rfl
  have tok : TickOk now := ⟨hn.1, by omega⟩
  have hxa : Ext H2 (H2 ++ [.cells (eO o)]) := ⟨_, rfl⟩
  have hb3 := hb.ext hxa
  have hLt : (H2 ++ [.cells (eO o)])[H2.length]? = some (.cells (eO o)) := g_tail rfl
  have hF2 : ∀ c, F c → c < H2.length := fun c h => (hb.pr.new c h).2
  simp -implicitDefEqProofs only [eO] at hxa hb3 hLt
  simp -implicitDefEqProofs only [mkR_nil, mkR_cons, op, ef, cl, sq, reduceIte, Int.reduceLT, Int.reduceLE, Int.reduceBEq, Int.reduceBNe, Int.reduceEq, Nat.reduceAdd, Nat.reduceLeDiff, Nat.reduceLT, Nat.reduceEqDiff, S1, S2, List.length_map, g10, hlen, h200, natOf_nat, ix, l5, eO]
  obtain ⟨L, hLe⟩ : ∃ L, L = H2.length := ⟨_, rfl⟩
  rw [← hLe]
  rw [← hLe] at hLt
  generalize H2 ++ [B.cells [T.int IntKind.i64 o.kind, T.int IntKind.u64 o.id, T.int IntKind.u8 o.keys, T.int IntKind.u8 o.some, T.str o.value]] = H3 at *
  refine condC_cut [(0, _), (5, _), (6, _), (10, _)] (fun R' H' => At H' (fun H' => TimeP Hs b (i + 1) R' H')) ?_ ?_
  · have hL3 : H3[L]? = some (.cells (eO o)) := hLt
    have lL3 := glt hL3
    have k5 : ldcB 5 0 (some (.cells (eO o))) = some (eO o) := rfl
    by_cases hk1 : o.kind = 1
    · have e1 : (o.kind == 1) = true := by simp [hk1]
      simp -implicitDefEqProofs only [mkR_nil, mkR_cons, op, ef, cl, sq, reduceIte, Int.reduceLT, Int.reduceLE, Int.reduceBEq, Int.reduceBNe, Int.reduceEq, Nat.reduceAdd, Nat.reduceLeDiff, Nat.reduceLT, Nat.reduceEqDiff, S1, e1, hL3, k5]
      refine callB_of _ _ _ _ _ _ _ _ (write13 o hok _) ?_
      rintro u H4 ⟨hx4, kp, kk, hkp, hkk, hu⟩
      cases hu
      have hL4 := hx4.get hL3
      have hb4 := hb3.ext hx4
      simp -implicitDefEqProofs only [mkR_nil, mkR_cons, op, ef, cl, sq, reduceIte, Int.reduceLT, Int.reduceLE, Int.reduceBEq, Int.reduceBNe, Int.reduceEq, Nat.reduceAdd, Nat.reduceLeDiff, Nat.reduceLT, Nat.reduceEqDiff, S1, hL4, k5]
      refine callB_of _ _ _ _ _ _ _ _ (id15 o hok _) ?_
      rintro u H5 ⟨hu, hx5⟩
      cases hu
      have hx5 : Ext H4 H5 := hx5
      have hL5 := hx5.get hL4
      have hb5 := hb4.ext hx5
      simp -implicitDefEqProofs only [mkR_nil, mkR_cons, op, ef, cl, sq, reduceIte, Int.reduceLT, Int.reduceLE, Int.reduceBEq, Int.reduceBNe, Int.reduceEq, Nat.reduceAdd, Nat.reduceLeDiff, Nat.reduceLT, Nat.reduceEqDiff, S1, g7]
      refine callB_of _ _ _ _ _ _ _ _ (putO o kp kk now hb5.pr.at_ (by omega) hkk tok) ?_
      rintro u H6 ⟨F6, hu, a6, f6, g6⟩
      rw [put_if] at a6
      have hb6 := hb5.go a6 f6 g6
      have hFL : ¬ F L := fun h => by have := hF2 L h; omega
      have hL6 := f6.get hL5 hFL
      have hwhole : ∀ (bb : Bool) (ee : Int), u = .tup [.bool bb, .int .i64 ee] → ((pairsO o).length = 0 ∨ (ee = 0 ∧ bb = a.fresh (idO o) (pairsO o))) → (stB R H6 [] ∧ True) := fun _ _ _ _ => ⟨trivial, trivial⟩
      obtain ⟨bb, ee, hue, hbe⟩ : ∃ bb ee, u = .tup [.bool bb, .int .i64 ee] ∧ ((pairsO o).length = 0 ∨ (ee = 0 ∧ bb = a.fresh (idO o) (pairsO o))) := by
        by_cases he : (pairsO o).isEmpty = true
        · rw [if_pos he] at hu; cases hu; exact ⟨_, _, rfl, .inl (by rw [List.isEmpty_iff.1 he]; rfl)⟩
        · rw [if_neg he] at hu; cases hu; exact ⟨_, _, rfl, .inr ⟨rfl, rfl⟩⟩
      subst hue
      simp -implicitDefEqProofs only [mkR_nil, mkR_cons, op, ef, cl, sq, reduceIte, Int.reduceLT, Int.reduceLE, Int.reduceBEq, Int.reduceBNe, Int.reduceEq, Nat.reduceAdd, Nat.reduceLeDiff, Nat.reduceLT, Nat.reduceEqDiff, S1, g7, g8, g9, g10]
      refine W.loopL 5 [(0, _), (5, _), (6, _), (7, _), (9, _), (10, _), (12, _), (14, _), (15, _)] _ (time_put (kp := kp) _ rfl hok hb6 h8 hv tok hL6 (by omega) (by omega) (by simp -implicitDefEqProofs only [mkR_nil, mkR_cons, op, ef, cl, sq, reduceIte, Int.reduceLT, Int.reduceLE, Int.reduceBEq, Int.reduceBNe, Int.reduceEq, Nat.reduceAdd, Nat.reduceLeDiff, Nat.reduceLT, Nat.reduceEqDiff, S1, g7]) (by simp -implicitDefEqProofs only [mkR_nil, mkR_cons, op, ef, cl, sq, reduceIte, Int.reduceLT, Int.reduceLE, Int.reduceBEq, Int.reduceBNe, Int.reduceEq, Nat.reduceAdd, Nat.reduceLeDiff, Nat.reduceLT, Nat.reduceEqDiff, S1, g8]) (by simp -implicitDefEqProofs only [mkR_nil, mkR_cons, op, ef, cl, sq, reduceIte, Int.reduceLT, Int.reduceLE, Int.reduceBEq, Int.reduceBNe, Int.reduceEq, Nat.reduceAdd, Nat.reduceLeDiff, Nat.reduceLT, Nat.reduceEqDiff, S1, g9]) (by simp -implicitDefEqProofs only [mkR_nil, mkR_cons, op, ef, cl, sq, reduceIte, Int.reduceLT, Int.reduceLE, Int.reduceBEq, Int.reduceBNe, Int.reduceEq, Nat.reduceAdd, Nat.reduceLeDiff, Nat.reduceLT, Nat.reduceEqDiff, S1]) (by simp -implicitDefEqProofs only [mkR_nil, mkR_cons, op, ef, cl, sq, reduceIte, Int.reduceLT, Int.reduceLE, Int.reduceBEq, Int.reduceBNe, Int.reduceEq, Nat.reduceAdd, Nat.reduceLeDiff, Nat.reduceLT, Nat.reduceEqDiff, S1]) (by simp -implicitDefEqProofs only [mkR_nil, mkR_cons, op, ef, cl, sq, reduceIte, Int.reduceLT, Int.reduceLE, Int.reduceBEq, Int.reduceBNe, Int.reduceEq, Nat.reduceAdd, Nat.reduceLeDiff, Nat.reduceLT, Nat.reduceEqDiff, S1]) (by simp -implicitDefEqProofs only [mkR_nil, mkR_cons, op, ef, cl, sq, reduceIte, Int.reduceLT, Int.reduceLE, Int.reduceBEq, Int.reduceBNe, Int.reduceEq, Nat.reduceAdd, Nat.reduceLeDiff, Nat.reduceLT, Nat.reduceEqDiff, S1])) ?_
      rintro R7 H7 ⟨t8', bk', q8, q16, hb7, h87, hv7, hl7⟩
      subst q8
      have hp6 := pairsO_len o
      have hz : IntKind.i64.wrap 0 = 0 := by decide
      rcases hbe with hbe | ⟨rfl, rfl⟩
      · simp -implicitDefEqProofs only [mkR_nil, mkR_cons, op, ef, cl, sq, reduceIte, Int.reduceLT, Int.reduceLE, Int.reduceBEq, Int.reduceBNe, Int.reduceEq, Nat.reduceAdd, Nat.reduceLeDiff, Nat.reduceLT, Nat.reduceEqDiff, S1, List.length_map, hbe, q16, g7, g8, g9, g10, normO_n]
        exact .i ⟨_, F6, bk', ls, R7 8, t9, now, rfl, rfl, rfl, ⟨⟨hb7.pr.at_.le (by omega), hb7.pr.frm, hb7.pr.new⟩, hb7.m8, hb7.m9, hb7.f8, hb7.f9, hb7.ne⟩, h87, h9, hv7, by omega, by omega, hn.1, by omega⟩
      · by_cases hp0 : 0 < (pairsO o).length
        · simp -implicitDefEqProofs only [mkR_nil, mkR_cons, op, ef, cl, sq, reduceIte, Int.reduceLT, Int.reduceLE, Int.reduceBEq, Int.reduceBNe, Int.reduceEq, Nat.reduceAdd, Nat.reduceLeDiff, Nat.reduceLT, Nat.reduceEqDiff, S1, List.length_map, hp0, q16, g7, g8, g9, g10, normO_n]
          exact .i ⟨_, F6, bk', ls, R7 8, t9, now, rfl, rfl, rfl, ⟨⟨hb7.pr.at_.le (by omega), hb7.pr.frm, hb7.pr.new⟩, hb7.m8, hb7.m9, hb7.f8, hb7.f9, hb7.ne⟩, h87, h9, hv7, by omega, by omega, hn.1, by omega⟩
        · have hp0' : (pairsO o).length = 0 := by omega
          simp -implicitDefEqProofs only [mkR_nil, mkR_cons, op, ef, cl, sq, reduceIte, Int.reduceLT, Int.reduceLE, Int.reduceBEq, Int.reduceBNe, Int.reduceEq, Nat.reduceAdd, Nat.reduceLeDiff, Nat.reduceLT, Nat.reduceEqDiff, S1, List.length_map, hp0', q16, g7, g8, g9, g10, normO_n]
          exact .i ⟨_, F6, bk', ls, R7 8, t9, now, rfl, rfl, rfl, ⟨⟨hb7.pr.at_.le (by omega), hb7.pr.frm, hb7.pr.new⟩, hb7.m8, hb7.m9, hb7.f8, hb7.f9, hb7.ne⟩, h87, h9, hv7, by omega, by omega, hn.1, by omega⟩
    · have e1 : (o.kind == 1) = false := by simp [hk1]
      by_cases hk2 : o.kind = 2
      · have e2 : (o.kind == 2) = true := by simp [hk2]
        simp -implicitDefEqProofs only [mkR_nil, mkR_cons, op, ef, cl, sq, reduceIte, Int.reduceLT, Int.reduceLE, Int.reduceBEq, Int.reduceBNe, Int.reduceEq, Nat.reduceAdd, Nat.reduceLeDiff, Nat.reduceLT, Nat.reduceEqDiff, S1, e1, e2, hL3, k5]
        refine callB_of _ _ _ _ _ _ _ _ (id15 o hok _) ?_
        rintro u H5 ⟨hu, hx5⟩
        cases hu
        have hx5 : Ext H3 H5 := hx5
        have hL5 := hx5.get hL3
        have hb5 := hb3.ext hx5
        simp -implicitDefEqProofs only [mkR_nil, mkR_cons, op, ef, cl, sq, reduceIte, Int.reduceLT, Int.reduceLE, Int.reduceBEq, Int.reduceBNe, Int.reduceEq, Nat.reduceAdd, Nat.reduceLeDiff, Nat.reduceLT, Nat.reduceEqDiff, S1, g7]
        refine callB_of _ _ _ _ _ _ _ _ (comA (idO o) now hb5.pr.at_ (by omega) (idO_ge o) tok) ?_
        rintro u H6 ⟨D, _, _, hu, a6, f6⟩
        cases hu
        have hb6 := hb5.go' a6 f6
        have hFL : ¬ F L := fun h => by have := hF2 L h; omega
        have hL6 := f6.get hL5 hFL
        simp -implicitDefEqProofs only [mkR_nil, mkR_cons, op, ef, cl, sq, reduceIte, Int.reduceLT, Int.reduceLE, Int.reduceBEq, Int.reduceBNe, Int.reduceEq, Nat.reduceAdd, Nat.reduceLeDiff, Nat.reduceLT, Nat.reduceEqDiff, S1, g7, g8, g9, g10]
        refine W.loopL 7 [(0, _), (5, _), (6, _), (7, _), (8, _), (10, _)] _ (time_c7 _ rfl hok hb6 h9 hv hL6 (by omega) (by omega) (by simp -implicitDefEqProofs only [mkR_nil, mkR_cons, op, ef, cl, sq, reduceIte, Int.reduceLT, Int.reduceLE, Int.reduceBEq, Int.reduceBNe, Int.reduceEq, Nat.reduceAdd, Nat.reduceLeDiff, Nat.reduceLT, Nat.reduceEqDiff, S1, g8]) (by simp -implicitDefEqProofs only [mkR_nil, mkR_cons, op, ef, cl, sq, reduceIte, Int.reduceLT, Int.reduceLE, Int.reduceBEq, Int.reduceBNe, Int.reduceEq, Nat.reduceAdd, Nat.reduceLeDiff, Nat.reduceLT, Nat.reduceEqDiff, S1, g9]) (by simp -implicitDefEqProofs only [mkR_nil, mkR_cons, op, ef, cl, sq, reduceIte, Int.reduceLT, Int.reduceLE, Int.reduceBEq, Int.reduceBNe, Int.reduceEq, Nat.reduceAdd, Nat.reduceLeDiff, Nat.reduceLT, Nat.reduceEqDiff, S1]) (by simp -implicitDefEqProofs only [mkR_nil, mkR_cons, op, ef, cl, sq, reduceIte, Int.reduceLT, Int.reduceLE, Int.reduceBEq, Int.reduceBNe, Int.reduceEq, Nat.reduceAdd, Nat.reduceLeDiff, Nat.reduceLT, Nat.reduceEqDiff, S1])) ?_
        rintro R7 H7 ⟨t9', ls', q9, hb7, h97, hls, hl7⟩
        have hls' : ∀ k, lastB ls' k = (a.com (idO o) now).last k := fun k => by rw [hls, last_com, hv.at_]
        simp -implicitDefEqProofs only [mkR_nil, mkR_cons, op, ef, cl, sq, reduceIte, Int.reduceLT, Int.reduceLE, Int.reduceBEq, Int.reduceBNe, Int.reduceEq, Nat.reduceAdd, Nat.reduceLeDiff, Nat.reduceLT, Nat.reduceEqDiff, S1, g7, g8, g10, q9]
        refine W.loopL 11 [(0, _), (5, _), (6, _), (7, _), (8, _), (9, _), (10, _)] _ (time_c11 (now := now) _ rfl hb7 h8 (by omega) (by omega) (by simp -implicitDefEqProofs only [mkR_nil, mkR_cons, op, ef, cl, sq, reduceIte, Int.reduceLT, Int.reduceLE, Int.reduceBEq, Int.reduceBNe, Int.reduceEq, Nat.reduceAdd, Nat.reduceLeDiff, Nat.reduceLT, Nat.reduceEqDiff, S1, g7]) (by simp -implicitDefEqProofs only [mkR_nil, mkR_cons, op, ef, cl, sq, reduceIte, Int.reduceLT, Int.reduceLE, Int.reduceBEq, Int.reduceBNe, Int.reduceEq, Nat.reduceAdd, Nat.reduceLeDiff, Nat.reduceLT, Nat.reduceEqDiff, S1, g8]) (by simp -implicitDefEqProofs only [mkR_nil, mkR_cons, op, ef, cl, sq, reduceIte, Int.reduceLT, Int.reduceLE, Int.reduceBEq, Int.reduceBNe, Int.reduceEq, Nat.reduceAdd, Nat.reduceLeDiff, Nat.reduceLT, Nat.reduceEqDiff, S1, q9]) (by simp -implicitDefEqProofs only [mkR_nil, mkR_cons, op, ef, cl, sq, reduceIte, Int.reduceLT, Int.reduceLE, Int.reduceBEq, Int.reduceBNe, Int.reduceEq, Nat.reduceAdd, Nat.reduceLeDiff, Nat.reduceLT, Nat.reduceEqDiff, S1])) ?_
        intro R8 H8 hb8
        simp -implicitDefEqProofs only [mkR_nil, mkR_cons, op, ef, cl, sq, reduceIte, Int.reduceLT, Int.reduceLE, Int.reduceBEq, Int.reduceBNe, Int.reduceEq, Nat.reduceAdd, Nat.reduceLeDiff, Nat.reduceLT, Nat.reduceEqDiff, S1, g7, g8, g10, q9, normO_n]
        exact .i ⟨_, F, _, ls', t8, t9', now, rfl, rfl, rfl, ⟨⟨hb8.pr.at_.le (by omega), hb8.pr.frm, hb8.pr.new⟩, hb8.m8, hb8.m9, hb8.f8, hb8.f9, hb8.ne⟩, h8, h97, hv.com hls' tok, by rw [List.length_map]; omega, by omega, hn.1, by omega⟩
      · have e2 : (o.kind == 2) = false := by simp [hk2]
        have wn : IntKind.i64.wrap (now + 1) = now + 1 := by rw [wrap64 (by omega)]
        have tok1 : TickOk (now + 1) := ⟨by omega, by omega⟩
        simp -implicitDefEqProofs only [mkR_nil, mkR_cons, op, ef, cl, sq, reduceIte, Int.reduceLT, Int.reduceLE, Int.reduceBEq, Int.reduceBNe, Int.reduceEq, Nat.reduceAdd, Nat.reduceLeDiff, Nat.reduceLT, Nat.reduceEqDiff, S1, e1, e2, g7, wn]
        refine callB_of _ _ _ _ _ _ _ _ (collect11 (now + 1) hold hb3.pr.at_ (by omega) tok1 rok) ?_
        rintro u H5 ⟨k5', l5', _, N5, _, hu, a5, f5⟩
        cases hu
        have hb5 := hb3.go' a5 f5
        have hgo : ∀ x ∈ bk, dueB (now + 1) hold x = true → (a.cuts (dueL a (now + 1) hold l5')).v x.nm = none := fun x hx hd => by
          have hg : x.gone = false := by simp -implicitDefEqProofs only [dueB, Bool.and_eq_true, Bool.not_eq_true'] at hd; exact hd.1.1
          have := (hv.due N5 hx hg).2 hd
          simp -implicitDefEqProofs only [Ab.cuts, memN_iff.2 this, if_true]
        have hT : ∀ x ∈ bk, x.gone = false → x.since = -1 ∨ TickOk x.since := fun x hx hg => by
          obtain ⟨z, hz, hs⟩ := hv.live x hx hg
          rw [← hs]; exact hv.T _ _ hz
        have hcnt := hv.cnt (now := now + 1) (hold := hold) N5
        have hv5 := hv.tick (now := now + 1) (hold := hold) N5
        simp -implicitDefEqProofs only [mkR_nil, mkR_cons, op, ef, cl, sq, reduceIte, Int.reduceLT, Int.reduceLE, Int.reduceBEq, Int.reduceBNe, Int.reduceEq, Nat.reduceAdd, Nat.reduceLeDiff, Nat.reduceLT, Nat.reduceEqDiff, S1, g7, g8, g9, g10]
        refine W.loopL 3 [(0, _), (5, _), (6, _), (7, _), (8, _), (9, _), (10, _), (23, _), (24, _)] _ (time_t3 (hold := hold) (now := now + 1) _ rfl hb5 h8 (by omega) (by omega) hh16 hT hgo (by simp -implicitDefEqProofs only [mkR_nil, mkR_cons, op, ef, cl, sq, reduceIte, Int.reduceLT, Int.reduceLE, Int.reduceBEq, Int.reduceBNe, Int.reduceEq, Nat.reduceAdd, Nat.reduceLeDiff, Nat.reduceLT, Nat.reduceEqDiff, S1]) (by simp -implicitDefEqProofs only [mkR_nil, mkR_cons, op, ef, cl, sq, reduceIte, Int.reduceLT, Int.reduceLE, Int.reduceBEq, Int.reduceBNe, Int.reduceEq, Nat.reduceAdd, Nat.reduceLeDiff, Nat.reduceLT, Nat.reduceEqDiff, S1]) (by simp -implicitDefEqProofs only [mkR_nil, mkR_cons, op, ef, cl, sq, reduceIte, Int.reduceLT, Int.reduceLE, Int.reduceBEq, Int.reduceBNe, Int.reduceEq, Nat.reduceAdd, Nat.reduceLeDiff, Nat.reduceLT, Nat.reduceEqDiff, S1]) (by simp -implicitDefEqProofs only [mkR_nil, mkR_cons, op, ef, cl, sq, reduceIte, Int.reduceLT, Int.reduceLE, Int.reduceBEq, Int.reduceBNe, Int.reduceEq, Nat.reduceAdd, Nat.reduceLeDiff, Nat.reduceLT, Nat.reduceEqDiff, S1, g8]) (by simp -implicitDefEqProofs only [mkR_nil, mkR_cons, op, ef, cl, sq, reduceIte, Int.reduceLT, Int.reduceLE, Int.reduceBEq, Int.reduceBNe, Int.reduceEq, Nat.reduceAdd, Nat.reduceLeDiff, Nat.reduceLT, Nat.reduceEqDiff, S1]) (by simp -implicitDefEqProofs only [mkR_nil, mkR_cons, op, ef, cl, sq, reduceIte, Int.reduceLT, Int.reduceLE, Int.reduceBEq, Int.reduceBNe, Int.reduceEq, Nat.reduceAdd, Nat.reduceLeDiff, Nat.reduceLT, Nat.reduceEqDiff, S1])) ?_
        rintro R7 H7 ⟨q25, hb7⟩
        rw [hcnt] at q25
        simp -implicitDefEqProofs only [mkR_nil, mkR_cons, op, ef, cl, sq, reduceIte, Int.reduceLT, Int.reduceLE, Int.reduceBEq, Int.reduceBNe, Int.reduceEq, Nat.reduceAdd, Nat.reduceLeDiff, Nat.reduceLT, Nat.reduceEqDiff, S1, List.length_map, g7, g8, g9, g10, q25, normO_n]
        exact .i ⟨_, F, _, ls, t8, t9, now + 1, rfl, rfl, rfl, ⟨⟨hb7.pr.at_.le (by omega), hb7.pr.frm, hb7.pr.new⟩, hb7.m8, hb7.m9, hb7.f8, hb7.f9, hb7.ne⟩, h8, h9, hv5, by rw [List.length_map]; omega, by omega, by omega, by omega⟩
  · rintro R4 H4 ⟨a, F, bk, ls, t8, t9, now, g7, g8, g9, hb, h8, h9, hv, hlb, hll, hn⟩
    simp -implicitDefEqProofs only [mkR_nil, mkR_cons, op, ef, cl, sq, reduceIte, Int.reduceLT, Int.reduceLE, Int.reduceBEq, Int.reduceBNe, Int.reduceEq, Nat.reduceAdd, Nat.reduceLeDiff, Nat.reduceLT, Nat.reduceEqDiff, S1, g7, g8, g9, g10]
    refine W.loopL 13 [(0, _), (5, _), (6, _), (7, _), (8, _), (9, _), (10, _)] _ (time_f13 _ rfl hb (by omega) hv (by simp -implicitDefEqProofs only [mkR_nil, mkR_cons, op, ef, cl, sq, reduceIte, Int.reduceLT, Int.reduceLE, Int.reduceBEq, Int.reduceBNe, Int.reduceEq, Nat.reduceAdd, Nat.reduceLeDiff, Nat.reduceLT, Nat.reduceEqDiff, S1]) (by simp -implicitDefEqProofs only [mkR_nil, mkR_cons, op, ef, cl, sq, reduceIte, Int.reduceLT, Int.reduceLE, Int.reduceBEq, Int.reduceBNe, Int.reduceEq, Nat.reduceAdd, Nat.reduceLeDiff, Nat.reduceLT, Nat.reduceEqDiff, S1, g8]) (by simp -implicitDefEqProofs only [mkR_nil, mkR_cons, op, ef, cl, sq, reduceIte, Int.reduceLT, Int.reduceLE, Int.reduceBEq, Int.reduceBNe, Int.reduceEq, Nat.reduceAdd, Nat.reduceLeDiff, Nat.reduceLT, Nat.reduceEqDiff, S1])) ?_
    intro R5 H5 hx5
    have hx5 : Ext H4 H5 := hx5
    simp -implicitDefEqProofs only [mkR_nil, mkR_cons, op, ef, cl, sq, reduceIte, Int.reduceLT, Int.reduceLE, Int.reduceBEq, Int.reduceBNe, Int.reduceEq, Nat.reduceAdd, Nat.reduceLeDiff, Nat.reduceLT, Nat.reduceEqDiff, S1, g7, g8, g9, g10, wsi]
    exact ⟨i + 1, by omega, .i ⟨a, F, bk, ls, t8, t9, now, rfl, rfl, rfl, hb.ext hx5, h8, h9, hv, hlb, hll, hn⟩, rfl, by omega⟩
end Go.Proofs.Ytodegnhallgnkaa.St
end

section
namespace Go.Proofs.Ytodegnhallgnkaa
open Go.ChangeShapes Go.WideShapes Go.ChangeAt Go.RowKit
namespace Law
theorem own : ownKnob Try.prog.godebug = none := by kernel_rfl
theorem kids : Kids Try.prog (· < Try.prog.types.size) := kids_rows (by kernel_rfl) (by kernel_rfl)
noncomputable def hzB : Bool := (List.range Try.prog.types.size).all fun t => match Try.prog.underlying t with
  | some (.slice e) => decide (0 < Try.prog.cellsOf e)
  | _ => true
theorem hzB_ok : hzB = true := by kernel_rfl
theorem hz : ∀ t e, t < Try.prog.types.size → Try.prog.underlying t = some (.slice e) → 0 < Try.prog.cellsOf e := fun t e ht h => by
  have := (List.all_eq_true.1 hzB_ok) t (List.mem_range.2 ht)
  rw [h] at this
  simpa using this
mutual
theorem bulk_eq {H : Type} : ∀ d : DataW H, Go.Rmp.bulkW d = Rows.uptoBulk d
  | .lit l => by cases l <;> simp [Go.Rmp.bulkW, Rows.uptoBulk]
  | .nil => by simp [Go.Rmp.bulkW, Rows.uptoBulk]
  | .ptr d => by simp [Go.Rmp.bulkW, Rows.uptoBulk, bulk_eq d]
  | .slice elems spare => by simp [Go.Rmp.bulkW, Rows.uptoBulk, bulks_eq elems, bulks_eq spare]
  | .agg parts => by simp [Go.Rmp.bulkW, Rows.uptoBulk, bulks_eq parts]
  | .iface _ d => by simp [Go.Rmp.bulkW, Rows.uptoBulk, bulk_eq d]
  | .map entries => by simp [Go.Rmp.bulkW, Rows.uptoBulk, bulkE_eq entries]
  | .held _ => by simp [Go.Rmp.bulkW, Rows.uptoBulk]
theorem bulks_eq {H : Type} : ∀ l : List (DataW H), Go.Rmp.bulkAllW l = Rows.uptoBulkAll l
  | [] => by simp [Go.Rmp.bulkAllW, Rows.uptoBulkAll]
  | d :: r => by simp [Go.Rmp.bulkAllW, Rows.uptoBulkAll, bulk_eq d, bulks_eq r]
theorem bulkE_eq {H : Type} : ∀ l : List (Lit × DataW H), Go.Rmp.bulkEntriesW l = Rows.uptoBulkEntries l
  | [] => by simp [Go.Rmp.bulkEntriesW, Rows.uptoBulkEntries]
  | x :: r => by simp [Go.Rmp.bulkEntriesW, Rows.uptoBulkEntries, bulkEn_eq x, bulkE_eq r]
theorem bulkEn_eq {H : Type} : ∀ x : Lit × DataW H, Go.Rmp.bulkEntryW x = Rows.uptoBulkEntry x
  | (l, d) => by cases l <;> simp [Go.Rmp.bulkEntryW, Rows.uptoBulkEntry, bulk_eq d]
end
theorem bulk_ok {H : Type} {ds : List (DataW H)} (h : Rows.uptoSmall H ds = true) : Go.Rmp.bulkAllW ds ≤ 1048576 := by
  rw [bulks_eq]; simpa [Rows.uptoSmall] using h
theorem hasS {B : Nat} {t : Go.Rmp.T} (h : Go.Rmp.HasSh B .str t) : ∃ s, t = .str s ∧ s.size ≤ B := by
  cases h with | str h hB => exact ⟨_, rfl, hB⟩
theorem hasI {B : Nat} {t : Go.Rmp.T} (h : Go.Rmp.HasSh B (.int .i64) t) : ∃ n : Int, t = .int .i64 n ∧ St.I64 n := by
  cases h with | int h =>
    rename_i n
    exact ⟨n, rfl, by simpa [St.I64, Lit.wf, IntKind.min, IntKind.max, IntKind.signed, IntKind.bits] using h⟩
theorem hasU8 {B : Nat} {t : Go.Rmp.T} (h : Go.Rmp.HasSh B (.int .u8) t) : ∃ n : Nat, t = .int .u8 n ∧ n < 256 := by
  cases h with | int h =>
    rename_i n
    have : 0 ≤ n ∧ n ≤ 255 := by simpa [Lit.wf, IntKind.min, IntKind.max, IntKind.signed, IntKind.bits] using h
    exact ⟨n.toNat, by congr 1; omega, by omega⟩
theorem hasU64 {B : Nat} {t : Go.Rmp.T} (h : Go.Rmp.HasSh B (.int .u64) t) : ∃ n : Nat, t = .int .u64 n ∧ n < 18446744073709551616 := by
  cases h with | int h =>
    rename_i n
    have : 0 ≤ n ∧ n ≤ 18446744073709551615 := by simpa [Lit.wf, IntKind.min, IntKind.max, IntKind.signed, IntKind.bits] using h
    exact ⟨n.toNat, by congr 1; omega, by omega⟩
end Law
namespace St
open Go.Rmp
theorem map_of {α : Type} {P : α → Prop} (enc : α → List T) (es : List (List T)) (h : ∀ c ∈ es, ∃ x, c = enc x ∧ P x) : ∃ l : List α, es = l.map enc ∧ ∀ x ∈ l, P x := by
  induction es with
  | nil => exact ⟨[], rfl, by simp⟩
  | cons c es ih =>
    obtain ⟨l, rfl, hl⟩ := ih (fun c hc => h c (List.mem_cons_of_mem _ hc))
    obtain ⟨x, rfl, hx⟩ := h _ List.mem_cons_self
    exact ⟨x :: l, rfl, fun y hy => by rcases List.mem_cons.1 hy with rfl | hy; exact hx; exact hl y hy⟩
theorem hasOs {B : Nat} {t : T} (h : HasSh B (.sl [.int .i64, .int .u64, .int .u8, .int .u8, .str]) t) : ∃ (k : SK) (l : List Opv), t = .sl k (l.map eO) ∧ l.length ≤ B ∧ ∀ o ∈ l, OkO o := by
  cases h with
  | nil => exact ⟨.nil, [], rfl, Nat.zero_le _, by simp⟩
  | sl hl hB h0 h =>
    rename_i es
    obtain ⟨l, rfl, hP⟩ := map_of (P := fun o : Opv => OkO o) eO es fun c hc => by
      have hc1 := h0 c hc
      match c, hc1 with
      | [a, b, d, e, f], _ =>
        obtain ⟨x, rfl, hx⟩ := Law.hasI (h _ hc 0 (.int .i64) a rfl rfl)
        obtain ⟨y, rfl, hy⟩ := Law.hasU64 (h _ hc 1 (.int .u64) b rfl rfl)
        obtain ⟨z, rfl, hz⟩ := Law.hasU8 (h _ hc 2 (.int .u8) d rfl rfl)
        obtain ⟨w, rfl, hw⟩ := Law.hasU8 (h _ hc 3 (.int .u8) e rfl rfl)
        obtain ⟨s, rfl, _⟩ := Law.hasS (h _ hc 4 .str f rfl rfl)
        exact ⟨⟨x, y, z, w, s⟩, rfl, hy, hz, hw⟩
    exact ⟨.arg, l, rfl, by simpa using hB, hP⟩
end St
namespace Law
end Law
end Go.Proofs.Ytodegnhallgnkaa
end

section
namespace Go.Proofs.Ytodegnhallgnkaa
open Go.ChangeShapes Go.WideShapes Go.ChangeAt Go.RowKit
namespace Law
theorem retainTime_w (as' : List Go.Rmp.T) (hs : Go.Rmp.HasShs 1048576 [Go.Rmp.Sh.sl [.int .i64, .int .u64, .int .u8, .int .u8, .str], .int .u8] as') : Go.Rmp.W Ir.env (.call 4 as') [] (fun o _ => o = .val (.bool true)) := by
  cases hs with | cons h1 hs =>
  cases hs with | cons h2 hs =>
  cases hs
  obtain ⟨k, l, rfl, n1, n2⟩ := St.hasOs h1
  obtain ⟨keep, rfl, n4⟩ := hasU8 h2
  exact St.time4 k l keep n1 n2 n4 []
theorem retainTime_fn (H : Type) : ∀ ds : List (DataW H), ds.length = Try.f4.params.toList.length → Rows.retainTimeSpec.fn H ds = { results := [.lit (.bool true)], args := ds } := by
  have hn : Try.f4.params.toList.length = 2 := by kernel_rfl
  rw [hn]
  intro ds hds
  cases ds with | nil => simp at hds | cons d0 ds =>
  cases ds with | nil => simp at hds | cons d1 ds =>
  cases ds with | cons => simp at hds | nil =>
  rfl
set_option maxRecDepth 100000 in
theorem retainTime_lifted (os : Os) (started : os.Started) (H : Type) (enc : TypeId × Value → H) (F : Stop.Interp) :
    ReturnsInHanded {} Try.checked os 4 .any ((Rows.OpenSpec.upto Rows.retainTimeSpec).pre6 enc Try.prog Try.f4 Rows.retainTimeUptoRow.domain false) (((Rows.OpenSpec.upto Rows.retainTimeSpec).at F).post enc Try.prog Try.f4 false true false false) := by
  refine returnsInHanded_of_cond (C := Try.checked) (s := Rows.OpenSpec.upto Rows.retainTimeSpec) (k := Rows.uptoSmall) rfl own started (by kernel_rfl) Try.func4
    (OpenSpec.witness (enc := enc) (C := Try.checked) (s := Rows.OpenSpec.upto Rows.retainTimeSpec) (k := Rows.uptoSmall) rfl false ⟨#[], #[.slice .none 0 0, .int .u8 0], []⟩ 8 (by kernel_rfl) (by kernel_rfl) (by kernel_rfl)
      (x := ([.nil, .lit (.int .u8 0)], [], [])) (by kernel_rfl) rfl (by kernel_rfl)) ?_
  intro W base args ds gs before hval hW _ hk _
  exact Go.Rmp.law_contract (s := Rows.retainTimeSpec) (shs := [Go.Rmp.Sh.sl [.int .i64, .int .u64, .int .u8, .int .u8, .str], .int .u8]) (B := 1048576) (tb := Try.f4.resultTypes[0]!) Ir.envOk kids hz (by kernel_rfl) (by intro t ht; exact of_decide_eq_true ((List.all_eq_true.1 (show Try.f4.params.toList.all (fun t => decide (t < Try.prog.types.size)) = true by kernel_rfl)) t ht)) (by kernel_rfl) (by kernel_rfl) rfl (retainTime_fn H) retainTime_w base args ds gs before hval hW (bulk_ok hk)
theorem retainTime_over : Rows.retainTimeUptoRow.holds Try.pinned (Rows.OpenSpec.upto Rows.retainTimeSpec) :=
  OpenClaim.holds_of_cond 4 Try.f4 rfl rfl rfl rfl rfl rfl rfl ⟨rfl, rfl, rfl, rfl, rfl⟩ rfl rfl rfl rfl rfl (by kernel_rfl) Try.func4 (by kernel_rfl)
    (of_decide_eq_true (by kernel_rfl)) (by unfold Func.isWrapper; first | (rw [if_pos (by decide +kernel)]; kernel_rfl) | (rw [if_neg (by decide +kernel)]; exact ⟨rfl, rfl⟩))
    (fun os started H enc _ F => retainTime_lifted os started H enc F)
theorem retainTime_proved : Rows.RetainTimeUptoSaid := retainTime_over
end Law
end Go.Proofs.Ytodegnhallgnkaa
end
