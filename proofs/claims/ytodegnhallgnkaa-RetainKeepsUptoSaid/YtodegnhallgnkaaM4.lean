/- Part of a proof of a law of this seat: the machine of plain values, its simulation, and the contracts of the functions that the law reaches. Conditions: none beyond the given row. -/
import Derived.Test.YtodegnhallgnkaaM3
import Derived.Test.YtodegnhallgnkaaRows
import Derived.WalkKit
import Derived.ProofKit
import Derived.OpenShut
import Derived.JoinedCond
import Derived.ChangeBears
set_option linter.unusedSimpArgs false
set_option linter.unusedVariables false
set_option linter.unnecessarySimpa false
set_option maxHeartbeats 4000000
section
namespace Go.Proofs.Ytodegnhallgnkaa.St
open Go.Rmp Go.Proofs.Ytodegnhallgnkaa.Ir
set_option maxRecDepth 10000
set_option maxHeartbeats 8000000
open Go.Sort in
theorem shiftDown_eq {d : Array Nm} {k : Nat} (h : 1 ≤ k) : shiftDown ltM k d = if (!ltM d[k]! d[k - 1]!) = true then d else shiftDown ltM (k - 1) (swp d k (k - 1)) := by
  cases k with
  | zero => omega
  | succ k => rw [shiftDown]; rfl
open Go.Sort in
theorem pins80 (c n : Nat) (d : Array Nm) (a b : Nat) (H : Heap) (hn : d.size = n) (hc : H[c]? = some (.cells (msC eN d.toList))) (hb : b ≤ n) (hab : a < b) (hs : n < 2305843009213693951) :
    W env (.call 85 [.msl c 0 n 2, .int .i64 a, .int .i64 b, .fn 40 []]) H (fun o H' => o = .val (.bool (partialInsertionSort ltM d a b).2) ∧ SC c n H (fun x => x = (partialInsertionSort ltM d a b).1) H') := by
  refine W.fnI rfl rfl rfl ?_
  obtain ⟨r, hr⟩ : ∃ r, r = partialInsertionSort ltM d a b := ⟨_, rfl⟩
  rw [← hr]
  simp -implicitDefEqProofs (maxSteps := 1000000) (disch := omega) only [ir85, natOf_nat, iadm, ldm1, ldm2, stm0, stm1, stm2, wA, wA1, wS, wS1, wM, S2, op, ef, cl, sq, reduceIte, Int.reduceLT, Int.reduceLE, Int.reduceBEq, Int.reduceBNe, Int.reduceEq, Nat.reduceAdd, Nat.reduceLeDiff, Nat.reduceLT, Nat.reduceEqDiff, S1]
  refine W.loopE 0 (fun (j : Nat) R H' => At H' (fun H' => ∃ i, R 9 = .int .i64 (i : Nat) ∧ a < i ∧ i ≤ b ∧ SC c n H (fun di => partialIns ltM a b (5 - j) i di = r) H') ∧ R 0 = .msl c 0 n 2 ∧ R 1 = .int .i64 a ∧ R 2 = .int .i64 b ∧ R 3 = .fn 40 [] ∧ R 10 = .int .i64 j ∧ j ≤ 5) (fun j => 5 - j) 0
    (fun R H' => At H' (fun H' => SC c n H (fun di => (di, false) = r) H')) ⟨.i ⟨a + 1, rfl, by omega, by omega, d, hc, hn, hr.symm, Frm.refl _ _⟩, rfl, rfl, rfl, rfl, rfl, by omega⟩ ?_ ?_
  · rintro j R H1 ⟨⟨i, h9, hai, hib, di, hd, hsz, hP, hfr⟩, h0, h1, h2, h3, h10, hj⟩
    by_cases hj5 : j < 5
    rotate_left
    · have : j = 5 := by omega
      subst this
      simp -implicitDefEqProofs only [op, ef, cl, sq, reduceIte, Int.reduceLT, Int.reduceLE, Int.reduceBEq, Int.reduceBNe, Int.reduceEq, Nat.reduceAdd, Nat.reduceLeDiff, Nat.reduceLT, Nat.reduceEqDiff, S1, h0, h1, h2, h3, h10]
      exact .i ⟨di, hd, hsz, hP, hfr⟩
    obtain ⟨s, hs5⟩ : ∃ s, 5 - j = s + 1 := ⟨4 - j, by omega⟩
    have hs5' : 5 - (j + 1) = s := by omega
    rw [hs5, partialIns] at hP
    simp -implicitDefEqProofs only [op, ef, cl, sq, reduceIte, Int.reduceLT, Int.reduceLE, Int.reduceBEq, Int.reduceBNe, Int.reduceEq, Nat.reduceAdd, Nat.reduceLeDiff, Nat.reduceLT, Nat.reduceEqDiff, S1, h0, h1, h2, h3, h10, hj5]
    obtain ⟨si, hsi⟩ : ∃ si, si = scanSorted ltM di b i := ⟨_, rfl⟩
    rw [← hsi] at hP
    refine W.loopE 2 (fun (k : Nat) R H' => At H' (fun H' => H'[c]? = some (.cells (msC eN di.toList)) ∧ Frm (fun x => x = c) H H') ∧ R 0 = .msl c 0 n 2 ∧ R 1 = .int .i64 a ∧ R 2 = .int .i64 b ∧ R 3 = .fn 40 [] ∧ R 9 = .int .i64 k ∧ R 10 = .int .i64 j ∧ i ≤ k ∧ k ≤ b ∧ scanSorted ltM di b k = si) (fun k => b - k) i
      (fun R H' => At H' (fun H' => H'[c]? = some (.cells (msC eN di.toList)) ∧ Frm (fun x => x = c) H H') ∧ R 0 = .msl c 0 n 2 ∧ R 1 = .int .i64 a ∧ R 2 = .int .i64 b ∧ R 3 = .fn 40 [] ∧ R 9 = .int .i64 si ∧ R 10 = .int .i64 j ∧ i ≤ si ∧ si ≤ b) ⟨.i ⟨hd, hfr⟩, ?_, ?_, ?_, ?_, ?_, ?_, Nat.le_refl _, hib, hsi.symm⟩ ?_ ?_
    · simp -implicitDefEqProofs only [op, ef, cl, sq, reduceIte, Int.reduceLT, Int.reduceLE, Int.reduceBEq, Int.reduceBNe, Int.reduceEq, Nat.reduceAdd, Nat.reduceLeDiff, Nat.reduceLT, Nat.reduceEqDiff, S1, h0]
    · simp -implicitDefEqProofs only [op, ef, cl, sq, reduceIte, Int.reduceLT, Int.reduceLE, Int.reduceBEq, Int.reduceBNe, Int.reduceEq, Nat.reduceAdd, Nat.reduceLeDiff, Nat.reduceLT, Nat.reduceEqDiff, S1, h1]
    · simp -implicitDefEqProofs only [op, ef, cl, sq, reduceIte, Int.reduceLT, Int.reduceLE, Int.reduceBEq, Int.reduceBNe, Int.reduceEq, Nat.reduceAdd, Nat.reduceLeDiff, Nat.reduceLT, Nat.reduceEqDiff, S1, h2]
    · simp -implicitDefEqProofs only [op, ef, cl, sq, reduceIte, Int.reduceLT, Int.reduceLE, Int.reduceBEq, Int.reduceBNe, Int.reduceEq, Nat.reduceAdd, Nat.reduceLeDiff, Nat.reduceLT, Nat.reduceEqDiff, S1, h3]
    · simp -implicitDefEqProofs only [op, ef, cl, sq, reduceIte, Int.reduceLT, Int.reduceLE, Int.reduceBEq, Int.reduceBNe, Int.reduceEq, Nat.reduceAdd, Nat.reduceLeDiff, Nat.reduceLT, Nat.reduceEqDiff, S1, h9]
    · simp -implicitDefEqProofs only [op, ef, cl, sq, reduceIte, Int.reduceLT, Int.reduceLE, Int.reduceBEq, Int.reduceBNe, Int.reduceEq, Nat.reduceAdd, Nat.reduceLeDiff, Nat.reduceLT, Nat.reduceEqDiff, S1, h10]
    · rintro k R H2 ⟨⟨hd, hfr⟩, h0, h1, h2, h3, h9, h10, hik, hkb, hk⟩
      have lc := glt hd
      by_cases hkk : k < b
      · simp -implicitDefEqProofs (maxSteps := 1000000) (disch := omega) only [natOf_nat, iadm, ldm1, ldm2, stm0, stm1, stm2, wA, wA1, wS, wS1, wM, S2, op, ef, cl, sq, reduceIte, Int.reduceLT, Int.reduceLE, Int.reduceBEq, Int.reduceBNe, Int.reduceEq, Nat.reduceAdd, Nat.reduceLeDiff, Nat.reduceLT, Nat.reduceEqDiff, S1, h0, h1, h2, h3, h9, h10, hkk, hd, lc]
        refine b_vg _ _ _ _ _ _ _ (by simp -implicitDefEqProofs (maxSteps := 1000000) (disch := omega) only [natOf_nat, iadm, ldm1, ldm2, stm0, stm1, stm2, wA, wA1, wS, wS1, wM, S2, op, ef, cl, sq, reduceIte, Int.reduceLT, Int.reduceLE, Int.reduceBEq, Int.reduceBNe, Int.reduceEq, Nat.reduceAdd, Nat.reduceLeDiff, Nat.reduceLT, Nat.reduceEqDiff, S1, h0, h1, h2, h3, h9, h10, hkk, hd, lc]) ?_
        simp -implicitDefEqProofs (maxSteps := 1000000) (disch := omega) only [natOf_nat, iadm, ldm1, ldm2, stm0, stm1, stm2, wA, wA1, wS, wS1, wM, S2, op, ef, cl, sq, reduceIte, Int.reduceLT, Int.reduceLE, Int.reduceBEq, Int.reduceBNe, Int.reduceEq, Nat.reduceAdd, Nat.reduceLeDiff, Nat.reduceLT, Nat.reduceEqDiff, S1, callvB, h0, h1, h2, h3, h9, h10, hkk, hd, lc, List.append_nil]
        refine callB_of _ _ _ _ _ _ _ _ (byName36 di[k]! di[k - 1]! _) ?_
        rintro u H3 ⟨hu, hx⟩
        cases hu
        have hx : Ext H2 H3 := hx
        have hd := hx.get hd
        have lc := glt hd
        have hfr := hfr.trans (ext_frm (F := fun _ => False) hx) (fun _ h => h.elim)
        have lt1 : ltM di[k]! di[k - 1]! = decide (cmpM di[k]! di[k - 1]! < 0) := rfl
        by_cases c1 : cmpM di[k]! di[k - 1]! < 0
        · simp -implicitDefEqProofs (maxSteps := 1000000) (disch := omega) only [natOf_nat, iadm, ldm1, ldm2, stm0, stm1, stm2, wA, wA1, wS, wS1, wM, S2, op, ef, cl, sq, reduceIte, Int.reduceLT, Int.reduceLE, Int.reduceBEq, Int.reduceBNe, Int.reduceEq, Nat.reduceAdd, Nat.reduceLeDiff, Nat.reduceLT, Nat.reduceEqDiff, S1, h0, h1, h2, h3, h9, h10, hkk, c1]
          rw [scanSorted, if_neg (and_f2 (by rw [lt1, dect c1]; rfl))] at hk
          subst hk
          exact ⟨.i ⟨hd, hfr⟩, rfl, hik, hkb⟩
        · simp -implicitDefEqProofs (maxSteps := 1000000) (disch := omega) only [natOf_nat, iadm, ldm1, ldm2, stm0, stm1, stm2, wA, wA1, wS, wS1, wM, S2, op, ef, cl, sq, reduceIte, Int.reduceLT, Int.reduceLE, Int.reduceBEq, Int.reduceBNe, Int.reduceEq, Nat.reduceAdd, Nat.reduceLeDiff, Nat.reduceLT, Nat.reduceEqDiff, S1, h0, h1, h2, h3, h9, h10, hkk, c1]
          rw [scanSorted, if_pos (and_t (dect hkk) (not_f (lt1.trans (decf c1))))] at hk
          exact ⟨k + 1, by omega, .i ⟨hd, hfr⟩, rfl, by omega, by omega, hk⟩
      · simp -implicitDefEqProofs only [op, ef, cl, sq, reduceIte, Int.reduceLT, Int.reduceLE, Int.reduceBEq, Int.reduceBNe, Int.reduceEq, Nat.reduceAdd, Nat.reduceLeDiff, Nat.reduceLT, Nat.reduceEqDiff, S1, h0, h1, h2, h3, h9, h10, hkk]
        rw [scanSorted, if_neg (and_f1 (decf hkk))] at hk
        subst hk
        exact ⟨.i ⟨hd, hfr⟩, rfl, hik, hkb⟩
    · rintro R H2 ⟨⟨hd, hfr⟩, h0, h1, h2, h3, h9, h10, hisi, hsib⟩
      have lc := glt hd
      by_cases hb1 : si = b
      · rw [if_pos hb1] at hP
        have e1 : ((si : Int) == (b : Int)) = true := by rw [hb1]; simp
        simp -implicitDefEqProofs (maxSteps := 1000000) (disch := omega) only [natOf_nat, iadm, ldm1, ldm2, stm0, stm1, stm2, wA, wA1, wS, wS1, wM, S2, op, ef, cl, sq, reduceIte, Int.reduceLT, Int.reduceLE, Int.reduceBEq, Int.reduceBNe, Int.reduceEq, Nat.reduceAdd, Nat.reduceLeDiff, Nat.reduceLT, Nat.reduceEqDiff, S1, h0, h1, h2, h3, h9, h10, e1]
        rw [← hP]
        exact ⟨rfl, di, hd, hsz, rfl, hfr⟩
      rw [if_neg hb1] at hP
      have e1 : ((si : Int) == (b : Int)) = false := by simp; omega
      by_cases h50 : b - a < 50
      · rw [if_pos h50] at hP
        simp -implicitDefEqProofs (maxSteps := 1000000) (disch := omega) only [natOf_nat, iadm, ldm1, ldm2, stm0, stm1, stm2, wA, wA1, wS, wS1, wM, S2, op, ef, cl, sq, reduceIte, Int.reduceLT, Int.reduceLE, Int.reduceBEq, Int.reduceBNe, Int.reduceEq, Nat.reduceAdd, Nat.reduceLeDiff, Nat.reduceLT, Nat.reduceEqDiff, S1, h0, h1, h2, h3, h9, h10, e1, h50]
        rw [← hP]
        exact ⟨rfl, di, hd, hsz, rfl, hfr⟩
      rw [if_neg h50] at hP
      simp -implicitDefEqProofs (maxSteps := 1000000) (disch := omega) only [natOf_nat, iadm, ldm1, ldm2, stm0, stm1, stm2, wA, wA1, wS, wS1, wM, S2, op, ef, cl, sq, reduceIte, Int.reduceLT, Int.reduceLE, Int.reduceBEq, Int.reduceBNe, Int.reduceEq, Nat.reduceAdd, Nat.reduceLeDiff, Nat.reduceLT, Nat.reduceEqDiff, S1, h0, h1, h2, h3, h9, h10, e1, h50, hd, lc]
      obtain ⟨d3, hd3⟩ : ∃ d3, d3 = if si - a ≥ 2 then shiftDown ltM (si - 1) (swp di si (si - 1)) else swp di si (si - 1) := ⟨_, rfl⟩
      obtain ⟨d4, hd4⟩ : ∃ d4, d4 = if b - si ≥ 2 then shiftUp ltM b (si + 1) d3 else d3 := ⟨_, rfl⟩
      have hP : partialIns ltM a b s si d4 = r := by rw [hd4, hd3]; exact hP
      obtain ⟨d2, hd2, hs2, e2, hf2⟩ := SC.swp (n := n) (P := fun x => x = swp di si (si - 1)) (x := .cells (msC eN (di.toList.set si di[si - 1]!))) hd (by rw [swp_size]; exact hsz) rfl hfr
      subst e2
      generalize ((H2.set c (.cells (msC eN (di.toList.set si di[si - 1]!)))).set c (.cells (msC eN (swp di si (si - 1)).toList))) = H5 at *
      by_cases hA : 2 ≤ si - a
      · rw [if_pos hA] at hd3
        simp -implicitDefEqProofs (maxSteps := 1000000) (disch := omega) only [natOf_nat, iadm, ldm1, ldm2, stm0, stm1, stm2, wA, wA1, wS, wS1, wM, S2, op, ef, cl, sq, reduceIte, Int.reduceLT, Int.reduceLE, Int.reduceBEq, Int.reduceBNe, Int.reduceEq, Nat.reduceAdd, Nat.reduceLeDiff, Nat.reduceLT, Nat.reduceEqDiff, S1, h0, h1, h2, h3, h9, h10, hA]
        refine W.loopE 4 (fun (k : Nat) R H' => At H' (fun H' => SC c n H (fun dx => shiftDown ltM k dx = d3) H') ∧ R 0 = .msl c 0 n 2 ∧ R 1 = .int .i64 a ∧ R 2 = .int .i64 b ∧ R 3 = .fn 40 [] ∧ R 9 = .int .i64 si ∧ R 10 = .int .i64 j ∧ R 11 = .int .i64 k ∧ k < b) (fun k => k) (si - 1)
          (fun R H' => At H' (fun H' => SC c n H (fun dx => dx = d3) H') ∧ R 0 = .msl c 0 n 2 ∧ R 1 = .int .i64 a ∧ R 2 = .int .i64 b ∧ R 3 = .fn 40 [] ∧ R 9 = .int .i64 si ∧ R 10 = .int .i64 j) ⟨.i ⟨_, hd2, hs2, hd3.symm, hf2⟩, ?_, ?_, ?_, ?_, ?_, ?_, ?_, by omega⟩ ?_ ?_
        · simp -implicitDefEqProofs only [op, ef, cl, sq, reduceIte, Int.reduceLT, Int.reduceLE, Int.reduceBEq, Int.reduceBNe, Int.reduceEq, Nat.reduceAdd, Nat.reduceLeDiff, Nat.reduceLT, Nat.reduceEqDiff, S1, h0]
        · simp -implicitDefEqProofs only [op, ef, cl, sq, reduceIte, Int.reduceLT, Int.reduceLE, Int.reduceBEq, Int.reduceBNe, Int.reduceEq, Nat.reduceAdd, Nat.reduceLeDiff, Nat.reduceLT, Nat.reduceEqDiff, S1, h1]
        · simp -implicitDefEqProofs only [op, ef, cl, sq, reduceIte, Int.reduceLT, Int.reduceLE, Int.reduceBEq, Int.reduceBNe, Int.reduceEq, Nat.reduceAdd, Nat.reduceLeDiff, Nat.reduceLT, Nat.reduceEqDiff, S1, h2]
        · simp -implicitDefEqProofs only [op, ef, cl, sq, reduceIte, Int.reduceLT, Int.reduceLE, Int.reduceBEq, Int.reduceBNe, Int.reduceEq, Nat.reduceAdd, Nat.reduceLeDiff, Nat.reduceLT, Nat.reduceEqDiff, S1, h3]
        · simp -implicitDefEqProofs only [op, ef, cl, sq, reduceIte, Int.reduceLT, Int.reduceLE, Int.reduceBEq, Int.reduceBNe, Int.reduceEq, Nat.reduceAdd, Nat.reduceLeDiff, Nat.reduceLT, Nat.reduceEqDiff, S1, h9]
        · simp -implicitDefEqProofs only [op, ef, cl, sq, reduceIte, Int.reduceLT, Int.reduceLE, Int.reduceBEq, Int.reduceBNe, Int.reduceEq, Nat.reduceAdd, Nat.reduceLeDiff, Nat.reduceLT, Nat.reduceEqDiff, S1, h10]
        · simp -implicitDefEqProofs only [op, ef, cl, sq, reduceIte, Int.reduceLT, Int.reduceLE, Int.reduceBEq, Int.reduceBNe, Int.reduceEq, Nat.reduceAdd, Nat.reduceLeDiff, Nat.reduceLT, Nat.reduceEqDiff, S1]
        · rintro k R H2 ⟨⟨dx, hd, hsz, hk, hfr⟩, h0, h1, h2, h3, h9, h10, h11, hkb⟩
          have lc := glt hd
          by_cases hk1 : 1 ≤ k
          · simp -implicitDefEqProofs (maxSteps := 1000000) (disch := omega) only [natOf_nat, iadm, ldm1, ldm2, stm0, stm1, stm2, wA, wA1, wS, wS1, wM, S2, op, ef, cl, sq, reduceIte, Int.reduceLT, Int.reduceLE, Int.reduceBEq, Int.reduceBNe, Int.reduceEq, Nat.reduceAdd, Nat.reduceLeDiff, Nat.reduceLT, Nat.reduceEqDiff, S1, h0, h1, h2, h3, h9, h10, h11, hk1, hd, lc]
            refine b_vg _ _ _ _ _ _ _ (by simp -implicitDefEqProofs (maxSteps := 1000000) (disch := omega) only [natOf_nat, iadm, ldm1, ldm2, stm0, stm1, stm2, wA, wA1, wS, wS1, wM, S2, op, ef, cl, sq, reduceIte, Int.reduceLT, Int.reduceLE, Int.reduceBEq, Int.reduceBNe, Int.reduceEq, Nat.reduceAdd, Nat.reduceLeDiff, Nat.reduceLT, Nat.reduceEqDiff, S1, h0, h1, h2, h3, h9, h10, h11, hk1, hd, lc]) ?_
            simp -implicitDefEqProofs (maxSteps := 1000000) (disch := omega) only [natOf_nat, iadm, ldm1, ldm2, stm0, stm1, stm2, wA, wA1, wS, wS1, wM, S2, op, ef, cl, sq, reduceIte, Int.reduceLT, Int.reduceLE, Int.reduceBEq, Int.reduceBNe, Int.reduceEq, Nat.reduceAdd, Nat.reduceLeDiff, Nat.reduceLT, Nat.reduceEqDiff, S1, callvB, h0, h1, h2, h3, h9, h10, h11, hk1, hd, lc, List.append_nil]
            refine callB_of _ _ _ _ _ _ _ _ (byName36 dx[k]! dx[k - 1]! _) ?_
            rintro u H3 ⟨hu, hx⟩
            cases hu
            have hx : Ext H2 H3 := hx
            have hd := hx.get hd
            have lc := glt hd
            have hfr := hfr.trans (ext_frm (F := fun _ => False) hx) (fun _ h => h.elim)
            have lt1 : ltM dx[k]! dx[k - 1]! = decide (cmpM dx[k]! dx[k - 1]! < 0) := rfl
            rw [shiftDown_eq hk1] at hk
            by_cases c1 : cmpM dx[k]! dx[k - 1]! < 0
            · simp -implicitDefEqProofs (maxSteps := 1000000) (disch := omega) only [natOf_nat, iadm, ldm1, ldm2, stm0, stm1, stm2, wA, wA1, wS, wS1, wM, S2, op, ef, cl, sq, reduceIte, Int.reduceLT, Int.reduceLE, Int.reduceBEq, Int.reduceBNe, Int.reduceEq, Nat.reduceAdd, Nat.reduceLeDiff, Nat.reduceLT, Nat.reduceEqDiff, S1, h0, h1, h2, h3, h9, h10, h11, hk1, hd, lc, c1]
              rw [if_neg (not_t (lt1.trans (dect c1)))] at hk
              exact ⟨k - 1, by omega, .i (.swp hd (by rw [swp_size]; exact hsz) hk hfr), rfl, by omega⟩
            · simp -implicitDefEqProofs (maxSteps := 1000000) (disch := omega) only [natOf_nat, iadm, ldm1, ldm2, stm0, stm1, stm2, wA, wA1, wS, wS1, wM, S2, op, ef, cl, sq, reduceIte, Int.reduceLT, Int.reduceLE, Int.reduceBEq, Int.reduceBNe, Int.reduceEq, Nat.reduceAdd, Nat.reduceLeDiff, Nat.reduceLT, Nat.reduceEqDiff, S1, h0, h1, h2, h3, h9, h10, h11, hk1, hd, lc, c1]
              rw [if_pos (not_f (lt1.trans (decf c1)))] at hk
              exact .i ⟨dx, hd, hsz, hk, hfr⟩
          · have hk0 : k = 0 := by omega
            subst hk0
            simp -implicitDefEqProofs only [op, ef, cl, sq, reduceIte, Int.reduceLT, Int.reduceLE, Int.reduceBEq, Int.reduceBNe, Int.reduceEq, Nat.reduceAdd, Nat.reduceLeDiff, Nat.reduceLT, Nat.reduceEqDiff, S1, h0, h1, h2, h3, h9, h10, h11, hk1]
            rw [shiftDown] at hk
            exact .i ⟨dx, hd, hsz, hk, hfr⟩
        · rintro R H2 ⟨⟨dx, hd, hsz3, rfl, hfr⟩, h0, h1, h2, h3, h9, h10⟩
          have lc := glt hd
          by_cases hB : 2 ≤ b - si
          · simp -implicitDefEqProofs (maxSteps := 1000000) (disch := omega) only [natOf_nat, iadm, ldm1, ldm2, stm0, stm1, stm2, wA, wA1, wS, wS1, wM, S2, op, ef, cl, sq, reduceIte, Int.reduceLT, Int.reduceLE, Int.reduceBEq, Int.reduceBNe, Int.reduceEq, Nat.reduceAdd, Nat.reduceLeDiff, Nat.reduceLT, Nat.reduceEqDiff, S1, h0, h1, h2, h3, h9, h10, hB]
            rw [if_pos hB] at hd4
            refine W.loopE 6 (fun (k : Nat) R H' => At H' (fun H' => SC c n H (fun dx => shiftUp ltM b k dx = d4) H') ∧ R 0 = .msl c 0 n 2 ∧ R 1 = .int .i64 a ∧ R 2 = .int .i64 b ∧ R 3 = .fn 40 [] ∧ R 9 = .int .i64 si ∧ R 10 = .int .i64 j ∧ R 12 = .int .i64 k ∧ 1 ≤ k ∧ k ≤ b) (fun k => b - k) (si + 1)
              (fun R H' => At H' (fun H' => SC c n H (fun dx => dx = d4) H') ∧ R 0 = .msl c 0 n 2 ∧ R 1 = .int .i64 a ∧ R 2 = .int .i64 b ∧ R 3 = .fn 40 [] ∧ R 9 = .int .i64 si ∧ R 10 = .int .i64 j) ⟨.i ⟨dx, hd, hsz3, hd4.symm, hfr⟩, ?_, ?_, ?_, ?_, ?_, ?_, ?_, by omega, by omega⟩ ?_ ?_
            · simp -implicitDefEqProofs only [op, ef, cl, sq, reduceIte, Int.reduceLT, Int.reduceLE, Int.reduceBEq, Int.reduceBNe, Int.reduceEq, Nat.reduceAdd, Nat.reduceLeDiff, Nat.reduceLT, Nat.reduceEqDiff, S1, h0]
            · simp -implicitDefEqProofs only [op, ef, cl, sq, reduceIte, Int.reduceLT, Int.reduceLE, Int.reduceBEq, Int.reduceBNe, Int.reduceEq, Nat.reduceAdd, Nat.reduceLeDiff, Nat.reduceLT, Nat.reduceEqDiff, S1, h1]
            · simp -implicitDefEqProofs only [op, ef, cl, sq, reduceIte, Int.reduceLT, Int.reduceLE, Int.reduceBEq, Int.reduceBNe, Int.reduceEq, Nat.reduceAdd, Nat.reduceLeDiff, Nat.reduceLT, Nat.reduceEqDiff, S1, h2]
            · simp -implicitDefEqProofs only [op, ef, cl, sq, reduceIte, Int.reduceLT, Int.reduceLE, Int.reduceBEq, Int.reduceBNe, Int.reduceEq, Nat.reduceAdd, Nat.reduceLeDiff, Nat.reduceLT, Nat.reduceEqDiff, S1, h3]
            · simp -implicitDefEqProofs only [op, ef, cl, sq, reduceIte, Int.reduceLT, Int.reduceLE, Int.reduceBEq, Int.reduceBNe, Int.reduceEq, Nat.reduceAdd, Nat.reduceLeDiff, Nat.reduceLT, Nat.reduceEqDiff, S1, h9]
            · simp -implicitDefEqProofs only [op, ef, cl, sq, reduceIte, Int.reduceLT, Int.reduceLE, Int.reduceBEq, Int.reduceBNe, Int.reduceEq, Nat.reduceAdd, Nat.reduceLeDiff, Nat.reduceLT, Nat.reduceEqDiff, S1, h10]
            · simp -implicitDefEqProofs only [op, ef, cl, sq, reduceIte, Int.reduceLT, Int.reduceLE, Int.reduceBEq, Int.reduceBNe, Int.reduceEq, Nat.reduceAdd, Nat.reduceLeDiff, Nat.reduceLT, Nat.reduceEqDiff, S1]
            · rintro k R H2 ⟨⟨dx, hd, hsz, hk, hfr⟩, h0, h1, h2, h3, h9, h10, h12, hk1, hkb⟩
              have lc := glt hd
              by_cases hkk : k < b
              · simp -implicitDefEqProofs (maxSteps := 1000000) (disch := omega) only [natOf_nat, iadm, ldm1, ldm2, stm0, stm1, stm2, wA, wA1, wS, wS1, wM, S2, op, ef, cl, sq, reduceIte, Int.reduceLT, Int.reduceLE, Int.reduceBEq, Int.reduceBNe, Int.reduceEq, Nat.reduceAdd, Nat.reduceLeDiff, Nat.reduceLT, Nat.reduceEqDiff, S1, h0, h1, h2, h3, h9, h10, h12, hkk, hd, lc]
                refine b_vg _ _ _ _ _ _ _ (by simp -implicitDefEqProofs (maxSteps := 1000000) (disch := omega) only [natOf_nat, iadm, ldm1, ldm2, stm0, stm1, stm2, wA, wA1, wS, wS1, wM, S2, op, ef, cl, sq, reduceIte, Int.reduceLT, Int.reduceLE, Int.reduceBEq, Int.reduceBNe, Int.reduceEq, Nat.reduceAdd, Nat.reduceLeDiff, Nat.reduceLT, Nat.reduceEqDiff, S1, h0, h1, h2, h3, h9, h10, h12, hkk, hd, lc]) ?_
                simp -implicitDefEqProofs (maxSteps := 1000000) (disch := omega) only [natOf_nat, iadm, ldm1, ldm2, stm0, stm1, stm2, wA, wA1, wS, wS1, wM, S2, op, ef, cl, sq, reduceIte, Int.reduceLT, Int.reduceLE, Int.reduceBEq, Int.reduceBNe, Int.reduceEq, Nat.reduceAdd, Nat.reduceLeDiff, Nat.reduceLT, Nat.reduceEqDiff, S1, callvB, h0, h1, h2, h3, h9, h10, h12, hkk, hd, lc, List.append_nil]
                refine callB_of _ _ _ _ _ _ _ _ (byName36 dx[k]! dx[k - 1]! _) ?_
                rintro u H3 ⟨hu, hx⟩
                cases hu
                have hx : Ext H2 H3 := hx
                have hd := hx.get hd
                have lc := glt hd
                have hfr := hfr.trans (ext_frm (F := fun _ => False) hx) (fun _ h => h.elim)
                have lt1 : ltM dx[k]! dx[k - 1]! = decide (cmpM dx[k]! dx[k - 1]! < 0) := rfl
                rw [shiftUp, if_pos hkk] at hk
                by_cases c1 : cmpM dx[k]! dx[k - 1]! < 0
                · simp -implicitDefEqProofs (maxSteps := 1000000) (disch := omega) only [natOf_nat, iadm, ldm1, ldm2, stm0, stm1, stm2, wA, wA1, wS, wS1, wM, S2, op, ef, cl, sq, reduceIte, Int.reduceLT, Int.reduceLE, Int.reduceBEq, Int.reduceBNe, Int.reduceEq, Nat.reduceAdd, Nat.reduceLeDiff, Nat.reduceLT, Nat.reduceEqDiff, S1, h0, h1, h2, h3, h9, h10, h12, hkk, hd, lc, c1]
                  rw [if_neg (not_t (lt1.trans (dect c1)))] at hk
                  exact ⟨k + 1, by omega, .i (.swp hd (by rw [swp_size]; exact hsz) hk hfr), rfl, by omega, by omega⟩
                · simp -implicitDefEqProofs (maxSteps := 1000000) (disch := omega) only [natOf_nat, iadm, ldm1, ldm2, stm0, stm1, stm2, wA, wA1, wS, wS1, wM, S2, op, ef, cl, sq, reduceIte, Int.reduceLT, Int.reduceLE, Int.reduceBEq, Int.reduceBNe, Int.reduceEq, Nat.reduceAdd, Nat.reduceLeDiff, Nat.reduceLT, Nat.reduceEqDiff, S1, h0, h1, h2, h3, h9, h10, h12, hkk, hd, lc, c1]
                  rw [if_pos (not_f (lt1.trans (decf c1)))] at hk
                  exact .i ⟨dx, hd, hsz, hk, hfr⟩
              · simp -implicitDefEqProofs only [op, ef, cl, sq, reduceIte, Int.reduceLT, Int.reduceLE, Int.reduceBEq, Int.reduceBNe, Int.reduceEq, Nat.reduceAdd, Nat.reduceLeDiff, Nat.reduceLT, Nat.reduceEqDiff, S1, h0, h1, h2, h3, h9, h10, h12, hkk]
                rw [shiftUp, if_neg hkk] at hk
                exact .i ⟨dx, hd, hsz, hk, hfr⟩
            · rintro R H2 ⟨⟨dx, hd, hsz, rfl, hfr⟩, h0, h1, h2, h3, h9, h10⟩
              simp -implicitDefEqProofs (maxSteps := 1000000) (disch := omega) only [natOf_nat, iadm, ldm1, ldm2, stm0, stm1, stm2, wA, wA1, wS, wS1, wM, S2, op, ef, cl, sq, reduceIte, Int.reduceLT, Int.reduceLE, Int.reduceBEq, Int.reduceBNe, Int.reduceEq, Nat.reduceAdd, Nat.reduceLeDiff, Nat.reduceLT, Nat.reduceEqDiff, S1, h0, h1, h2, h3, h9, h10]
              exact ⟨j + 1, by omega, .i ⟨si, rfl, by omega, by omega, dx, hd, hsz, by rw [hs5']; exact hP, hfr⟩, rfl, by omega⟩
          · rw [if_neg hB] at hd4
            subst hd4
            simp -implicitDefEqProofs (maxSteps := 1000000) (disch := omega) only [natOf_nat, iadm, ldm1, ldm2, stm0, stm1, stm2, wA, wA1, wS, wS1, wM, S2, op, ef, cl, sq, reduceIte, Int.reduceLT, Int.reduceLE, Int.reduceBEq, Int.reduceBNe, Int.reduceEq, Nat.reduceAdd, Nat.reduceLeDiff, Nat.reduceLT, Nat.reduceEqDiff, S1, h0, h1, h2, h3, h9, h10, hB]
            exact ⟨j + 1, by omega, .i ⟨si, rfl, by omega, by omega, d4, hd, hsz3, by rw [hs5']; exact hP, hfr⟩, rfl, by omega⟩
      · rw [if_neg hA] at hd3
        simp -implicitDefEqProofs (maxSteps := 1000000) (disch := omega) only [natOf_nat, iadm, ldm1, ldm2, stm0, stm1, stm2, wA, wA1, wS, wS1, wM, S2, op, ef, cl, sq, reduceIte, Int.reduceLT, Int.reduceLE, Int.reduceBEq, Int.reduceBNe, Int.reduceEq, Nat.reduceAdd, Nat.reduceLeDiff, Nat.reduceLT, Nat.reduceEqDiff, S1, h0, h1, h2, h3, h9, h10, hA]
        have hd := hd2
        have hsz3 := hs2
        have hfr := hf2
        rw [← hd3] at hd hsz3
        by_cases hB : 2 ≤ b - si
        · simp -implicitDefEqProofs (maxSteps := 1000000) (disch := omega) only [natOf_nat, iadm, ldm1, ldm2, stm0, stm1, stm2, wA, wA1, wS, wS1, wM, S2, op, ef, cl, sq, reduceIte, Int.reduceLT, Int.reduceLE, Int.reduceBEq, Int.reduceBNe, Int.reduceEq, Nat.reduceAdd, Nat.reduceLeDiff, Nat.reduceLT, Nat.reduceEqDiff, S1, h0, h1, h2, h3, h9, h10, hB]
          rw [if_pos hB] at hd4
          refine W.loopE 6 (fun (k : Nat) R H' => At H' (fun H' => SC c n H (fun dx => shiftUp ltM b k dx = d4) H') ∧ R 0 = .msl c 0 n 2 ∧ R 1 = .int .i64 a ∧ R 2 = .int .i64 b ∧ R 3 = .fn 40 [] ∧ R 9 = .int .i64 si ∧ R 10 = .int .i64 j ∧ R 12 = .int .i64 k ∧ 1 ≤ k ∧ k ≤ b) (fun k => b - k) (si + 1)
            (fun R H' => At H' (fun H' => SC c n H (fun dx => dx = d4) H') ∧ R 0 = .msl c 0 n 2 ∧ R 1 = .int .i64 a ∧ R 2 = .int .i64 b ∧ R 3 = .fn 40 [] ∧ R 9 = .int .i64 si ∧ R 10 = .int .i64 j) ⟨.i ⟨d3, hd, hsz3, hd4.symm, hfr⟩, ?_, ?_, ?_, ?_, ?_, ?_, ?_, by omega, by omega⟩ ?_ ?_
          · simp -implicitDefEqProofs only [op, ef, cl, sq, reduceIte, Int.reduceLT, Int.reduceLE, Int.reduceBEq, Int.reduceBNe, Int.reduceEq, Nat.reduceAdd, Nat.reduceLeDiff, Nat.reduceLT, Nat.reduceEqDiff, S1, h0]
          · simp -implicitDefEqProofs only [op, ef, cl, sq, reduceIte, Int.reduceLT, Int.reduceLE, Int.reduceBEq, Int.reduceBNe, Int.reduceEq, Nat.reduceAdd, Nat.reduceLeDiff, Nat.reduceLT, Nat.reduceEqDiff, S1, h1]
          · simp -implicitDefEqProofs only [op, ef, cl, sq, reduceIte, Int.reduceLT, Int.reduceLE, Int.reduceBEq, Int.reduceBNe, Int.reduceEq, Nat.reduceAdd, Nat.reduceLeDiff, Nat.reduceLT, Nat.reduceEqDiff, S1, h2]
          · simp -implicitDefEqProofs only [op, ef, cl, sq, reduceIte, Int.reduceLT, Int.reduceLE, Int.reduceBEq, Int.reduceBNe, Int.reduceEq, Nat.reduceAdd, Nat.reduceLeDiff, Nat.reduceLT, Nat.reduceEqDiff, S1, h3]
          · simp -implicitDefEqProofs only [op, ef, cl, sq, reduceIte, Int.reduceLT, Int.reduceLE, Int.reduceBEq, Int.reduceBNe, Int.reduceEq, Nat.reduceAdd, Nat.reduceLeDiff, Nat.reduceLT, Nat.reduceEqDiff, S1, h9]
          · simp -implicitDefEqProofs only [op, ef, cl, sq, reduceIte, Int.reduceLT, Int.reduceLE, Int.reduceBEq, Int.reduceBNe, Int.reduceEq, Nat.reduceAdd, Nat.reduceLeDiff, Nat.reduceLT, Nat.reduceEqDiff, S1, h10]
          · simp -implicitDefEqProofs only [op, ef, cl, sq, reduceIte, Int.reduceLT, Int.reduceLE, Int.reduceBEq, Int.reduceBNe, Int.reduceEq, Nat.reduceAdd, Nat.reduceLeDiff, Nat.reduceLT, Nat.reduceEqDiff, S1]
          · rintro k R H2 ⟨⟨dx, hd, hsz, hk, hfr⟩, h0, h1, h2, h3, h9, h10, h12, hk1, hkb⟩
            have lc := glt hd
            by_cases hkk : k < b
            · simp -implicitDefEqProofs (maxSteps := 1000000) (disch := omega) only [natOf_nat, iadm, ldm1, ldm2, stm0, stm1, stm2, wA, wA1, wS, wS1, wM, S2, op, ef, cl, sq, reduceIte, Int.reduceLT, Int.reduceLE, Int.reduceBEq, Int.reduceBNe, Int.reduceEq, Nat.reduceAdd, Nat.reduceLeDiff, Nat.reduceLT, Nat.reduceEqDiff, S1, h0, h1, h2, h3, h9, h10, h12, hkk, hd, lc]
              refine b_vg _ _ _ _ _ _ _ (by simp -implicitDefEqProofs (maxSteps := 1000000) (disch := omega) only [natOf_nat, iadm, ldm1, ldm2, stm0, stm1, stm2, wA, wA1, wS, wS1, wM, S2, op, ef, cl, sq, reduceIte, Int.reduceLT, Int.reduceLE, Int.reduceBEq, Int.reduceBNe, Int.reduceEq, Nat.reduceAdd, Nat.reduceLeDiff, Nat.reduceLT, Nat.reduceEqDiff, S1, h0, h1, h2, h3, h9, h10, h12, hkk, hd, lc]) ?_
              simp -implicitDefEqProofs (maxSteps := 1000000) (disch := omega) only [natOf_nat, iadm, ldm1, ldm2, stm0, stm1, stm2, wA, wA1, wS, wS1, wM, S2, op, ef, cl, sq, reduceIte, Int.reduceLT, Int.reduceLE, Int.reduceBEq, Int.reduceBNe, Int.reduceEq, Nat.reduceAdd, Nat.reduceLeDiff, Nat.reduceLT, Nat.reduceEqDiff, S1, callvB, h0, h1, h2, h3, h9, h10, h12, hkk, hd, lc, List.append_nil]
              refine callB_of _ _ _ _ _ _ _ _ (byName36 dx[k]! dx[k - 1]! _) ?_
              rintro u H3 ⟨hu, hx⟩
              cases hu
              have hx : Ext H2 H3 := hx
              have hd := hx.get hd
              have lc := glt hd
              have hfr := hfr.trans (ext_frm (F := fun _ => False) hx) (fun _ h => h.elim)
              have lt1 : ltM dx[k]! dx[k - 1]! = decide (cmpM dx[k]! dx[k - 1]! < 0) := rfl
              rw [shiftUp, if_pos hkk] at hk
              by_cases c1 : cmpM dx[k]! dx[k - 1]! < 0
              · simp -implicitDefEqProofs (maxSteps := 1000000) (disch := omega) only [natOf_nat, iadm, ldm1, ldm2, stm0, stm1, stm2, wA, wA1, wS, wS1, wM, S2, op, ef, cl, sq, reduceIte, Int.reduceLT, Int.reduceLE, Int.reduceBEq, Int.reduceBNe, Int.reduceEq, Nat.reduceAdd, Nat.reduceLeDiff, Nat.reduceLT, Nat.reduceEqDiff, S1, h0, h1, h2, h3, h9, h10, h12, hkk, hd, lc, c1]
                rw [if_neg (not_t (lt1.trans (dect c1)))] at hk
                exact ⟨k + 1, by omega, .i (.swp hd (by rw [swp_size]; exact hsz) hk hfr), rfl, by omega, by omega⟩
              · simp -implicitDefEqProofs (maxSteps := 1000000) (disch := omega) only [natOf_nat, iadm, ldm1, ldm2, stm0, stm1, stm2, wA, wA1, wS, wS1, wM, S2, op, ef, cl, sq, reduceIte, Int.reduceLT, Int.reduceLE, Int.reduceBEq, Int.reduceBNe, Int.reduceEq, Nat.reduceAdd, Nat.reduceLeDiff, Nat.reduceLT, Nat.reduceEqDiff, S1, h0, h1, h2, h3, h9, h10, h12, hkk, hd, lc, c1]
                rw [if_pos (not_f (lt1.trans (decf c1)))] at hk
                exact .i ⟨dx, hd, hsz, hk, hfr⟩
            · simp -implicitDefEqProofs only [op, ef, cl, sq, reduceIte, Int.reduceLT, Int.reduceLE, Int.reduceBEq, Int.reduceBNe, Int.reduceEq, Nat.reduceAdd, Nat.reduceLeDiff, Nat.reduceLT, Nat.reduceEqDiff, S1, h0, h1, h2, h3, h9, h10, h12, hkk]
              rw [shiftUp, if_neg hkk] at hk
              exact .i ⟨dx, hd, hsz, hk, hfr⟩
          · rintro R H2 ⟨⟨dx, hd, hsz, rfl, hfr⟩, h0, h1, h2, h3, h9, h10⟩
            simp -implicitDefEqProofs (maxSteps := 1000000) (disch := omega) only [natOf_nat, iadm, ldm1, ldm2, stm0, stm1, stm2, wA, wA1, wS, wS1, wM, S2, op, ef, cl, sq, reduceIte, Int.reduceLT, Int.reduceLE, Int.reduceBEq, Int.reduceBNe, Int.reduceEq, Nat.reduceAdd, Nat.reduceLeDiff, Nat.reduceLT, Nat.reduceEqDiff, S1, h0, h1, h2, h3, h9, h10]
            exact ⟨j + 1, by omega, .i ⟨si, rfl, by omega, by omega, dx, hd, hsz, by rw [hs5']; exact hP, hfr⟩, rfl, by omega⟩
        · rw [if_neg hB] at hd4
          subst hd4
          simp -implicitDefEqProofs (maxSteps := 1000000) (disch := omega) only [natOf_nat, iadm, ldm1, ldm2, stm0, stm1, stm2, wA, wA1, wS, wS1, wM, S2, op, ef, cl, sq, reduceIte, Int.reduceLT, Int.reduceLE, Int.reduceBEq, Int.reduceBNe, Int.reduceEq, Nat.reduceAdd, Nat.reduceLeDiff, Nat.reduceLT, Nat.reduceEqDiff, S1, h0, h1, h2, h3, h9, h10, hB]
          exact ⟨j + 1, by omega, .i ⟨si, rfl, by omega, by omega, d4, hd, hsz3, by rw [hs5']; exact hP, hfr⟩, rfl, by omega⟩
  · rintro R H1 ⟨di, hd, hsz, hP, hfr⟩
    simp -implicitDefEqProofs only [op, ef, cl, sq, reduceIte, Int.reduceLT, Int.reduceLE, Int.reduceBEq, Int.reduceBNe, Int.reduceEq, Nat.reduceAdd, Nat.reduceLeDiff, Nat.reduceLT, Nat.reduceEqDiff, S1]
    rw [← hP]
    exact ⟨rfl, di, hd, hsz, rfl, hfr⟩
end Go.Proofs.Ytodegnhallgnkaa.St
end

section
namespace Go.Proofs.Ytodegnhallgnkaa.St
open Go.Rmp Go.Proofs.Ytodegnhallgnkaa.Ir
set_option maxRecDepth 10000
theorem ltM_iff (a b : Nm) : ltM a b = true ↔ strLt a.1 b.1 = true ∨ (a.1 = b.1 ∧ a.2 < b.2) := by
  unfold ltM cmpM or2 cmpS cmpN
  rw [decide_eq_true_eq]
  cases h1 : strLt a.1 b.1
  · cases h2 : strLt b.1 a.1
    · have e := lt_tri h1 h2
      simp -implicitDefEqProofs only [Bool.false_eq_true, if_false, if_true, false_or, e, true_and]
      split
      · simp [*]
      · split <;> simp [*]
    · have hne : a.1 ≠ b.1 := by intro e; rw [e, lt_irr] at h2; cases h2
      simp [hne]
  · simp
theorem ltM_irr (a : Nm) : ltM a a = false := by
  cases h : ltM a a with
  | false => rfl
  | true => rcases (ltM_iff a a).1 h with h | h; rw [lt_irr] at h; cases h; omega
theorem ltM_trans {a b c : Nm} (h1 : ltM a b = true) (h2 : ltM b c = true) : ltM a c = true := by
  rw [ltM_iff] at h1 h2 ⊢
  rcases h1 with h1 | ⟨e1, h1⟩ <;> rcases h2 with h2 | ⟨e2, h2⟩
  · exact .inl (lt_trans' h1 h2)
  · exact .inl (e2 ▸ h1)
  · exact .inl (e1 ▸ h2)
  · exact .inr ⟨e1.trans e2, by omega⟩
theorem ltM_tri {a b : Nm} (h1 : ltM a b = false) (h2 : ltM b a = false) : a = b := by
  have n1 : ¬ (strLt a.1 b.1 = true ∨ (a.1 = b.1 ∧ a.2 < b.2)) := fun h => by rw [(ltM_iff a b).2 h] at h1; cases h1
  have n2 : ¬ (strLt b.1 a.1 = true ∨ (b.1 = a.1 ∧ b.2 < a.2)) := fun h => by rw [(ltM_iff b a).2 h] at h2; cases h2
  have e1 : a.1 = b.1 := lt_tri (by cases h : strLt a.1 b.1 with | false => rfl | true => exact absurd (.inl h) n1) (by cases h : strLt b.1 a.1 with | false => rfl | true => exact absurd (.inl h) n2)
  have q1 : ¬ a.2 < b.2 := fun h => n1 (.inr ⟨e1, h⟩)
  have q2 : ¬ b.2 < a.2 := fun h => n2 (.inr ⟨e1.symm, h⟩)
  exact Prod.ext e1 (by omega)
theorem ltM_swo : Go.Sort.SWO ltM where
  irrefl := ltM_irr
  trans _ _ _ h1 h2 := ltM_trans h1 h2
  ntrans x y z h1 h2 := by
    cases h : ltM x z with
    | false => rfl
    | true =>
      cases h3 : ltM y x with
      | true => rw [ltM_trans h3 h] at h2; cases h2
      | false => have := ltM_tri h1 h3; subst this; rw [h] at h2; cases h2
theorem ins75e (H : Heap) : W env (.call 80 [.sl .nil [], .int .i64 0, .int .i64 0, .fn 40 []]) H (Ret (.tup []) H) := by
  refine W.fnI rfl rfl rfl ?_
  have wa : IntKind.i64.wrap ((0 : Int) + 1) = 1 := by decide
  simp -implicitDefEqProofs only [ir80, op, ef, cl, sq, reduceIte, Int.reduceLT, Int.reduceLE, Int.reduceBEq, Int.reduceBNe, Int.reduceEq, Nat.reduceAdd, Nat.reduceLeDiff, Nat.reduceLT, Nat.reduceEqDiff, S1, wa]
  refine W.loopI (fun (_ : Nat) R H' => H' = H ∧ R 2 = .int .i64 0 ∧ R 8 = .int .i64 1) (fun _ => 0) 0 ⟨rfl, rfl, rfl⟩ ?_
  rintro _ R _ ⟨rfl, h2, h8⟩
  have l0 : ¬ ((1 : Int) < 0) := by decide
  simp -implicitDefEqProofs only [op, ef, cl, sq, reduceIte, Int.reduceLT, Int.reduceLE, Int.reduceBEq, Int.reduceBNe, Int.reduceEq, Nat.reduceAdd, Nat.reduceLeDiff, Nat.reduceLT, Nat.reduceEqDiff, S1, h2, h8, l0]
  trivial
theorem pdqE (m : Nat) (H : Heap) : W env (.call 69 [.sl .nil [], .int .i64 0, .int .i64 0, .int .i64 m, .fn 40 []]) H (Ret (.tup []) H) := by
  refine W.fnI rfl rfl rfl ?_
  have w1 : IntKind.i64.wrap ((0 : Int) - 0) = 0 := by decide
  simp -implicitDefEqProofs only [ir69, op, ef, cl, sq, reduceIte, Int.reduceLT, Int.reduceLE, Int.reduceBEq, Int.reduceBNe, Int.reduceEq, Nat.reduceAdd, Nat.reduceLeDiff, Nat.reduceLT, Nat.reduceEqDiff, S1]
  refine W.loopI (fun (_ : Nat) R H' => H' = H ∧ R 0 = .sl .nil [] ∧ R 1 = .int .i64 0 ∧ R 2 = .int .i64 0 ∧ R 4 = .fn 40 []) (fun _ => 0) 0 ⟨rfl, rfl, rfl, rfl, rfl⟩ ?_
  rintro _ R _ ⟨rfl, h0, h1, h2, h4⟩
  have l0 : (0 : Int) ≤ 12 := by decide
  simp -implicitDefEqProofs only [op, ef, cl, sq, reduceIte, Int.reduceLT, Int.reduceLE, Int.reduceBEq, Int.reduceBNe, Int.reduceEq, Nat.reduceAdd, Nat.reduceLeDiff, Nat.reduceLT, Nat.reduceEqDiff, S1, h0, h1, h2, h4, w1, l0]
  refine callB_of _ _ _ _ _ _ _ _ (ins75e _) ?_
  rintro u H2 ⟨hu, rfl⟩
  cases hu
  simp -implicitDefEqProofs only [op, ef, cl, sq, reduceIte, Int.reduceLT, Int.reduceLE, Int.reduceBEq, Int.reduceBNe, Int.reduceEq, Nat.reduceAdd, Nat.reduceLeDiff, Nat.reduceLT, Nat.reduceEqDiff, S1]
  trivial
theorem sortE (H : Heap) : W env (.call 51 [.sl .nil [], .fn 40 []]) H (Ret (.tup []) H) := by
  refine W.fnI rfl rfl rfl ?_
  have w1 : IntKind.u64.wrap ((0 : Nat) : Int) = ((0 : Nat) : Int) := by decide
  have e0 : ((0 : Nat) : Int) = 0 := rfl
  simp -implicitDefEqProofs only [ir51, op, ef, cl, sq, reduceIte, Int.reduceLT, Int.reduceLE, Int.reduceBEq, Int.reduceBNe, Int.reduceEq, Nat.reduceAdd, Nat.reduceLeDiff, Nat.reduceLT, Nat.reduceEqDiff, S1, w1]
  refine callB_of _ _ _ _ _ _ _ _ (lenN 0 (by omega) _) ?_
  rintro u H1 ⟨rfl, m, hu⟩
  cases hu
  simp -implicitDefEqProofs only [op, ef, cl, sq, reduceIte, Int.reduceLT, Int.reduceLE, Int.reduceBEq, Int.reduceBNe, Int.reduceEq, Nat.reduceAdd, Nat.reduceLeDiff, Nat.reduceLT, Nat.reduceEqDiff, S1, e0]
  refine callB_of _ _ _ _ _ _ _ _ (pdqE m _) ?_
  rintro u H2 ⟨hu, rfl⟩
  cases hu
  simp -implicitDefEqProofs only [op, ef, cl, sq, reduceIte, Int.reduceLT, Int.reduceLE, Int.reduceBEq, Int.reduceBNe, Int.reduceEq, Nat.reduceAdd, Nat.reduceLeDiff, Nat.reduceLT, Nat.reduceEqDiff, S1]
  trivial
def SortQ (es : List (Nm × T)) (H : Heap) : Out → Heap → Prop := fun o H' => Ext H H' ∧ ∃ t l, o = .val t ∧ Mut eN 2 H.length H' t l ∧ l.Perm (es.map (·.1)) ∧ l.Pairwise (fun a b => ltM a b = true)
end Go.Proofs.Ytodegnhallgnkaa.St
end

section
namespace Go.Proofs.Ytodegnhallgnkaa.St
open Go.Rmp Go.Proofs.Ytodegnhallgnkaa.Ir
set_option maxRecDepth 10000
set_option maxHeartbeats 8000000
def bkOf : C → Nat → Option C
  | .block id a, n => if id = n then some a else bkOf a n
  | .seq a b, n => match bkOf a n with | some c => some c | .none => bkOf b n
  | .cond _ a b, n => match bkOf a n with | some c => some c | .none => bkOf b n
  | .loop a, n => bkOf a n
  | _, _ => .none
def seqN : C → Nat → C
  | .seq a _, 0 => a
  | .seq _ b, k + 1 => seqN b k
  | c, _ => c
structure PR (R : Regs) (c n a b lim : Nat) (wb wp : Bool) : Prop where
  r0 : R 0 = .msl c 0 n 2
  r1 : R 1 = .int .i64 a
  r2 : R 2 = .int .i64 b
  r3 : R 3 = .int .i64 lim
  r4 : R 4 = .fn 40 []
  r10 : R 10 = .bool wb
  r11 : R 11 = .bool wp
  r12 : R 12 = .int .i64 (b - a : Nat)
open Go.Sort in
theorem seg3 (A : C) (hA : (bkOf ir69.body 1).map (seqN · 3) = some A) (c n a b lim : Nat) (wb wp : Bool) (d : Array Nm) (R : Regs) (H0 H : Heap) (K : Out → Heap → Prop) (hp : PR R c n a b lim wb wp) (hd : SC c n H0 (fun x => x = d) H) (hb : b ≤ n) (hab : a + 12 < b) (hs : n < 16777216) (hl : 1 ≤ lim ∧ lim < 1000)
    (rest : ∀ R' H', PR R' c n a b (if (!wb) = true then lim - 1 else lim) wb wp → SC c n H0 (fun x => x = if (!wb) = true then breakPatterns d a b else d) H' → K (.ex .normal R') H') : wpC env A R H K := by
  simp [ir69, bkOf, seqN, sq] at hA
  subst hA
  obtain ⟨h0, h1, h2, h3, h4, h10, h11, h12⟩ := hp
  obtain ⟨di, hc, hn, rfl, hfr⟩ := hd
  cases wb with
  | true =>
    simp -implicitDefEqProofs (maxSteps := 1000000) (disch := omega) only [op, ef, cl, sq, reduceIte, Int.reduceLT, Int.reduceLE, Int.reduceBEq, Int.reduceBNe, Int.reduceEq, Nat.reduceAdd, Nat.reduceLeDiff, Nat.reduceLT, Nat.reduceEqDiff, S1, h0, h1, h2, h3, h4, h10, h11, h12]
    exact rest _ _ ⟨by simp -implicitDefEqProofs only [op, ef, cl, sq, reduceIte, Int.reduceLT, Int.reduceLE, Int.reduceBEq, Int.reduceBNe, Int.reduceEq, Nat.reduceAdd, Nat.reduceLeDiff, Nat.reduceLT, Nat.reduceEqDiff, S1, h0], by simp -implicitDefEqProofs only [op, ef, cl, sq, reduceIte, Int.reduceLT, Int.reduceLE, Int.reduceBEq, Int.reduceBNe, Int.reduceEq, Nat.reduceAdd, Nat.reduceLeDiff, Nat.reduceLT, Nat.reduceEqDiff, S1, h1], by simp -implicitDefEqProofs only [op, ef, cl, sq, reduceIte, Int.reduceLT, Int.reduceLE, Int.reduceBEq, Int.reduceBNe, Int.reduceEq, Nat.reduceAdd, Nat.reduceLeDiff, Nat.reduceLT, Nat.reduceEqDiff, S1, h2], by simp -implicitDefEqProofs only [op, ef, cl, sq, reduceIte, Int.reduceLT, Int.reduceLE, Int.reduceBEq, Int.reduceBNe, Int.reduceEq, Nat.reduceAdd, Nat.reduceLeDiff, Nat.reduceLT, Nat.reduceEqDiff, S1, h3], by simp -implicitDefEqProofs only [op, ef, cl, sq, reduceIte, Int.reduceLT, Int.reduceLE, Int.reduceBEq, Int.reduceBNe, Int.reduceEq, Nat.reduceAdd, Nat.reduceLeDiff, Nat.reduceLT, Nat.reduceEqDiff, S1, h4], by simp -implicitDefEqProofs only [op, ef, cl, sq, reduceIte, Int.reduceLT, Int.reduceLE, Int.reduceBEq, Int.reduceBNe, Int.reduceEq, Nat.reduceAdd, Nat.reduceLeDiff, Nat.reduceLT, Nat.reduceEqDiff, S1, h10], by simp -implicitDefEqProofs only [op, ef, cl, sq, reduceIte, Int.reduceLT, Int.reduceLE, Int.reduceBEq, Int.reduceBNe, Int.reduceEq, Nat.reduceAdd, Nat.reduceLeDiff, Nat.reduceLT, Nat.reduceEqDiff, S1, h11], by simp -implicitDefEqProofs only [op, ef, cl, sq, reduceIte, Int.reduceLT, Int.reduceLE, Int.reduceBEq, Int.reduceBNe, Int.reduceEq, Nat.reduceAdd, Nat.reduceLeDiff, Nat.reduceLT, Nat.reduceEqDiff, S1, h12]⟩ ⟨di, hc, hn, rfl, hfr⟩
  | false =>
    simp -implicitDefEqProofs (maxSteps := 1000000) (disch := omega) only [op, ef, cl, sq, reduceIte, Int.reduceLT, Int.reduceLE, Int.reduceBEq, Int.reduceBNe, Int.reduceEq, Nat.reduceAdd, Nat.reduceLeDiff, Nat.reduceLT, Nat.reduceEqDiff, S1, h0, h1, h2, h3, h4, h10, h11, h12]
    refine callB_of _ _ _ _ _ _ _ _ (break77 c n di a b _ hn hc hb hab hs) ?_
    rintro u H2 ⟨hu, d2, hd2, hs2, e2, hf2⟩
    cases hu
    simp -implicitDefEqProofs (maxSteps := 1000000) (disch := omega) only [natOf_nat, iadm, ldm1, ldm2, stm0, stm1, stm2, wA, wA1, wS, wS1, wM, S2, op, ef, cl, sq, reduceIte, Int.reduceLT, Int.reduceLE, Int.reduceBEq, Int.reduceBNe, Int.reduceEq, Nat.reduceAdd, Nat.reduceLeDiff, Nat.reduceLT, Nat.reduceEqDiff, S1, h0, h1, h2, h3, h4, h10, h11, h12]
    exact rest _ _ ⟨by simp -implicitDefEqProofs only [op, ef, cl, sq, reduceIte, Int.reduceLT, Int.reduceLE, Int.reduceBEq, Int.reduceBNe, Int.reduceEq, Nat.reduceAdd, Nat.reduceLeDiff, Nat.reduceLT, Nat.reduceEqDiff, S1, h0], by simp -implicitDefEqProofs only [op, ef, cl, sq, reduceIte, Int.reduceLT, Int.reduceLE, Int.reduceBEq, Int.reduceBNe, Int.reduceEq, Nat.reduceAdd, Nat.reduceLeDiff, Nat.reduceLT, Nat.reduceEqDiff, S1, h1], by simp -implicitDefEqProofs only [op, ef, cl, sq, reduceIte, Int.reduceLT, Int.reduceLE, Int.reduceBEq, Int.reduceBNe, Int.reduceEq, Nat.reduceAdd, Nat.reduceLeDiff, Nat.reduceLT, Nat.reduceEqDiff, S1, h2], by simp -implicitDefEqProofs only [op, ef, cl, sq, reduceIte, Int.reduceLT, Int.reduceLE, Int.reduceBEq, Int.reduceBNe, Int.reduceEq, Nat.reduceAdd, Nat.reduceLeDiff, Nat.reduceLT, Nat.reduceEqDiff, S1], by simp -implicitDefEqProofs only [op, ef, cl, sq, reduceIte, Int.reduceLT, Int.reduceLE, Int.reduceBEq, Int.reduceBNe, Int.reduceEq, Nat.reduceAdd, Nat.reduceLeDiff, Nat.reduceLT, Nat.reduceEqDiff, S1, h4], by simp -implicitDefEqProofs only [op, ef, cl, sq, reduceIte, Int.reduceLT, Int.reduceLE, Int.reduceBEq, Int.reduceBNe, Int.reduceEq, Nat.reduceAdd, Nat.reduceLeDiff, Nat.reduceLT, Nat.reduceEqDiff, S1, h10], by simp -implicitDefEqProofs only [op, ef, cl, sq, reduceIte, Int.reduceLT, Int.reduceLE, Int.reduceBEq, Int.reduceBNe, Int.reduceEq, Nat.reduceAdd, Nat.reduceLeDiff, Nat.reduceLT, Nat.reduceEqDiff, S1, h11], by simp -implicitDefEqProofs only [op, ef, cl, sq, reduceIte, Int.reduceLT, Int.reduceLE, Int.reduceBEq, Int.reduceBNe, Int.reduceEq, Nat.reduceAdd, Nat.reduceLeDiff, Nat.reduceLT, Nat.reduceEqDiff, S1, h12]⟩ ⟨d2, hd2, hs2, e2, hfr.trans hf2 fun _ h => .inl h⟩
open Go.Sort in
theorem seg5 (A : C) (hA : (bkOf ir69.body 1).map (seqN · 5) = some A) (c n a b lim : Nat) (wb wp : Bool) (d : Array Nm) (pv : Nat) (hi : Hint) (R : Regs) (H0 H : Heap) (K : Out → Heap → Prop) (hp : PR R c n a b lim wb wp) (h13 : R 13 = .int .i64 pv) (h14 : R 14 = .int .i64 (hintN hi)) (hd : SC c n H0 (fun x => x = d) H) (hb : b ≤ n) (hab : a + 12 < b) (hs : n < 16777216) (hpv : a ≤ pv ∧ pv < b)
    (rest : ∀ R' H', PR R' c n a b lim wb wp → R' 13 = .int .i64 (if hi = .decreasing then (b - 1) - (pv - a) else pv : Nat) → R' 14 = .int .i64 (hintN (if hi = .decreasing then Hint.increasing else hi)) → SC c n H0 (fun x => x = if hi = .decreasing then reverseRange d a b else d) H' → K (.ex .normal R') H') : wpC env A R H K := by
  simp [ir69, bkOf, seqN, sq] at hA
  subst hA
  obtain ⟨h0, h1, h2, h3, h4, h10, h11, h12⟩ := hp
  obtain ⟨di, hc, hn, rfl, hfr⟩ := hd
  have e : ((hintN hi) == 2) = decide (hi = .decreasing) := by cases hi <;> decide
  by_cases hh : hi = .decreasing
  · rw [decide_eq_true hh] at e
    simp -implicitDefEqProofs (maxSteps := 1000000) (disch := omega) only [op, ef, cl, sq, reduceIte, Int.reduceLT, Int.reduceLE, Int.reduceBEq, Int.reduceBNe, Int.reduceEq, Nat.reduceAdd, Nat.reduceLeDiff, Nat.reduceLT, Nat.reduceEqDiff, S1, h0, h1, h2, h3, h4, h10, h11, h12, h13, h14, e]
    refine callB_of _ _ _ _ _ _ _ _ (rev79 c n di a b _ hn hc hb (by omega) (by omega)) ?_
    rintro u H2 ⟨hu, d2, hd2, hs2, e2, hf2⟩
    cases hu
    simp -implicitDefEqProofs (maxSteps := 1000000) (disch := omega) only [natOf_nat, iadm, ldm1, ldm2, stm0, stm1, stm2, wA, wA1, wS, wS1, wM, S2, op, ef, cl, sq, reduceIte, Int.reduceLT, Int.reduceLE, Int.reduceBEq, Int.reduceBNe, Int.reduceEq, Nat.reduceAdd, Nat.reduceLeDiff, Nat.reduceLT, Nat.reduceEqDiff, S1, h0, h1, h2, h3, h4, h10, h11, h12, h13, h14]
    refine rest _ _ ⟨?_, ?_, ?_, ?_, ?_, ?_, ?_, ?_⟩ ?_ ?_ ⟨d2, hd2, hs2, ?_, hfr.trans hf2 fun _ h => .inl h⟩
    all_goals simp -implicitDefEqProofs only [op, ef, cl, sq, reduceIte, Int.reduceLT, Int.reduceLE, Int.reduceBEq, Int.reduceBNe, Int.reduceEq, Nat.reduceAdd, Nat.reduceLeDiff, Nat.reduceLT, Nat.reduceEqDiff, S1, h0, h1, h2, h3, h4, h10, h11, h12, if_pos hh, hintN]
    exact e2
  · rw [decide_eq_false hh] at e
    simp -implicitDefEqProofs (maxSteps := 1000000) (disch := omega) only [op, ef, cl, sq, reduceIte, Int.reduceLT, Int.reduceLE, Int.reduceBEq, Int.reduceBNe, Int.reduceEq, Nat.reduceAdd, Nat.reduceLeDiff, Nat.reduceLT, Nat.reduceEqDiff, S1, h0, h1, h2, h3, h4, h10, h11, h12, h13, h14, e]
    refine rest _ _ ⟨?_, ?_, ?_, ?_, ?_, ?_, ?_, ?_⟩ ?_ ?_ ⟨di, hc, hn, ?_, hfr⟩
    all_goals simp -implicitDefEqProofs only [op, ef, cl, sq, reduceIte, Int.reduceLT, Int.reduceLE, Int.reduceBEq, Int.reduceBNe, Int.reduceEq, Nat.reduceAdd, Nat.reduceLeDiff, Nat.reduceLT, Nat.reduceEqDiff, S1, h0, h1, h2, h3, h4, h10, h11, h12, h13, h14, if_neg hh]
open Go.Sort in
theorem seg6 (A : C) (hA : (bkOf ir69.body 1).map (seqN · 6) = some A) (c n a b lim : Nat) (wb wp : Bool) (d : Array Nm) (pv : Nat) (hi : Hint) (R : Regs) (H0 H : Heap) (K : Out → Heap → Prop) (hp : PR R c n a b lim wb wp) (h13 : R 13 = .int .i64 pv) (h14 : R 14 = .int .i64 (hintN hi)) (hd : SC c n H0 (fun x => x = d) H) (hb : b ≤ n) (hab : a + 12 < b) (hs : n < 16777216)
    (pi : Array Nm × Bool) (hpi : pi = if (wb && wp && hi = .increasing) = true then partialInsertionSort ltM d a b else (d, false))
    (rest1 : ∀ R' H', pi.2 = true → SC c n H0 (fun x => x = pi.1) H' → K (.ex .ret R') H')
    (rest2 : ∀ R' H', pi.2 = false → PR R' c n a b lim wb wp → R' 13 = .int .i64 pv → SC c n H0 (fun x => x = pi.1) H' → K (.ex .normal R') H') : wpC env A R H K := by
  simp [ir69, bkOf, seqN, sq] at hA
  subst hA
  obtain ⟨h0, h1, h2, h3, h4, h10, h11, h12⟩ := hp
  obtain ⟨di, hc, hn, rfl, hfr⟩ := hd
  have e : ((hintN hi) == 1) = decide (hi = .increasing) := by cases hi <;> decide
  have no : (wb && wp && decide (hi = .increasing)) = false → ∀ R', PR R' c n a b lim wb wp → R' 13 = .int .i64 pv → K (.ex .normal R') H := fun h R' q q' => rest2 R' H (by rw [hpi, h]; rfl) q q' ⟨di, hc, hn, by rw [hpi, h]; rfl, hfr⟩
  cases wb with
  | false =>
    simp -implicitDefEqProofs only [op, ef, cl, sq, reduceIte, Int.reduceLT, Int.reduceLE, Int.reduceBEq, Int.reduceBNe, Int.reduceEq, Nat.reduceAdd, Nat.reduceLeDiff, Nat.reduceLT, Nat.reduceEqDiff, S1, h0, h1, h2, h3, h4, h10, h11, h12, h13, h14]
    refine no rfl _ ⟨?_, ?_, ?_, ?_, ?_, ?_, ?_, ?_⟩ ?_
    all_goals simp -implicitDefEqProofs only [op, ef, cl, sq, reduceIte, Int.reduceLT, Int.reduceLE, Int.reduceBEq, Int.reduceBNe, Int.reduceEq, Nat.reduceAdd, Nat.reduceLeDiff, Nat.reduceLT, Nat.reduceEqDiff, S1, h0, h1, h2, h3, h4, h10, h11, h12, h13]
  | true =>
    cases wp with
    | false =>
      simp -implicitDefEqProofs only [op, ef, cl, sq, reduceIte, Int.reduceLT, Int.reduceLE, Int.reduceBEq, Int.reduceBNe, Int.reduceEq, Nat.reduceAdd, Nat.reduceLeDiff, Nat.reduceLT, Nat.reduceEqDiff, S1, h0, h1, h2, h3, h4, h10, h11, h12, h13, h14]
      refine no rfl _ ⟨?_, ?_, ?_, ?_, ?_, ?_, ?_, ?_⟩ ?_
      all_goals simp -implicitDefEqProofs only [op, ef, cl, sq, reduceIte, Int.reduceLT, Int.reduceLE, Int.reduceBEq, Int.reduceBNe, Int.reduceEq, Nat.reduceAdd, Nat.reduceLeDiff, Nat.reduceLT, Nat.reduceEqDiff, S1, h0, h1, h2, h3, h4, h10, h11, h12, h13]
    | true =>
      by_cases hh : hi = .increasing
      · rw [decide_eq_true hh] at e
        rw [decide_eq_true hh] at hpi
        simp -implicitDefEqProofs only [op, ef, cl, sq, reduceIte, Int.reduceLT, Int.reduceLE, Int.reduceBEq, Int.reduceBNe, Int.reduceEq, Nat.reduceAdd, Nat.reduceLeDiff, Nat.reduceLT, Nat.reduceEqDiff, S1, h0, h1, h2, h3, h4, h10, h11, h12, h13, h14, e]
        refine callB_of _ _ _ _ _ _ _ _ (pins80 c n di a b _ hn hc hb (by omega) (by omega)) ?_
        rintro u H2 ⟨hu, d2, hd2, hs2, e2, hf2⟩
        cases hu
        rw [if_pos (show (true && true && true) = true from rfl)] at hpi
        rw [← hpi] at e2 ⊢
        cases hb2 : pi.2 with
        | true =>
          simp -implicitDefEqProofs only [op, ef, cl, sq, reduceIte, Int.reduceLT, Int.reduceLE, Int.reduceBEq, Int.reduceBNe, Int.reduceEq, Nat.reduceAdd, Nat.reduceLeDiff, Nat.reduceLT, Nat.reduceEqDiff, S1]
          exact rest1 _ _ hb2 ⟨d2, hd2, hs2, e2, hfr.trans hf2 fun _ h => .inl h⟩
        | false =>
          simp -implicitDefEqProofs only [op, ef, cl, sq, reduceIte, Int.reduceLT, Int.reduceLE, Int.reduceBEq, Int.reduceBNe, Int.reduceEq, Nat.reduceAdd, Nat.reduceLeDiff, Nat.reduceLT, Nat.reduceEqDiff, S1]
          refine rest2 _ _ hb2 ⟨?_, ?_, ?_, ?_, ?_, ?_, ?_, ?_⟩ ?_ ⟨d2, hd2, hs2, e2, hfr.trans hf2 fun _ h => .inl h⟩
          all_goals simp -implicitDefEqProofs only [op, ef, cl, sq, reduceIte, Int.reduceLT, Int.reduceLE, Int.reduceBEq, Int.reduceBNe, Int.reduceEq, Nat.reduceAdd, Nat.reduceLeDiff, Nat.reduceLT, Nat.reduceEqDiff, S1, h0, h1, h2, h3, h4, h10, h11, h12, h13]
      · rw [decide_eq_false hh] at e
        simp -implicitDefEqProofs only [op, ef, cl, sq, reduceIte, Int.reduceLT, Int.reduceLE, Int.reduceBEq, Int.reduceBNe, Int.reduceEq, Nat.reduceAdd, Nat.reduceLeDiff, Nat.reduceLT, Nat.reduceEqDiff, S1, h0, h1, h2, h3, h4, h10, h11, h12, h13, h14, e]
        refine no (by rw [decide_eq_false hh]; rfl) _ ⟨?_, ?_, ?_, ?_, ?_, ?_, ?_, ?_⟩ ?_
        all_goals simp -implicitDefEqProofs only [op, ef, cl, sq, reduceIte, Int.reduceLT, Int.reduceLE, Int.reduceBEq, Int.reduceBNe, Int.reduceEq, Nat.reduceAdd, Nat.reduceLeDiff, Nat.reduceLT, Nat.reduceEqDiff, S1, h0, h1, h2, h3, h4, h10, h11, h12, h13]
open Go.Sort in
theorem seg7 (A : C) (hA : (bkOf ir69.body 1).map (seqN · 7) = some A) (c n a b lim : Nat) (wb wp : Bool) (d : Array Nm) (pv : Nat) (R : Regs) (H0 H : Heap) (K : Out → Heap → Prop) (hp : PR R c n a b lim wb wp) (h13 : R 13 = .int .i64 pv) (hd : SC c n H0 (fun x => x = d) H) (hb : b ≤ n) (hab : a + 12 < b) (hs : n < 16777216) (hpv : a ≤ pv ∧ pv < b)
    (rest1 : ∀ R' H', (a > 0 && !ltM d[a - 1]! d[pv]!) = true → R' 0 = .msl c 0 n 2 → R' 1 = .int .i64 (partitionEqual ltM d a b pv).1 → R' 2 = .int .i64 b → R' 3 = .int .i64 lim → R' 4 = .fn 40 [] → R' 10 = .bool wb → R' 11 = .bool wp → SC c n H0 (fun x => x = (partitionEqual ltM d a b pv).2) H' → K (.ex (.exit 1) R') H')
    (rest2 : ∀ R' H', (a > 0 && !ltM d[a - 1]! d[pv]!) = false → PR R' c n a b lim wb wp → R' 13 = .int .i64 pv → SC c n H0 (fun x => x = d) H' → K (.ex .normal R') H') : wpC env A R H K := by
  simp [ir69, bkOf, seqN, sq] at hA
  subst hA
  obtain ⟨h0, h1, h2, h3, h4, h10, h11, h12⟩ := hp
  obtain ⟨di, hd, hn, rfl, hfr⟩ := hd
  have lc := glt hd
  by_cases ha : 0 < a
  · simp -implicitDefEqProofs (maxSteps := 1000000) (disch := omega) only [natOf_nat, iadm, ldm1, ldm2, stm0, stm1, stm2, wA, wA1, wS, wS1, wM, S2, op, ef, cl, sq, reduceIte, Int.reduceLT, Int.reduceLE, Int.reduceBEq, Int.reduceBNe, Int.reduceEq, Nat.reduceAdd, Nat.reduceLeDiff, Nat.reduceLT, Nat.reduceEqDiff, S1, h0, h1, h2, h3, h4, h10, h11, h12, h13, ha, hd, lc]
    refine b_vg _ _ _ _ _ _ _ (by simp -implicitDefEqProofs (maxSteps := 1000000) (disch := omega) only [natOf_nat, iadm, ldm1, ldm2, stm0, stm1, stm2, wA, wA1, wS, wS1, wM, S2, op, ef, cl, sq, reduceIte, Int.reduceLT, Int.reduceLE, Int.reduceBEq, Int.reduceBNe, Int.reduceEq, Nat.reduceAdd, Nat.reduceLeDiff, Nat.reduceLT, Nat.reduceEqDiff, S1, h0, h1, h2, h3, h4, h10, h11, h12, h13, ha, hd, lc]) ?_
    simp -implicitDefEqProofs (maxSteps := 1000000) (disch := omega) only [natOf_nat, iadm, ldm1, ldm2, stm0, stm1, stm2, wA, wA1, wS, wS1, wM, S2, op, ef, cl, sq, reduceIte, Int.reduceLT, Int.reduceLE, Int.reduceBEq, Int.reduceBNe, Int.reduceEq, Nat.reduceAdd, Nat.reduceLeDiff, Nat.reduceLT, Nat.reduceEqDiff, S1, callvB, h0, h1, h2, h3, h4, h10, h11, h12, h13, ha, hd, lc, List.append_nil]
    refine callB_of _ _ _ _ _ _ _ _ (byName36 di[a - 1]! di[pv]! _) ?_
    rintro u H3 ⟨hu, hx⟩
    cases hu
    have hx : Ext H H3 := hx
    have hd := hx.get hd
    have lc := glt hd
    have hfr := hfr.trans (ext_frm (F := fun _ => False) hx) (fun _ h => h.elim)
    have lt1 : ltM di[a - 1]! di[pv]! = decide (cmpM di[a - 1]! di[pv]! < 0) := rfl
    by_cases c1 : cmpM di[a - 1]! di[pv]! < 0
    · simp -implicitDefEqProofs (maxSteps := 1000000) (disch := omega) only [natOf_nat, iadm, ldm1, ldm2, stm0, stm1, stm2, wA, wA1, wS, wS1, wM, S2, op, ef, cl, sq, reduceIte, Int.reduceLT, Int.reduceLE, Int.reduceBEq, Int.reduceBNe, Int.reduceEq, Nat.reduceAdd, Nat.reduceLeDiff, Nat.reduceLT, Nat.reduceEqDiff, S1, h0, h1, h2, h3, h4, h10, h11, h12, h13, ha, hd, lc, c1]
      refine rest2 _ _ (by rw [lt1, dect c1]; simp) ⟨?_, ?_, ?_, ?_, ?_, ?_, ?_, ?_⟩ ?_ ⟨di, hd, hn, rfl, hfr⟩
      all_goals simp -implicitDefEqProofs only [op, ef, cl, sq, reduceIte, Int.reduceLT, Int.reduceLE, Int.reduceBEq, Int.reduceBNe, Int.reduceEq, Nat.reduceAdd, Nat.reduceLeDiff, Nat.reduceLT, Nat.reduceEqDiff, S1, h0, h1, h2, h3, h4, h10, h11, h12, h13]
    · simp -implicitDefEqProofs (maxSteps := 1000000) (disch := omega) only [natOf_nat, iadm, ldm1, ldm2, stm0, stm1, stm2, wA, wA1, wS, wS1, wM, S2, op, ef, cl, sq, reduceIte, Int.reduceLT, Int.reduceLE, Int.reduceBEq, Int.reduceBNe, Int.reduceEq, Nat.reduceAdd, Nat.reduceLeDiff, Nat.reduceLT, Nat.reduceEqDiff, S1, h0, h1, h2, h3, h4, h10, h11, h12, h13, ha, hd, lc, c1]
      refine callB_of _ _ _ _ _ _ _ _ (peq81 c n di a b pv _ hn hd hb (by omega) (by omega) (by omega)) ?_
      rintro u H4 ⟨hu, d2, hd2, hs2, e2, hf2⟩
      cases hu
      simp -implicitDefEqProofs only [op, ef, cl, sq, reduceIte, Int.reduceLT, Int.reduceLE, Int.reduceBEq, Int.reduceBNe, Int.reduceEq, Nat.reduceAdd, Nat.reduceLeDiff, Nat.reduceLT, Nat.reduceEqDiff, S1]
      refine rest1 _ _ (by rw [lt1, decf c1]; simp; exact ha) ?_ ?_ ?_ ?_ ?_ ?_ ?_ ⟨d2, hd2, hs2, e2, hfr.trans hf2 fun _ h => .inl h⟩
      all_goals simp -implicitDefEqProofs only [op, ef, cl, sq, reduceIte, Int.reduceLT, Int.reduceLE, Int.reduceBEq, Int.reduceBNe, Int.reduceEq, Nat.reduceAdd, Nat.reduceLeDiff, Nat.reduceLT, Nat.reduceEqDiff, S1, h0, h1, h2, h3, h4, h10, h11, h12, h13]
  · simp -implicitDefEqProofs only [op, ef, cl, sq, reduceIte, Int.reduceLT, Int.reduceLE, Int.reduceBEq, Int.reduceBNe, Int.reduceEq, Nat.reduceAdd, Nat.reduceLeDiff, Nat.reduceLT, Nat.reduceEqDiff, S1, h0, h1, h2, h3, h4, h10, h11, h12, h13, ha]
    refine rest2 _ _ (by rw [decide_eq_false ha]; rfl) ⟨?_, ?_, ?_, ?_, ?_, ?_, ?_, ?_⟩ ?_ ⟨di, hd, hn, rfl, hfr⟩
    all_goals simp -implicitDefEqProofs only [op, ef, cl, sq, reduceIte, Int.reduceLT, Int.reduceLE, Int.reduceBEq, Int.reduceBNe, Int.reduceEq, Nat.reduceAdd, Nat.reduceLeDiff, Nat.reduceLT, Nat.reduceEqDiff, S1, h0, h1, h2, h3, h4, h10, h11, h12, h13]
end Go.Proofs.Ytodegnhallgnkaa.St
end

section
namespace Go.Proofs.Ytodegnhallgnkaa.St
open Go.Rmp Go.Proofs.Ytodegnhallgnkaa.Ir
set_option maxRecDepth 10000
set_option maxHeartbeats 8000000
def seqT : C → Nat → C
  | c, 0 => c
  | .seq _ b, k + 1 => seqT b k
  | c, _ => c
open Go.Sort in
theorem pdq_step {d d1 d2 : Array Nm} {a b lim lim1 pv : Nat} {wb wp : Bool} {cp : Nat × Hint} {hi : Hint} {pi : Array Nm × Bool} (h12 : ¬ b - a ≤ 12) (hl : ¬ lim = 0)
    (e1 : d1 = if (!wb) = true then breakPatterns d a b else d) (el : lim1 = if (!wb) = true then lim - 1 else lim) (ec : cp = choosePivot ltM d1 a b) (e2 : d2 = if cp.2 = .decreasing then reverseRange d1 a b else d1)
    (ep : pv = if cp.2 = .decreasing then (b - 1) - (cp.1 - a) else cp.1) (eh : hi = if cp.2 = .decreasing then .increasing else cp.2) (epi : pi = if (wb && wp && hi = .increasing) = true then partialInsertionSort ltM d2 a b else (d2, false)) :
    pdq ltM d a b lim wb wp = if pi.2 = true then pi.1 else if (a > 0 && !ltM pi.1[a - 1]! pi.1[pv]!) = true then (if a < (partitionEqual ltM pi.1 a b pv).1 ∧ (partitionEqual ltM pi.1 a b pv).1 ≤ b then pdq ltM (partitionEqual ltM pi.1 a b pv).2 (partitionEqual ltM pi.1 a b pv).1 b lim1 wb wp else (partitionEqual ltM pi.1 a b pv).2)
      else (if a ≤ (partition ltM pi.1 a b pv).1 ∧ (partition ltM pi.1 a b pv).1 < b then if (partition ltM pi.1 a b pv).1 - a < b - (partition ltM pi.1 a b pv).1 then pdq ltM (pdq ltM (partition ltM pi.1 a b pv).2.2 a (partition ltM pi.1 a b pv).1 lim1 true true) ((partition ltM pi.1 a b pv).1 + 1) b lim1 (decide ((partition ltM pi.1 a b pv).1 - a ≥ (b - a) / 8)) (partition ltM pi.1 a b pv).2.1
        else pdq ltM (pdq ltM (partition ltM pi.1 a b pv).2.2 ((partition ltM pi.1 a b pv).1 + 1) b lim1 true true) a (partition ltM pi.1 a b pv).1 lim1 (decide (b - (partition ltM pi.1 a b pv).1 ≥ (b - a) / 8)) (partition ltM pi.1 a b pv).2.1 else (partition ltM pi.1 a b pv).2.2) := by
  subst epi eh ep e2 ec el e1
  rw [pdq, if_neg h12, if_neg hl]
  rfl
open Go.Sort in
theorem peq_range (d : Array Nm) {a b pv : Nat} (h1 : a ≤ pv) (h2 : pv < b) (hb : b ≤ d.size) : a < (partitionEqual ltM d a b pv).1 ∧ (partitionEqual ltM d a b pv).1 ≤ b := by
  have := partEqLoop_spec (lt := ltM) a b b (a + 1) (b - 1) (swp d a pv) (by omega) (by omega) (by omega) (by omega) (by rw [swp_size]; exact hb) (fun t h h' => by omega) (fun t h h' => by omega)
  exact ⟨this.1, this.2.1⟩
theorem seg0 (A : C) (hA : (bkOf ir69.body 1).map (seqN · 0) = some A) (c n a b lim : Nat) (wb wp : Bool) (R : Regs) (H : Heap) (K : Out → Heap → Prop) (h0 : R 0 = .msl c 0 n 2) (h1 : R 1 = .int .i64 a) (h2 : R 2 = .int .i64 b) (h3 : R 3 = .int .i64 lim) (h4 : R 4 = .fn 40 []) (h10 : R 10 = .bool wb) (h11 : R 11 = .bool wp) (hab : a ≤ b) (hb : b < 16777216)
    (rest : ∀ R', PR R' c n a b lim wb wp → K (.ex .normal R') H) : wpC env A R H K := by
  simp [ir69, bkOf, seqN, sq] at hA
  subst hA
  simp -implicitDefEqProofs (maxSteps := 1000000) (disch := omega) only [natOf_nat, iadm, ldm1, ldm2, stm0, stm1, stm2, wA, wA1, wS, wS1, wM, S2, op, ef, cl, sq, reduceIte, Int.reduceLT, Int.reduceLE, Int.reduceBEq, Int.reduceBNe, Int.reduceEq, Nat.reduceAdd, Nat.reduceLeDiff, Nat.reduceLT, Nat.reduceEqDiff, S1, h0, h1, h2, h3, h4, h10, h11]
  refine rest _ ⟨?_, ?_, ?_, ?_, ?_, ?_, ?_, ?_⟩
  all_goals simp -implicitDefEqProofs only [op, ef, cl, sq, reduceIte, Int.reduceLT, Int.reduceLE, Int.reduceBEq, Int.reduceBNe, Int.reduceEq, Nat.reduceAdd, Nat.reduceLeDiff, Nat.reduceLT, Nat.reduceEqDiff, S1, h0, h1, h2, h3, h4, h10, h11]
open Go.Sort in
theorem seg1 (A : C) (hA : (bkOf ir69.body 1).map (seqN · 1) = some A) (c n a b lim : Nat) (wb wp : Bool) (d : Array Nm) (R : Regs) (H0 H : Heap) (K : Out → Heap → Prop) (hp : PR R c n a b lim wb wp) (hd : SC c n H0 (fun x => x = d) H) (hb : b ≤ n) (hab : a ≤ b) (hs : n < 16777216)
    (rest1 : ∀ R' H', b - a ≤ 12 → SC c n H0 (fun x => x = insertionSort ltM d a b) H' → K (.ex .ret R') H')
    (rest2 : ∀ R', ¬ b - a ≤ 12 → PR R' c n a b lim wb wp → K (.ex .normal R') H) : wpC env A R H K := by
  simp [ir69, bkOf, seqN, sq] at hA
  subst hA
  obtain ⟨h0, h1, h2, h3, h4, h10, h11, h12⟩ := hp
  obtain ⟨di, hc, hn, rfl, hfr⟩ := hd
  by_cases hle : b - a ≤ 12
  · simp -implicitDefEqProofs only [op, ef, cl, sq, reduceIte, Int.reduceLT, Int.reduceLE, Int.reduceBEq, Int.reduceBNe, Int.reduceEq, Nat.reduceAdd, Nat.reduceLeDiff, Nat.reduceLT, Nat.reduceEqDiff, S1, h0, h1, h2, h3, h4, h10, h11, h12, hle]
    have hi := ins75 c di a b H hc (by omega) hab (by omega)
    rw [hn] at hi
    refine callB_of _ _ _ _ _ _ _ _ hi ?_
    rintro u H2 ⟨hu, hd2, hf2⟩
    cases hu
    simp -implicitDefEqProofs only [op, ef, cl, sq, reduceIte, Int.reduceLT, Int.reduceLE, Int.reduceBEq, Int.reduceBNe, Int.reduceEq, Nat.reduceAdd, Nat.reduceLeDiff, Nat.reduceLT, Nat.reduceEqDiff, S1]
    exact rest1 _ _ hle ⟨_, hd2, by rw [(insertionSort_holds ltM_swo di a b hab (by omega)).1.1]; exact hn, rfl, hfr.trans hf2 fun _ h => .inl h⟩
  · simp -implicitDefEqProofs only [op, ef, cl, sq, reduceIte, Int.reduceLT, Int.reduceLE, Int.reduceBEq, Int.reduceBNe, Int.reduceEq, Nat.reduceAdd, Nat.reduceLeDiff, Nat.reduceLT, Nat.reduceEqDiff, S1, h0, h1, h2, h3, h4, h10, h11, h12, hle]
    refine rest2 _ hle ⟨?_, ?_, ?_, ?_, ?_, ?_, ?_, ?_⟩
    all_goals simp -implicitDefEqProofs only [op, ef, cl, sq, reduceIte, Int.reduceLT, Int.reduceLE, Int.reduceBEq, Int.reduceBNe, Int.reduceEq, Nat.reduceAdd, Nat.reduceLeDiff, Nat.reduceLT, Nat.reduceEqDiff, S1, h0, h1, h2, h3, h4, h10, h11, h12]
open Go.Sort in
theorem seg2 (A : C) (hA : (bkOf ir69.body 1).map (seqN · 2) = some A) (c n a b lim : Nat) (wb wp : Bool) (d : Array Nm) (R : Regs) (H0 H : Heap) (K : Out → Heap → Prop) (hp : PR R c n a b lim wb wp) (hd : SC c n H0 (fun x => x = d) H) (hb : b ≤ n) (hab : a + 12 < b) (hs : n < 16777216)
    (rest1 : ∀ R' H', lim = 0 → SC c n H0 (fun x => x = heapSort ltM d a b) H' → K (.ex .ret R') H')
    (rest2 : ∀ R', ¬ lim = 0 → PR R' c n a b lim wb wp → K (.ex .normal R') H) : wpC env A R H K := by
  simp [ir69, bkOf, seqN, sq] at hA
  subst hA
  obtain ⟨h0, h1, h2, h3, h4, h10, h11, h12⟩ := hp
  obtain ⟨di, hc, hn, rfl, hfr⟩ := hd
  by_cases hl : lim = 0
  · subst hl
    have e : (((0 : Nat) : Int) == 0) = true := rfl
    simp -implicitDefEqProofs only [op, ef, cl, sq, reduceIte, Int.reduceLT, Int.reduceLE, Int.reduceBEq, Int.reduceBNe, Int.reduceEq, Nat.reduceAdd, Nat.reduceLeDiff, Nat.reduceLT, Nat.reduceEqDiff, S1, h0, h1, h2, h3, h4, h10, h11, h12, e]
    refine callB_of _ _ _ _ _ _ _ _ (heap76 c n di a b _ hn hc hb (by omega) (by omega)) ?_
    rintro u H2 ⟨hu, d2, hd2, hs2, e2, hf2⟩
    cases hu
    simp -implicitDefEqProofs only [op, ef, cl, sq, reduceIte, Int.reduceLT, Int.reduceLE, Int.reduceBEq, Int.reduceBNe, Int.reduceEq, Nat.reduceAdd, Nat.reduceLeDiff, Nat.reduceLT, Nat.reduceEqDiff, S1]
    exact rest1 _ _ rfl ⟨_, hd2, hs2, e2, hfr.trans hf2 fun _ h => .inl h⟩
  · have e : ((lim : Int) == 0) = false := by simp; omega
    simp -implicitDefEqProofs only [op, ef, cl, sq, reduceIte, Int.reduceLT, Int.reduceLE, Int.reduceBEq, Int.reduceBNe, Int.reduceEq, Nat.reduceAdd, Nat.reduceLeDiff, Nat.reduceLT, Nat.reduceEqDiff, S1, h0, h1, h2, h3, h4, h10, h11, h12, e]
    refine rest2 _ hl ⟨?_, ?_, ?_, ?_, ?_, ?_, ?_, ?_⟩
    all_goals simp -implicitDefEqProofs only [op, ef, cl, sq, reduceIte, Int.reduceLT, Int.reduceLE, Int.reduceBEq, Int.reduceBNe, Int.reduceEq, Nat.reduceAdd, Nat.reduceLeDiff, Nat.reduceLT, Nat.reduceEqDiff, S1, h0, h1, h2, h3, h4, h10, h11, h12]
open Go.Sort in
theorem seg4 (A : C) (hA : (bkOf ir69.body 1).map (seqN · 4) = some A) (c n a b lim : Nat) (wb wp : Bool) (d : Array Nm) (R : Regs) (H0 H : Heap) (K : Out → Heap → Prop) (hp : PR R c n a b lim wb wp) (hd : SC c n H0 (fun x => x = d) H) (hb : b ≤ n) (hab : a + 12 < b) (hs : n < 16777216)
    (rest : ∀ R' H', PR R' c n a b lim wb wp → R' 13 = .int .i64 (choosePivot ltM d a b).1 → R' 14 = .int .i64 (hintN (choosePivot ltM d a b).2) → SC c n H0 (fun x => x = d) H' → K (.ex .normal R') H') : wpC env A R H K := by
  simp [ir69, bkOf, seqN, sq] at hA
  subst hA
  obtain ⟨h0, h1, h2, h3, h4, h10, h11, h12⟩ := hp
  obtain ⟨di, hc, hn, rfl, hfr⟩ := hd
  simp -implicitDefEqProofs only [op, ef, cl, sq, reduceIte, Int.reduceLT, Int.reduceLE, Int.reduceBEq, Int.reduceBNe, Int.reduceEq, Nat.reduceAdd, Nat.reduceLeDiff, Nat.reduceLT, Nat.reduceEqDiff, S1, h0, h1, h2, h3, h4, h10, h11, h12]
  refine callB_of _ _ _ _ _ _ _ _ (choose78 c n di a b _ hn hc hb hab (by omega)) ?_
  rintro u H2 ⟨hu, hx⟩
  cases hu
  simp -implicitDefEqProofs only [op, ef, cl, sq, reduceIte, Int.reduceLT, Int.reduceLE, Int.reduceBEq, Int.reduceBNe, Int.reduceEq, Nat.reduceAdd, Nat.reduceLeDiff, Nat.reduceLT, Nat.reduceEqDiff, S1]
  refine rest _ _ ⟨?_, ?_, ?_, ?_, ?_, ?_, ?_, ?_⟩ ?_ ?_ ⟨di, hx.get hc, hn, rfl, hfr.trans (ext_frm (F := fun _ => False) hx) (fun _ h => h.elim)⟩
  all_goals simp -implicitDefEqProofs only [op, ef, cl, sq, reduceIte, Int.reduceLT, Int.reduceLE, Int.reduceBEq, Int.reduceBNe, Int.reduceEq, Nat.reduceAdd, Nat.reduceLeDiff, Nat.reduceLT, Nat.reduceEqDiff, S1, h0, h1, h2, h3, h4, h10, h11, h12]
theorem wQ8 {a : Nat} (h : a < 9223372036854775808) : IntKind.i64.wrap ((a : Int).tdiv 8) = ((a / 8 : Nat) : Int) := by rw [Int.tdiv_eq_ediv_of_nonneg (by omega), wrap64 (by omega)]; omega
open Go.Sort in
theorem seg8 (A : C) (hA : (bkOf ir69.body 1).map (seqT · 8) = some A) (c n a b lim : Nat) (wb wp : Bool) (d : Array Nm) (pv : Nat) (R : Regs) (H0 H : Heap) (K : Out → Heap → Prop) (hp : PR R c n a b lim wb wp) (h13 : R 13 = .int .i64 pv) (hd : SC c n H0 (fun x => x = d) H) (hb : b ≤ n) (hab : a + 12 < b) (hs : n < 16777216) (hpv : a ≤ pv ∧ pv < b)
    (ih : ∀ a' b' (d' : Array Nm) H', b' - a' < b - a → a' ≤ b' → b' ≤ n → d'.size = n → H'[c]? = some (.cells (msC eN d'.toList)) → W env (.call 69 [.msl c 0 n 2, .int .i64 a', .int .i64 b', .int .i64 lim, .fn 40 []]) H' (SrtN c n (pdq ltM d' a' b' lim true true) H'))
    (rest : ∀ R' H' a' b' (d' : Array Nm) (wb' : Bool), a ≤ a' → a' ≤ b' → b' ≤ b → b' - a' < b - a → R' 0 = .msl c 0 n 2 → R' 1 = .int .i64 (a' : Nat) → R' 2 = .int .i64 (b' : Nat) → R' 3 = .int .i64 lim → R' 4 = .fn 40 [] → R' 10 = .bool wb' → R' 11 = .bool (partition ltM d a b pv).2.1 →
      pdq ltM d' a' b' lim wb' (partition ltM d a b pv).2.1 = (if (partition ltM d a b pv).1 - a < b - (partition ltM d a b pv).1 then pdq ltM (pdq ltM (partition ltM d a b pv).2.2 a (partition ltM d a b pv).1 lim true true) ((partition ltM d a b pv).1 + 1) b lim (decide ((partition ltM d a b pv).1 - a ≥ (b - a) / 8)) (partition ltM d a b pv).2.1
        else pdq ltM (pdq ltM (partition ltM d a b pv).2.2 ((partition ltM d a b pv).1 + 1) b lim true true) a (partition ltM d a b pv).1 lim (decide (b - (partition ltM d a b pv).1 ≥ (b - a) / 8)) (partition ltM d a b pv).2.1) →
      SC c n H0 (fun x => x = d') H' → K (.ex .normal R') H') : wpC env A R H K := by
  simp [ir69, bkOf, seqT, sq] at hA
  subst hA
  obtain ⟨h0, h1, h2, h3, h4, h10, h11, h12⟩ := hp
  obtain ⟨di, hc, hn, rfl, hfr⟩ := hd
  have hrg := partition_holds ltM ltM_swo di a b pv hpv.1 hpv.2 (by omega)
  simp -implicitDefEqProofs only [op, ef, cl, sq, reduceIte, Int.reduceLT, Int.reduceLE, Int.reduceBEq, Int.reduceBNe, Int.reduceEq, Nat.reduceAdd, Nat.reduceLeDiff, Nat.reduceLT, Nat.reduceEqDiff, S1, h0, h1, h2, h3, h4, h10, h11, h12, h13]
  refine callB_of _ _ _ _ _ _ _ _ (part82 c n di a b pv _ hn hc hb (by omega) (by omega) (by omega)) ?_
  rintro u H2 ⟨hu, d2, hd2, hs2, e2, hf2⟩
  cases hu
  generalize partition ltM di a b pv = r at *
  obtain ⟨mid, ap, d4⟩ := r
  simp only at hrg e2 rest ⊢
  subst e2
  obtain ⟨m1, m2, _⟩ := hrg
  have hfr2 := hfr.trans hf2 fun _ h => .inl h
  by_cases hlt : mid - a < b - mid
  · rw [if_pos hlt] at rest
    simp -implicitDefEqProofs (maxSteps := 1000000) (disch := omega) only [natOf_nat, iadm, ldm1, ldm2, stm0, stm1, stm2, wA, wA1, wS, wS1, wM, S2, op, ef, cl, sq, reduceIte, Int.reduceLT, Int.reduceLE, Int.reduceBEq, Int.reduceBNe, Int.reduceEq, Nat.reduceAdd, Nat.reduceLeDiff, Nat.reduceLT, Nat.reduceEqDiff, S1, wQ8, h0, h1, h2, h3, h4, h10, h11, h12, h13, hlt]
    refine callB_of _ _ _ _ _ _ _ _ (ih a mid d2 _ (by omega) m1 (by omega) hs2 hd2) ?_
    rintro u H3 ⟨hu, d3, hd3, hs3, e3, hf3⟩
    cases hu
    simp -implicitDefEqProofs (maxSteps := 1000000) (disch := omega) only [natOf_nat, iadm, ldm1, ldm2, stm0, stm1, stm2, wA, wA1, wS, wS1, wM, S2, op, ef, cl, sq, reduceIte, Int.reduceLT, Int.reduceLE, Int.reduceBEq, Int.reduceBNe, Int.reduceEq, Nat.reduceAdd, Nat.reduceLeDiff, Nat.reduceLT, Nat.reduceEqDiff, S1, h0, h1, h2, h3, h4, h10, h11, h12, h13]
    refine rest _ _ (mid + 1) b d3 (decide ((b - a) / 8 ≤ mid - a)) (by omega) (by omega) (Nat.le_refl _) (by omega) ?_ ?_ ?_ ?_ ?_ ?_ ?_ (by rw [e3]) ⟨d3, hd3, hs3, rfl, hfr2.trans hf3 fun _ h => .inl h⟩
    all_goals simp -implicitDefEqProofs only [op, ef, cl, sq, reduceIte, Int.reduceLT, Int.reduceLE, Int.reduceBEq, Int.reduceBNe, Int.reduceEq, Nat.reduceAdd, Nat.reduceLeDiff, Nat.reduceLT, Nat.reduceEqDiff, S1, h0, h1, h2, h3, h4, h10, h11, h12]
  · rw [if_neg hlt] at rest
    simp -implicitDefEqProofs (maxSteps := 1000000) (disch := omega) only [natOf_nat, iadm, ldm1, ldm2, stm0, stm1, stm2, wA, wA1, wS, wS1, wM, S2, op, ef, cl, sq, reduceIte, Int.reduceLT, Int.reduceLE, Int.reduceBEq, Int.reduceBNe, Int.reduceEq, Nat.reduceAdd, Nat.reduceLeDiff, Nat.reduceLT, Nat.reduceEqDiff, S1, wQ8, h0, h1, h2, h3, h4, h10, h11, h12, h13, hlt]
    refine callB_of _ _ _ _ _ _ _ _ (ih (mid + 1) b d2 _ (by omega) m2 (by omega) hs2 hd2) ?_
    rintro u H3 ⟨hu, d3, hd3, hs3, e3, hf3⟩
    cases hu
    simp -implicitDefEqProofs (maxSteps := 1000000) (disch := omega) only [natOf_nat, iadm, ldm1, ldm2, stm0, stm1, stm2, wA, wA1, wS, wS1, wM, S2, op, ef, cl, sq, reduceIte, Int.reduceLT, Int.reduceLE, Int.reduceBEq, Int.reduceBNe, Int.reduceEq, Nat.reduceAdd, Nat.reduceLeDiff, Nat.reduceLT, Nat.reduceEqDiff, S1, h0, h1, h2, h3, h4, h10, h11, h12, h13]
    refine rest _ _ a mid d3 (decide ((b - a) / 8 ≤ b - mid)) (by omega) (by omega) (by omega) (by omega) ?_ ?_ ?_ ?_ ?_ ?_ ?_ (by rw [e3]) ⟨d3, hd3, hs3, rfl, hfr2.trans hf3 fun _ h => .inl h⟩
    all_goals simp -implicitDefEqProofs only [op, ef, cl, sq, reduceIte, Int.reduceLT, Int.reduceLE, Int.reduceBEq, Int.reduceBNe, Int.reduceEq, Nat.reduceAdd, Nat.reduceLeDiff, Nat.reduceLT, Nat.reduceEqDiff, S1, h0, h1, h2, h3, h4, h10, h11, h12]
end Go.Proofs.Ytodegnhallgnkaa.St
end

section
namespace Go.Proofs.Ytodegnhallgnkaa.St
open Go.Rmp Go.Proofs.Ytodegnhallgnkaa.Ir
set_option maxRecDepth 10000
set_option maxHeartbeats 8000000
open Go.Sort in
theorem pdq64 (c n : Nat) (hs : n < 16777216) : ∀ m a b lim (d : Array Nm) H, b - a = m → a ≤ b → b ≤ n → lim < 1000 → d.size = n → H[c]? = some (.cells (msC eN d.toList)) →
    W env (.call 69 [.msl c 0 n 2, .int .i64 (a : Nat), .int .i64 (b : Nat), .int .i64 (lim : Nat), .fn 40 []]) H (SrtN c n (pdq ltM d a b lim true true) H) := by
  intro m
  induction m using Nat.strongRecOn with
  | _ m ih =>
  intro a b lim d H hm hab hb hlim hn hc
  subst hm
  refine W.fnI rfl rfl rfl ?_
  simp -implicitDefEqProofs only [ir69, op, ef, cl, sq, reduceIte, Int.reduceLT, Int.reduceLE, Int.reduceBEq, Int.reduceBNe, Int.reduceEq, Nat.reduceAdd, Nat.reduceLeDiff, Nat.reduceLT, Nat.reduceEqDiff, S1]
  refine W.loopI (fun (q : Nat × Nat × Nat × Bool × Bool) R H' => At H' (fun H' => SC c n H (fun di => pdq ltM di q.1 q.2.1 q.2.2.1 q.2.2.2.1 q.2.2.2.2 = pdq ltM d a b lim true true) H') ∧ R 0 = .msl c 0 n 2 ∧ R 1 = .int .i64 q.1 ∧ R 2 = .int .i64 q.2.1 ∧ R 3 = .int .i64 q.2.2.1 ∧ R 4 = .fn 40 [] ∧ R 10 = .bool q.2.2.2.1 ∧ R 11 = .bool q.2.2.2.2 ∧ a ≤ q.1 ∧ q.1 ≤ q.2.1 ∧ q.2.1 ≤ b ∧ q.2.2.1 ≤ lim) (fun q => q.2.1 - q.1) (a, b, lim, true, true) ⟨.i ⟨d, hc, hn, rfl, Frm.refl _ _⟩, rfl, rfl, rfl, rfl, rfl, rfl, rfl, Nat.le_refl _, hab, Nat.le_refl _, Nat.le_refl _⟩ ?_
  rintro ⟨a1, b1, l1, wb, wp⟩ R H1 ⟨⟨di, hd, hsz, hP, hfr⟩, h0, h1, h2, h3, h4, h10, h11, q1, q2, q3, q4⟩
  simp only at hP h1 h2 h3 h10 h11 q1 q2 q3 q4 ⊢
  rw [c_block, c_seq]
  refine seg0 _ rfl c n a1 b1 l1 wb wp R H1 _ h0 h1 h2 h3 h4 h10 h11 q2 (by omega) ?_
  intro R1 p1
  rw [then_n, cont_ap, c_seq]
  refine seg1 _ rfl c n a1 b1 l1 wb wp di R1 H H1 _ p1 ⟨di, hd, hsz, rfl, hfr⟩ (by omega) q2 hs ?_ ?_
  · rintro R' H' hle ⟨d', hd', hs', rfl, hf'⟩
    rw [pdq, if_pos hle] at hP
    simp -implicitDefEqProofs only [op, ef, cl, sq, reduceIte, Int.reduceLT, Int.reduceLE, Int.reduceBEq, Int.reduceBNe, Int.reduceEq, Nat.reduceAdd, Nat.reduceLeDiff, Nat.reduceLT, Nat.reduceEqDiff, S1]
    exact ⟨rfl, _, hd', hs', hP, hf'⟩
  intro R2 h12 p2
  rw [then_n, cont_ap, c_seq]
  refine seg2 _ rfl c n a1 b1 l1 wb wp di R2 H H1 _ p2 ⟨di, hd, hsz, rfl, hfr⟩ (by omega) (by omega) hs ?_ ?_
  · rintro R' H' hl0 ⟨d', hd', hs', rfl, hf'⟩
    rw [pdq, if_neg h12, if_pos hl0] at hP
    simp -implicitDefEqProofs only [op, ef, cl, sq, reduceIte, Int.reduceLT, Int.reduceLE, Int.reduceBEq, Int.reduceBNe, Int.reduceEq, Nat.reduceAdd, Nat.reduceLeDiff, Nat.reduceLT, Nat.reduceEqDiff, S1]
    exact ⟨rfl, _, hd', hs', hP, hf'⟩
  intro R3 hl0 p3
  rw [then_n, cont_ap, c_seq]
  refine seg3 _ rfl c n a1 b1 l1 wb wp di R3 H H1 _ p3 ⟨di, hd, hsz, rfl, hfr⟩ (by omega) (by omega) hs (by omega) ?_
  rintro R4 H4 p4 ⟨d1, hd4, hs4, e1, hf4⟩
  obtain ⟨lim1, el⟩ : ∃ l, l = if (!wb) = true then l1 - 1 else l1 := ⟨_, rfl⟩
  have hll : lim1 ≤ l1 := by rw [el]; split <;> omega
  rw [← el] at p4
  rw [then_n, cont_ap, c_seq]
  refine seg4 _ rfl c n a1 b1 lim1 wb wp d1 R4 H H4 _ p4 ⟨d1, hd4, hs4, rfl, hf4⟩ (by omega) (by omega) hs ?_
  rintro R5 H5 p5 h13 h14 ⟨d1', hd5, hs5, e1', hf5⟩
  subst e1'
  have hcr := choosePivot_holds ltM d1' a1 b1 (by omega)
  obtain ⟨cp, ec⟩ : ∃ x, x = choosePivot ltM d1' a1 b1 := ⟨_, rfl⟩
  rw [← ec] at h13 h14 hcr
  rw [then_n, cont_ap, c_seq]
  refine seg5 _ rfl c n a1 b1 lim1 wb wp d1' cp.1 cp.2 R5 H H5 _ p5 h13 h14 ⟨d1', hd5, hs5, rfl, hf5⟩ (by omega) (by omega) hs hcr ?_
  rintro R6 H6 p6 h13 h14 ⟨d2, hd6, hs6, e2, hf6⟩
  obtain ⟨pv, ep⟩ : ∃ x, x = if cp.2 = .decreasing then (b1 - 1) - (cp.1 - a1) else cp.1 := ⟨_, rfl⟩
  obtain ⟨hi, eh⟩ : ∃ x, x = if cp.2 = .decreasing then Hint.increasing else cp.2 := ⟨_, rfl⟩
  rw [← ep] at h13
  rw [← eh] at h14
  have hpv : a1 ≤ pv ∧ pv < b1 := by rw [ep]; split <;> omega
  rw [then_n, cont_ap, c_seq]
  obtain ⟨pi, epi⟩ : ∃ x, x = if (wb && wp && hi = .increasing) = true then partialInsertionSort ltM d2 a1 b1 else (d2, false) := ⟨_, rfl⟩
  rw [pdq_step h12 hl0 e1 el ec e2 ep eh epi] at hP
  refine seg6 _ rfl c n a1 b1 lim1 wb wp d2 pv hi R6 H H6 _ p6 h13 h14 ⟨d2, hd6, hs6, rfl, hf6⟩ (by omega) (by omega) hs pi epi ?_ ?_
  · rintro R' H' hpt ⟨d', hd', hs', rfl, hf'⟩
    rw [if_pos hpt] at hP
    simp -implicitDefEqProofs only [op, ef, cl, sq, reduceIte, Int.reduceLT, Int.reduceLE, Int.reduceBEq, Int.reduceBNe, Int.reduceEq, Nat.reduceAdd, Nat.reduceLeDiff, Nat.reduceLT, Nat.reduceEqDiff, S1]
    exact ⟨rfl, _, hd', hs', hP, hf'⟩
  rintro R7 H7 hpf p7 h13 ⟨d3, hd7, hs7, e3, hf7⟩
  rw [if_neg (by rw [hpf]; simp), ← e3] at hP
  rw [then_n, cont_ap, c_seq]
  refine seg7 _ rfl c n a1 b1 lim1 wb wp d3 pv R7 H H7 _ p7 h13 ⟨d3, hd7, hs7, rfl, hf7⟩ (by omega) (by omega) hs hpv ?_ ?_
  · rintro R' H' hgt g0 g1 g2 g3 g4 g10 g11 ⟨d', hd', hs', e', hf'⟩
    have hr := peq_range d3 hpv.1 hpv.2 (by omega)
    rw [if_pos hgt, if_pos hr, ← e'] at hP
    simp -implicitDefEqProofs only [op, ef, cl, sq, reduceIte, Int.reduceLT, Int.reduceLE, Int.reduceBEq, Int.reduceBNe, Int.reduceEq, Nat.reduceAdd, Nat.reduceLeDiff, Nat.reduceLT, Nat.reduceEqDiff, S1]
    exact ⟨((partitionEqual ltM d3 a1 b1 pv).1, b1, lim1, wb, wp), by simp only; omega, .i ⟨_, hd', hs', hP, hf'⟩, g0, g1, g2, g3, g4, g10, g11, by simp only; omega, by simp only; omega, by simp only; omega, by simp only; omega⟩
  rintro R8 H8 hgt p8 h13 ⟨d3', hd8, hs8, e3', hf8⟩
  subst e3'
  have hr := partition_holds ltM ltM_swo d3' a1 b1 pv hpv.1 hpv.2 (by omega)
  rw [if_neg (by rw [hgt]; simp), if_pos ⟨hr.1, hr.2.1⟩] at hP
  rw [then_n, cont_ap]
  refine seg8 _ rfl c n a1 b1 lim1 wb wp d3' pv R8 H H8 _ p8 h13 ⟨d3', hd8, hs8, rfl, hf8⟩ (by omega) (by omega) hs hpv (fun a' b' d' H' hlt ha' hb' hs' hc' => ih _ (by omega) a' b' lim1 d' H' rfl ha' hb' (by omega) hs' hc') ?_
  rintro R' H' a' b' d' wb' ha' hab' hb' hlt g0 g1 g2 g3 g4 g10 g11 e' ⟨d'', hd', hs', rfl, hf'⟩
  simp -implicitDefEqProofs only [op, ef, cl, sq, reduceIte, Int.reduceLT, Int.reduceLE, Int.reduceBEq, Int.reduceBNe, Int.reduceEq, Nat.reduceAdd, Nat.reduceLeDiff, Nat.reduceLT, Nat.reduceEqDiff, S1]
  exact ⟨(a', b', lim1, wb', (partition ltM d3' a1 b1 pv).2.1), by simp only; omega, .i ⟨_, hd', hs', by simp only; rw [e']; exact hP, hf'⟩, g0, g1, g2, g3, g4, g10, g11, by simp only; omega, hab', by simp only; omega, by simp only; omega⟩
open Go.Sort in
theorem sortF49 (c : Nat) (d : Array Nm) (H : Heap) (hc : H[c]? = some (.cells (msC eN d.toList))) (hs : d.size < 16777216) :
    W env (.call 51 [.msl c 0 d.size 2, .fn 40 []]) H (SrtN c d.size (sort ltM d) H) := by
  refine W.fnI rfl rfl rfl ?_
  have w1 : IntKind.u64.wrap (d.size : Int) = (d.size : Int) := wrapu (by omega)
  simp -implicitDefEqProofs only [ir51, op, ef, cl, sq, reduceIte, Int.reduceLT, Int.reduceLE, Int.reduceBEq, Int.reduceBNe, Int.reduceEq, Nat.reduceAdd, Nat.reduceLeDiff, Nat.reduceLT, Nat.reduceEqDiff, S1, w1]
  refine callB_of _ _ _ _ _ _ _ _ (len65 d.size hs _) ?_
  rintro u H1 ⟨hu, rfl⟩
  cases hu
  have hb := bits_lt (n := d.size) (k := 24) hs
  simp -implicitDefEqProofs only [op, ef, cl, sq, reduceIte, Int.reduceLT, Int.reduceLE, Int.reduceBEq, Int.reduceBNe, Int.reduceEq, Nat.reduceAdd, Nat.reduceLeDiff, Nat.reduceLT, Nat.reduceEqDiff, S1]
  refine callB_of _ _ _ _ _ _ _ _ (pdq64 c d.size hs _ 0 d.size (bitsLen d.size) d _ rfl (Nat.zero_le _) (Nat.le_refl _) (by omega) rfl hc) ?_
  rintro u H2 ⟨hu, h2⟩
  cases hu
  simp -implicitDefEqProofs only [op, ef, cl, sq, reduceIte, Int.reduceLT, Int.reduceLE, Int.reduceBEq, Int.reduceBNe, Int.reduceEq, Nat.reduceAdd, Nat.reduceLeDiff, Nat.reduceLT, Nat.reduceEqDiff, S1]
  exact ⟨rfl, h2⟩
end Go.Proofs.Ytodegnhallgnkaa.St
end

section
namespace Go.Proofs.Ytodegnhallgnkaa.St
open Go.Rmp Go.Proofs.Ytodegnhallgnkaa.Ir
set_option maxRecDepth 10000
theorem sorted_listF {d : Array Nm} (hn : d.toList.Nodup) : (Go.Sort.sort ltM d).toList.Perm d.toList ∧ (Go.Sort.sort ltM d).toList.Pairwise (fun a b => ltM a b = true) := by
  obtain ⟨⟨hs, _, hp⟩, hsort⟩ := Go.Sort.sort_sorts ltM ltM_swo d
  have e1 : (Go.Sort.sort ltM d).extract 0 d.size = Go.Sort.sort ltM d := by
    conv => lhs; arg 3; rw [← hs]
    simp
  have hperm : (Go.Sort.sort ltM d).toList.Perm d.toList := by
    rw [e1] at hp
    simpa using hp
  refine ⟨hperm, ?_⟩
  have hn2 : (Go.Sort.sort ltM d).toList.Nodup := hperm.nodup_iff.2 hn
  rw [List.pairwise_iff_getElem]
  intro i j hi hj hij
  have h1 := hsort i j (Nat.zero_le _) hij (by rw [← hs]; simpa using hj)
  have gi := arr_get (d := Go.Sort.sort ltM d) (i := i) (by simpa using hi)
  have gj := arr_get (d := Go.Sort.sort ltM d) (i := j) (by simpa using hj)
  rw [List.getElem?_eq_getElem hi] at gi
  rw [List.getElem?_eq_getElem hj] at gj
  rw [Option.some.inj gi, Option.some.inj gj]
  cases h : ltM (Go.Sort.sort ltM d)[i]! (Go.Sort.sort ltM d)[j]! with
  | true => rfl
  | false =>
    have e := ltM_tri h h1
    rw [← Option.some.inj gi, ← Option.some.inj gj] at e
    have := (List.getElem_inj hn2).1 e
    omega
theorem sortedF34 (es : List (Nm × T)) (c mb : Nat) (H : Heap) (hnd : (es.map (·.1)).Nodup) (hes : es.length ≤ 8000000) (hc : H[c]? = some (.cells [.map mb])) (hm : H[mb]? = some (.map (encK kN es))) :
    W env (.call 38 [.fn 52 [.ptr c 0], .fn 40 []]) H (SortQ es H) := by
  refine W.fnI rfl rfl rfl ?_
  simp -implicitDefEqProofs only [ir38, op, ef, cl, sq, reduceIte, Int.reduceLT, Int.reduceLE, Int.reduceBEq, Int.reduceBNe, Int.reduceEq, Nat.reduceAdd, Nat.reduceLeDiff, Nat.reduceLT, Nat.reduceEqDiff, S1]
  refine callB_of _ _ _ _ _ _ _ _ (coll48 es c mb H hnd (by omega) hc hm) ?_
  rintro u H1 ⟨hx, t, vis, hu, hmt, hri⟩
  cases hu
  have hperm : vis.Perm (es.map (·.1)) := (List.perm_ext_iff_of_nodup hri.nvis hnd).2 fun k => hri.end' k
  have hvl : vis.length = es.length := by have := hri.len; simpa using this
  rcases hmt with ⟨rfl, rfl⟩ | ⟨d, rfl, hd, hdn⟩
  · simp -implicitDefEqProofs only [op, ef, cl, sq, reduceIte, Int.reduceLT, Int.reduceLE, Int.reduceBEq, Int.reduceBNe, Int.reduceEq, Nat.reduceAdd, Nat.reduceLeDiff, Nat.reduceLT, Nat.reduceEqDiff, S1]
    refine callB_of _ _ _ _ _ _ _ _ (sortE _) ?_
    rintro u H2 ⟨hu, rfl⟩
    cases hu
    simp -implicitDefEqProofs only [op, ef, cl, sq, reduceIte, Int.reduceLT, Int.reduceLE, Int.reduceBEq, Int.reduceBNe, Int.reduceEq, Nat.reduceAdd, Nat.reduceLeDiff, Nat.reduceLT, Nat.reduceEqDiff, S1]
    exact ⟨hx, _, [], rfl, mut_nil _ _ _ _, hperm, List.Pairwise.nil⟩
  · simp -implicitDefEqProofs only [op, ef, cl, sq, reduceIte, Int.reduceLT, Int.reduceLE, Int.reduceBEq, Int.reduceBNe, Int.reduceEq, Nat.reduceAdd, Nat.reduceLeDiff, Nat.reduceLT, Nat.reduceEqDiff, S1]
    have := sortF49 d vis.toArray H1 (by simpa using hd) (by simpa using (by omega : vis.length < 16777216))
    simp -implicitDefEqProofs only [List.size_toArray] at this
    refine callB_of _ _ _ _ _ _ _ _ this ?_
    rintro u H2 ⟨hu, d2, h2, hsz2, rfl, hfr⟩
    cases hu
    simp -implicitDefEqProofs only [op, ef, cl, sq, reduceIte, Int.reduceLT, Int.reduceLE, Int.reduceBEq, Int.reduceBNe, Int.reduceEq, Nat.reduceAdd, Nat.reduceLeDiff, Nat.reduceLT, Nat.reduceEqDiff, S1]
    have hs := sorted_listF (d := vis.toArray) (by simpa using hri.nvis)
    simp -implicitDefEqProofs only [List.size_toArray] at hs
    refine ⟨ext_of fun a x hax => hfr.get (hx.get hax) (by have := glt hax; omega), _, _, rfl, .inr ⟨d, ?_, h2, hdn⟩, hs.1.trans hperm, hs.2⟩
    rw [hs.1.length_eq]
end Go.Proofs.Ytodegnhallgnkaa.St
end

section
namespace Go.Proofs.Ytodegnhallgnkaa.St
open Go.Rmp Go.Proofs.Ytodegnhallgnkaa.Ir
set_option maxRecDepth 10000
theorem mut_n {α : Type} {enc : α → List T} {n : Nat} (hn : ∀ x, (enc x).length = n) (h0 : n ≠ 0) {n0 : Nat} {H : Heap} {t : T} {l : List α} (hm : Mut enc n n0 H t l) {i : Nat} {x : α} (hx : l[i]? = some x) : ∃ b, H[b]? = some (.cells (msC enc l)) ∧ iadT n i t = some (.ptr b (i * n)) ∧ ldcB n (i * n) (some (.cells (msC enc l))) = some (enc x) := by
  have hi := (List.getElem?_eq_some_iff.1 hx).1
  rcases hm with ⟨rfl, _⟩ | ⟨b, rfl, hb, _⟩
  · simp at hi
  · refine ⟨b, hb, by rw [iad_m]; simp [hi, h0], ?_⟩
    have := msC_get hn hx 0 n (by omega)
    simp -implicitDefEqProofs only [Nat.add_zero, List.drop_zero] at this
    rw [this, List.take_of_length_le (by rw [hn]; omega)]
def eK (x : Nm × Hd) : List T := [.str x.1.1, .int .u64 x.1.2, .str x.2.value, .sl .arg (x.2.keys.map eS), .int .i64 x.2.stamp]
def keptL (s : Sto) (l : List Nm) : List (Nm × Hd) := l.map fun n => (n, hdOf (mlook s.vs n))
def KeptQ (s : Sto) (H : Heap) : Out → Heap → Prop := fun o H' => Ext H H' ∧ ∃ k l, KOk k l ∧ o = .val (.sl k ((keptL s l).map eK)) ∧ l.Perm (s.vs.map (·.1)) ∧ l.Pairwise (fun a b => ltM a b = true)
theorem kept20 (b : Bk) (s : Sto) (F : Nat → Prop) (H : Heap) (hs : SH H b s F) (hi : SInv s) (hn : s.vs.length ≤ 8000000) : W env (.call 21 [.ptr b.s 0]) H (KeptQ s H) := by
  obtain ⟨im, pm, sa⟩ := hs
  refine W.fnI rfl rfl rfl ?_
  simp -implicitDefEqProofs only [ir21, op, ef, cl, sq, reduceIte, Int.reduceLT, Int.reduceLE, Int.reduceBEq, Int.reduceBNe, Int.reduceEq, Nat.reduceAdd, Nat.reduceLeDiff, Nat.reduceLT, Nat.reduceEqDiff, S1, sa.hs]
  refine callB_of _ _ _ _ _ _ _ (fun o H' => o = .val (.fn 52 [.ptr H.length 0]) ∧ H' = H ++ [.cells [.map b.v]]) ?_ ?_
  · refine W.fnI rfl rfl rfl ?_
    simp -implicitDefEqProofs only [ir39, op, ef, cl, sq, reduceIte, Int.reduceLT, Int.reduceLE, Int.reduceBEq, Int.reduceBNe, Int.reduceEq, Nat.reduceAdd, Nat.reduceLeDiff, Nat.reduceLT, Nat.reduceEqDiff, S1]
    exact rfl
  rintro u H1 ⟨hu, rfl⟩
  cases hu
  have lv := glt sa.hv
  have hkeys : (encV s.vs).map (·.1) = s.vs.map (·.1) := by simp [encV]
  simp -implicitDefEqProofs only [op, ef, cl, sq, reduceIte, Int.reduceLT, Int.reduceLE, Int.reduceBEq, Int.reduceBNe, Int.reduceEq, Nat.reduceAdd, Nat.reduceLeDiff, Nat.reduceLT, Nat.reduceEqDiff, S1]
  refine callB_of _ _ _ _ _ _ _ _ (sortedF34 (encV s.vs) H.length b.v _ (by rw [hkeys]; exact hi.nd) (by simpa [encV] using hn) (g_tail rfl) (by rw [g_app lv]; exact sa.hv)) ?_
  rintro t H2 ⟨hx2, _, l, hu, hmt, hperm, hpw⟩
  cases hu
  rw [hkeys] at hperm
  have hll : l.length ≤ 8000000 := by rw [hperm.length_eq]; simpa using hn
  have hlen := hmt.len
  have hx0 : Ext H H2 := (Ext.rfl'.app _).trans hx2
  simp -implicitDefEqProofs only [op, ef, cl, sq, reduceIte, Int.reduceLT, Int.reduceLE, Int.reduceBEq, Int.reduceBNe, Int.reduceEq, Nat.reduceAdd, Nat.reduceLeDiff, Nat.reduceLT, Nat.reduceEqDiff, S1, hlen]
  have hlenH : ∀ Hx, lenT Hx .sl t = some l.length := fun Hx => by
    rcases hmt with ⟨e, rfl⟩ | ⟨c, rfl, _, _⟩
    · rw [e]; rfl
    · rfl
  refine W.loopI (fun (i : Nat) R H' => At H' (fun H' => ∃ kw, R 3 = .sl kw ((keptL s (l.take i)).map eK) ∧ Ext H H' ∧ Ext H2 H' ∧ Apd H2.length H' kw ∧ KOk kw (l.take i)) ∧ R 0 = .ptr b.s 0 ∧ R 11 = t ∧ R 12 = .int .i64 l.length ∧ R 13 = .int .i64 i ∧ i ≤ l.length) (fun i => l.length - i) 0 ⟨.i ⟨.nil, rfl, hx0, Ext.rfl', apd_nil _ _, fun _ => rfl⟩, rfl, rfl, rfl, rfl, Nat.zero_le _⟩ ?_
  rintro i R H3 ⟨⟨kw, h3, hx3, hx23, hap, hko⟩, h0, h11, h12, h13, hil⟩
  by_cases hlt : i < l.length
  · obtain ⟨m, hm⟩ := getP hlt
    have ws := wrap_succ (show i < 9223372036854775807 by omega)
    obtain ⟨c, g1, g2, g3⟩ := mut_n (enc := eN) (n := 2) (fun _ => rfl) (by decide) (hmt.ext hx23) hm
    have sa3 := sa.frm (ext_frm (F := fun _ => False) hx3) (fun _ _ _ h => h)
    have l0 := glt sa3.hs
    have lv3 := glt sa3.hv
    have hlk := fun Hx z ok => lkpB_K kNok z ok Hx (encV s.vs) m
    simp -implicitDefEqProofs only [kN, eN] at hlk
    have hh := lkp_hd s.vs m
    simp -implicitDefEqProofs only [op, ef, cl, sq, reduceIte, Int.reduceLT, Int.reduceLE, Int.reduceBEq, Int.reduceBNe, Int.reduceEq, Nat.reduceAdd, Nat.reduceLeDiff, Nat.reduceLT, Nat.reduceEqDiff, S1, S2, S3, List.length_set, h0, h11, h12, h13, hlt, natOf_nat, g1, g2, g3, eN, sa3.hs, sa3.hv, l0, lv3, hlk, hh, encHd]
    refine callB_of _ _ _ _ _ _ _ _ (version30 b s F m.1 m.2 _ ⟨im, pm, sa3.frm (ext_frm (F := fun _ => False) (Ext.rfl'.app _)) (fun _ _ _ h => h)⟩ hi) ?_
    rintro u H4 ⟨hx4, kk, hkk, hu⟩
    cases hu
    have c0 : H4[H3.length]? = some (.cells [.str m.1, .int .u64 m.2]) := hx4.get (by rw [g_tail rfl])
    have hx34 : Ext H3 H4 := (Ext.rfl'.app _).trans hx4
    have s4 := hx34.get sa3.hs
    have v4 := hx34.get sa3.hv
    obtain ⟨hd, hhd⟩ : ∃ hd, hd = hdOf (mlook s.vs m) := ⟨_, rfl⟩
    rw [← hhd] at hh hkk
    have hall := all_map (enc := eK) (n := 5) (fun _ => rfl) (keptL s (l.take i))
    have hkl : ((keptL s (l.take i)).map eK).length ≤ 8000000 := by simp -implicitDefEqProofs only [keptL, List.length_map, List.length_take]; omega
    obtain ⟨k', H5, ha, hap', hst⟩ := app_ok (bytes := 72) ((keptL s (l.take i)).map eK) [[T.str m.1, .int .u64 m.2, .str hd.value, .sl .arg (hd.keys.map eS), .int .i64 hd.stamp]] (hap.ext hx34) (Nat.le_trans hx23.len hx34.len) (by simp) (roomT (by simp -implicitDefEqProofs only [List.length_cons, List.length_nil]; omega))
    have hnn := app_nn ha (by simp)
    simp -implicitDefEqProofs only [op, ef, cl, sq, reduceIte, Int.reduceLT, Int.reduceLE, Int.reduceBEq, Int.reduceBNe, Int.reduceEq, Nat.reduceAdd, Nat.reduceLeDiff, Nat.reduceLT, Nat.reduceEqDiff, S1] at ha
    simp -implicitDefEqProofs only [op, ef, cl, sq, reduceIte, Int.reduceLT, Int.reduceLE, Int.reduceBEq, Int.reduceBNe, Int.reduceEq, Nat.reduceAdd, Nat.reduceLeDiff, Nat.reduceLT, Nat.reduceEqDiff, S1, eVer, h3, c0, s4, v4, hlk, hh, encHd, ← hhd, hall, ha, h0, h11, h12, h13, ws]
    refine ⟨i + 1, by omega, .i ⟨k', ?_, hst.ext H (by have := hx0.len; omega) (hx3.trans hx34), hst.ext H2 (Nat.le_refl _) (hx23.trans hx34), hap', fun h => absurd h hnn⟩, rfl, by omega⟩
    rw [take_sn hm]
    simp -implicitDefEqProofs only [keptL, List.map_append, List.map_cons, List.map_nil, eK, ← hhd]
  · have hil' : i = l.length := by omega
    subst hil'
    rw [List.take_length] at h3 hko
    simp -implicitDefEqProofs only [op, ef, cl, sq, reduceIte, Int.reduceLT, Int.reduceLE, Int.reduceBEq, Int.reduceBNe, Int.reduceEq, Nat.reduceAdd, Nat.reduceLeDiff, Nat.reduceLT, Nat.reduceEqDiff, S1, h3, h12, h13, hlt]
    exact ⟨hx3, kw, l, hko, rfl, hperm, hpw⟩
end Go.Proofs.Ytodegnhallgnkaa.St
end

section
namespace Go.Proofs.Ytodegnhallgnkaa.St
open Go.Rmp Go.Proofs.Ytodegnhallgnkaa.Ir
set_option maxRecDepth 10000
theorem sorted_eq : ∀ (l l' : List Nm), l.Pairwise (fun a b => ltM a b = true) → l'.Pairwise (fun a b => ltM a b = true) → (∀ x, x ∈ l ↔ x ∈ l') → l = l'
  | [], [], _, _, _ => rfl
  | [], b :: l', _, _, h => by have := (h b).2 (by simp); simp at this
  | a :: l, [], _, _, h => by have := (h a).1 (by simp); simp at this
  | a :: l, b :: l', h1, h2, h => by
    rw [List.pairwise_cons] at h1 h2
    have e : a = b := by
      rcases List.mem_cons.1 ((h a).1 (by simp)) with e | e
      · exact e
      · rcases List.mem_cons.1 ((h b).2 (by simp)) with e2 | e2
        · exact e2.symm
        · have q1 := h2.1 a e
          have q2 := h1.1 b e2
          have := ltM_trans q1 q2
          rw [ltM_irr] at this; cases this
    subst e
    rw [sorted_eq l l' h1.2 h2.2 fun x => ?_]
    have hx := h x
    simp -implicitDefEqProofs only [List.mem_cons] at hx
    constructor
    · intro hm
      rcases hx.1 (.inr hm) with e | e
      · subst e; have := h1.1 x hm; rw [ltM_irr] at this; cases this
      · exact e
    · intro hm
      rcases hx.2 (.inr hm) with e | e
      · subst e; have := h2.1 x hm; rw [ltM_irr] at this; cases this
      · exact e
theorem mem_keys {α β : Type} [DecidableEq α] {es : List (α × β)} {k : α} : k ∈ es.map (·.1) ↔ (mlook es k).isSome = true := by
  cases h : mlook es k with
  | none => simp [mlook_none.1 h]
  | some v =>
    simp -implicitDefEqProofs only [Option.isSome_some, iff_true]
    exact List.mem_map.2 ⟨_, mlook_mem h, rfl⟩
theorem len_eq {α : Type} {l l' : List α} (h1 : l.Nodup) (h2 : l'.Nodup) (h : ∀ x, x ∈ l ↔ x ∈ l') : l.length = l'.length := ((List.perm_ext_iff_of_nodup h1 h2).2 h).length_eq
def tA : ByteArray := ⟨#[97]⟩
def tB : ByteArray := ⟨#[98]⟩
def tX : ByteArray := ⟨#[120]⟩
def tY : ByteArray := ⟨#[121]⟩
end Go.Proofs.Ytodegnhallgnkaa.St
end

section
namespace Go.Proofs.Ytodegnhallgnkaa.St
open Go.Rmp Go.Proofs.Ytodegnhallgnkaa.Ir
set_option maxRecDepth 10000
theorem SH.ext {H H' : Heap} {b : Bk} {s : Sto} {F : Nat → Prop} (h : SH H b s F) (hx : Ext H H') : SH H' b s F := by
  obtain ⟨im, pm, sa⟩ := h
  exact ⟨im, pm, sa.frm (ext_frm (F := fun _ => False) hx) (fun _ _ _ h => h)⟩
theorem Frm.more {H H' H'' : Heap} {G : Nat → Prop} (h : Frm (fun _ => False) H H') (h' : Frm G H' H'') (hg : ∀ c, G c → H.length ≤ c) : Frm (fun _ => False) H H'' := h.trans h' fun c hc => .inr (hg c hc)
theorem Frm.ext {H H' H'' : Heap} {F : Nat → Prop} (h : Frm F H H') (h' : Ext H' H'') : Frm F H H'' := h.trans (ext_frm (F := fun _ => False) h') fun c hc => hc.elim
theorem frm_ext {H H' : Heap} (h : Frm (fun _ => False) H H') : Ext H H' := ext_of fun c x hx => h.get hx id
theorem li1 {k : SK} {a b c : List T} (h : b.length = 5) : iadT 5 1 (.sl k [a, b, c]) = some (.iptr b) := by simp [iadT, h]
end Go.Proofs.Ytodegnhallgnkaa.St
end

section
namespace Go.Proofs.Ytodegnhallgnkaa.St
open Go.Rmp Go.Proofs.Ytodegnhallgnkaa.Ir
set_option maxRecDepth 10000
def I64 (n : Int) : Prop := -9223372036854775808 ≤ n ∧ n ≤ 9223372036854775807
def pairsOf (ks : List ByteArray) (v : ByteArray) : List (ByteArray × ByteArray) := ks.map fun k => (k, v)
theorem pairsOf_keys (ks : List ByteArray) (v : ByteArray) : (pairsOf ks v).map (·.1) = ks := by simp [pairsOf, Function.comp_def]
end Go.Proofs.Ytodegnhallgnkaa.St
end

section
namespace Go.Proofs.Ytodegnhallgnkaa.St
open Go.Rmp Go.Proofs.Ytodegnhallgnkaa.Ir
set_option maxRecDepth 10000
def Stm (s : Sto) : Prop := ∀ m h, mlook s.vs m = some h → (h.stamp = -1 ↔ ¬ (m.2 < lastOf s m.1))
theorem Stm.emp : Stm Sto.emp := fun m h hm => by simp [Sto.emp, mlook_nil] at hm
theorem Stm.put {s s' : Sto} {n : Nat} {ks : List ByteArray} {v : ByteArray} {now : Int} {fr : Bool} (hs : Stm s) (hp : PutV s s' n (pairsOf ks v) ks now fr) (ht : 0 ≤ now) : Stm s' := by
  have hl : ∀ k, lastOf s' k = lastOf s k := fun k => by simp [lastOf, hp.ls]
  intro m h hm
  rw [hl]
  by_cases hc : m.2 = n ∧ m.1 ∈ ks
  · obtain ⟨h1, h2⟩ := hc
    have hmem : (m.1, v) ∈ pairsOf ks v := List.mem_map.2 ⟨m.1, h2, rfl⟩
    have e : m = (m.1, n) := Prod.ext rfl h1
    cases hv : mlook s.vs (m.1, n) with
    | some x =>
      have := hp.old _ hmem x hv
      rw [e, this] at hm; cases hm
      exact hs m h (by rw [e]; exact hv)
    | none =>
      obtain ⟨kk, _, hnew⟩ := hp.new _ hmem hv
      rw [e, hnew] at hm; cases hm
      simp -implicitDefEqProofs only [h1]
      by_cases hlt : n < lastOf s m.1
      · simp [hlt]; omega
      · simp [hlt]
  · rw [hp.other m (if h1 : m.2 = n then .inr (by rw [pairsOf_keys]; exact fun h2 => hc ⟨h1, h2⟩) else .inl h1)] at hm
    exact hs m h hm
theorem com_on {s s' : Sto} {n : Nat} {now : Int} {D : List ByteArray} (hc : ComV s s' n now D) {k : ByteArray} (h1 : k ∈ D) (h2 : lastOf s k < n) : lastOf s' k = n := by simp [lastOf, hc.on k h1 h2]
theorem com_off {s s' : Sto} {n : Nat} {now : Int} {D : List ByteArray} (hc : ComV s s' n now D) {k : ByteArray} (h : ¬ (k ∈ D ∧ lastOf s k < n)) : lastOf s' k = lastOf s k := by simp [lastOf, hc.off k h]
theorem Stm.com {s s' : Sto} {n : Nat} {now : Int} {D : List ByteArray} (hs : Stm s) (hc : ComV s s' n now D) (ht : 0 ≤ now) : Stm s' := by
  intro m h hm
  obtain ⟨h1, h2⟩ := hc.vs.2 m
  cases hv : mlook s.vs m with
  | none => rw [h1 hv] at hm; cases hm
  | some x =>
    have hx := hs m x hv
    by_cases hS : (m.1 ∈ D ∧ lastOf s m.1 < n ∧ m.2 < n) ∧ x.stamp = -1
    · rw [(h2 x hv).1 hS] at hm; cases hm
      rw [com_on hc hS.1.1 hS.1.2.1]
      have e : (stamped x now).stamp = now := rfl
      have h3 := hS.1.2.2
      rw [e]
      constructor
      · intro h; omega
      · intro h; exact absurd h3 h
    · rw [(h2 x hv).2 hS] at hm; cases hm
      by_cases hd : m.1 ∈ D ∧ lastOf s m.1 < n
      · rw [com_on hc hd.1 hd.2]
        by_cases hlt : m.2 < n
        · have : h.stamp ≠ -1 := fun e => hS ⟨⟨hd.1, hd.2, hlt⟩, e⟩
          exact ⟨fun e => absurd e this, fun e => absurd hlt e⟩
        · have : ¬ (m.2 < lastOf s m.1) := by omega
          exact ⟨fun _ => hlt, fun _ => hx.2 this⟩
      · rw [com_off hc hd]; exact hx
theorem Stm.drop {s : Sto} (hi : SInv s) (hs : Stm s) (k : ByteArray) (n : Nat) : Stm (s.drop k n) := by
  intro m h hm
  simp -implicitDefEqProofs only [Sto.drop, mcut_look hi.nd] at hm
  split at hm
  · cases hm
  · exact hs m h hm
end Go.Proofs.Ytodegnhallgnkaa.St
end

section
namespace Go.Proofs.Ytodegnhallgnkaa.St
open Go.Rmp Go.Proofs.Ytodegnhallgnkaa.Ir
set_option maxRecDepth 10000
theorem texts37 (k k' : SK) (l : List ByteArray) (H : Heap) (hl : l.length ≤ 8000000) : W env (.call 43 [.sl k (l.map eS), .sl k' (l.map eS)]) H (fun o H' => o = .val (.bool true) ∧ H' = H) := by
  refine W.fnI rfl rfl rfl ?_
  have e0 : (((l.length : Nat) : Int) != ((l.length : Nat) : Int)) = false := by simp
  simp -implicitDefEqProofs only [ir43, op, ef, cl, sq, reduceIte, Int.reduceLT, Int.reduceLE, Int.reduceBEq, Int.reduceBNe, Int.reduceEq, Nat.reduceAdd, Nat.reduceLeDiff, Nat.reduceLT, Nat.reduceEqDiff, S1, List.length_map, e0]
  refine W.loopI (fun (i : Nat) R H' => H' = H ∧ R 0 = .sl k (l.map eS) ∧ R 1 = .sl k' (l.map eS) ∧ R 5 = .int .i64 i ∧ i ≤ l.length) (fun i => l.length - i) 0 ⟨rfl, rfl, rfl, rfl, Nat.zero_le _⟩ ?_
  rintro i R _ ⟨rfl, h0, h1, h5, hil⟩
  by_cases hlt : i < l.length
  · obtain ⟨x, hx⟩ := getP hlt
    have ws := wrap_succ (show i < 9223372036854775807 by omega)
    have i1 := iadX (e := eS) (n := 1) (fun _ => rfl) (by decide) (k := k) hx
    have i2 := iadX (e := eS) (n := 1) (fun _ => rfl) (by decide) (k := k') hx
    simp -implicitDefEqProofs only [op, ef, cl, sq, reduceIte, Int.reduceLT, Int.reduceLE, Int.reduceBEq, Int.reduceBNe, Int.reduceEq, Nat.reduceAdd, Nat.reduceLeDiff, Nat.reduceLT, Nat.reduceEqDiff, S1, h0, h1, h5, List.length_map, hlt, natOf_nat, i1, i2, eS, ws]
    exact ⟨i + 1, by omega, rfl, by omega⟩
  · simp -implicitDefEqProofs only [op, ef, cl, sq, reduceIte, Int.reduceLT, Int.reduceLE, Int.reduceBEq, Int.reduceBNe, Int.reduceEq, Nat.reduceAdd, Nat.reduceLeDiff, Nat.reduceLT, Nat.reduceEqDiff, S1, h0, h1, h5, List.length_map, hlt]
theorem same22 (k : ByteArray) (n : Nat) (v : ByteArray) (kk kk' : SK) (ks : List ByteArray) (H : Heap) (hl : ks.length ≤ 8000000) : W env (.call 26 [.agg (eVer k n v kk ks), .agg (eVer k n v kk' ks)]) H (RetG (.bool true) H) := by
  refine W.fnI rfl rfl rfl ?_
  simp -implicitDefEqProofs only [ir26, eVer, op, ef, cl, sq, reduceIte, Int.reduceLT, Int.reduceLE, Int.reduceBEq, Int.reduceBNe, Int.reduceEq, Nat.reduceAdd, Nat.reduceLeDiff, Nat.reduceLT, Nat.reduceEqDiff, S1, S2, S3]
  refine callB_of _ _ _ _ _ _ _ _ (texts37 kk kk' ks _ hl) ?_
  rintro u H1 ⟨hu, rfl⟩
  cases hu
  simp -implicitDefEqProofs only [op, ef, cl, sq, reduceIte, Int.reduceLT, Int.reduceLE, Int.reduceBEq, Int.reduceBNe, Int.reduceEq, Nat.reduceAdd, Nat.reduceLeDiff, Nat.reduceLT, Nat.reduceEqDiff, S1]
  exact ⟨rfl, _, List.append_assoc _ _ _⟩
end Go.Proofs.Ytodegnhallgnkaa.St
end

section
namespace Go.Proofs.Ytodegnhallgnkaa.St
open Go.Rmp Go.Proofs.Ytodegnhallgnkaa.Ir
set_option maxRecDepth 10000
def SrtS (c : Nat) (d' : Array ByteArray) (H : Heap) : Out → Heap → Prop := fun o H' => o = .val (.tup []) ∧ H'[c]? = some (.cells (msC eS d'.toList)) ∧ Frm (fun x => x = c) H H'
theorem swp_setS {Hx : Heap} {c : Nat} (d : Array ByteArray) {i j : Nat} (hi : i < d.size) (hj : j < d.size) :
    stcB Hx c [.str d[j]!] (i * 1) (some (.cells (msC eS d.toList))) = some (Hx.set c (.cells (msC eS (d.toList.set i d[j]!)))) ∧
    ∀ Hy, stcB Hy c [.str d[i]!] (j * 1) (some (.cells (msC eS (d.toList.set i d[j]!)))) = some (Hy.set c (.cells (msC eS (Go.Sort.swp d i j).toList))) := by
  have g1 := msC_set (enc := eS) (n := 1) (y := d[j]!) (fun _ => rfl) (arr_get hi) Hx c (eS d[j]!) 0 (by simp [eS]) (by simp [eS])
  obtain ⟨z, hz⟩ := getP (l := d.toList.set i d[j]!) (i := j) (by simpa using hj)
  have g2 := fun Hy => msC_set (enc := eS) (n := 1) (y := d[i]!) (fun _ => rfl) hz Hy c (eS d[i]!) 0 (by simp [eS]) (by simp [eS])
  refine ⟨by simpa [eS] using g1, fun Hy => ?_⟩
  rw [swp_list]
  simpa [eS] using g2 Hy
theorem ld_atS {d : Array ByteArray} {i : Nat} (h : i < d.size) : ldcB 1 (i * 1) (some (.cells (msC eS d.toList))) = some [.str d[i]!] := by
  have := msC_get (enc := eS) (n := 1) (fun _ => rfl) (arr_get h) 0 1 (by decide)
  simpa [eS] using this
open Go.Sort in
theorem ins85 (c : Nat) (d : Array ByteArray) (a b : Nat) (H : Heap) (hc : H[c]? = some (.cells (msC eS d.toList))) (hb : b ≤ d.size) (hab : a ≤ b) (hs : d.size < 4611686018427387903) :
    W env (.call 90 [.msl c 0 d.size 1, .int .i64 a, .int .i64 b]) H (SrtS c (insertionSort strLt d a b) H) := by
  refine W.fnI rfl rfl rfl ?_
  have wa := wrap_succ (show a < 9223372036854775807 by omega)
  simp -implicitDefEqProofs only [ir90, op, ef, cl, sq, reduceIte, Int.reduceLT, Int.reduceLE, Int.reduceBEq, Int.reduceBNe, Int.reduceEq, Nat.reduceAdd, Nat.reduceLeDiff, Nat.reduceLT, Nat.reduceEqDiff, S1, wa]
  refine W.loopI (fun (i : Nat) R H' => At H' (fun H' => ∃ di : Array ByteArray, H'[c]? = some (.cells (msC eS di.toList)) ∧ di.size = d.size ∧ insOuter strLt a b i di = insertionSort strLt d a b ∧ Frm (fun x => x = c) H H') ∧ R 0 = .msl c 0 d.size 1 ∧ R 1 = .int .i64 a ∧ R 2 = .int .i64 b ∧ R 6 = .int .i64 i ∧ a + 1 ≤ i) (fun i => b - i) (a + 1) ⟨.i ⟨d, hc, rfl, rfl, Frm.refl _ _⟩, rfl, rfl, rfl, rfl, Nat.le_refl _⟩ ?_
  rintro i R H1 ⟨⟨di, hd, hsz, hins, hfr⟩, h0, h1, h2, h6, hia⟩
  by_cases hlt : i < b
  · have wi := wrap_succ (show i < 9223372036854775807 by omega)
    simp -implicitDefEqProofs only [op, ef, cl, sq, reduceIte, Int.reduceLT, Int.reduceLE, Int.reduceBEq, Int.reduceBNe, Int.reduceEq, Nat.reduceAdd, Nat.reduceLeDiff, Nat.reduceLT, Nat.reduceEqDiff, S1, h0, h1, h2, h6, hlt]
    refine W.loopE 2 (fun (j : Nat) R H' => At H' (fun H' => ∃ dj : Array ByteArray, H'[c]? = some (.cells (msC eS dj.toList)) ∧ dj.size = d.size ∧ insInner strLt a j dj = insInner strLt a i di ∧ Frm (fun x => x = c) H H') ∧ R 0 = .msl c 0 d.size 1 ∧ R 1 = .int .i64 a ∧ R 2 = .int .i64 b ∧ R 6 = .int .i64 i ∧ R 7 = .int .i64 j ∧ j ≤ i) (fun j => j) i
      (fun R H' => At H' (fun H' => ∃ dj : Array ByteArray, H'[c]? = some (.cells (msC eS dj.toList)) ∧ dj.size = d.size ∧ dj = insInner strLt a i di ∧ Frm (fun x => x = c) H H') ∧ R 0 = .msl c 0 d.size 1 ∧ R 1 = .int .i64 a ∧ R 2 = .int .i64 b ∧ R 6 = .int .i64 i) ?_ ?_ ?_
    · refine ⟨.i ⟨di, hd, hsz, rfl, hfr⟩, ?_, ?_, ?_, ?_, ?_, Nat.le_refl _⟩
      all_goals (simp -implicitDefEqProofs only [op, ef, cl, sq, reduceIte, Int.reduceLT, Int.reduceLE, Int.reduceBEq, Int.reduceBNe, Int.reduceEq, Nat.reduceAdd, Nat.reduceLeDiff, Nat.reduceLT, Nat.reduceEqDiff, S1, h0, h1, h2, h6])
    · rintro j R H2 ⟨⟨dj, hd2, hsz2, hinn, hfr2⟩, q0, q1, q2, q6, q7, hji⟩
      by_cases hja : a < j
      · obtain ⟨j', rfl⟩ : ∃ j', j = j' + 1 := ⟨j - 1, by omega⟩
        have wp : IntKind.i64.wrap (((j' + 1 : Nat) : Int) - 1) = (j' : Int) := by rw [wrap64 (by omega)]; omega
        have j1 : j' + 1 < d.size := by omega
        have j0 : j' < d.size := by omega
        have i1 : iadT 1 (j' + 1) (.msl c 0 d.size 1) = some (.ptr c ((j' + 1) * 1)) := by rw [iad_m]; simp [j1]
        have i0 : iadT 1 j' (.msl c 0 d.size 1) = some (.ptr c (j' * 1)) := by rw [iad_m]; simp [j0]
        have v1 := ld_atS (d := dj) (i := j' + 1) (by omega)
        have v0 := ld_atS (d := dj) (i := j') (by omega)
        simp -implicitDefEqProofs only [op, ef, cl, sq, reduceIte, Int.reduceLT, Int.reduceLE, Int.reduceBEq, Int.reduceBNe, Int.reduceEq, Nat.reduceAdd, Nat.reduceLeDiff, Nat.reduceLT, Nat.reduceEqDiff, S1, q0, q1, q2, q6, q7, hja, natOf_nat, i1, i0, wp, hd2, v1, v0]
        refine callB_of _ _ _ _ _ _ _ _ (less91 dj[j' + 1]! dj[j']! _) ?_
        rintro u H3 ⟨hu, rfl⟩
        cases hu
        have hd3 := hd2
        obtain ⟨s1, s2⟩ := swp_setS (Hx := H3) (c := c) dj (i := j' + 1) (j := j') (by omega) (by omega)
        cases hc0 : strLt dj[j' + 1]! dj[j']! with
        | true =>
          simp -implicitDefEqProofs only [op, ef, cl, sq, reduceIte, Int.reduceLT, Int.reduceLE, Int.reduceBEq, Int.reduceBNe, Int.reduceEq, Nat.reduceAdd, Nat.reduceLeDiff, Nat.reduceLT, Nat.reduceEqDiff, S1, q0, q1, q2, q6, q7, natOf_nat, i1, i0, wp, hd3, v1, v0, s1, S2, s2, glt hd3]
          exact ⟨j', by omega, .i ⟨swp dj (j' + 1) j', g_eq (by rw [List.length_set]; exact glt hd3), by rw [swp_size]; exact hsz2, by rw [← hinn]; conv => { rhs; rw [insInner, if_pos (by simp -implicitDefEqProofs only [Bool.and_eq_true, decide_eq_true_eq]; exact ⟨hja, hc0⟩)] }, (hfr2.set (.inl rfl) _).set (.inl rfl) _⟩, rfl, by omega⟩
        | false =>
          simp -implicitDefEqProofs only [op, ef, cl, sq, reduceIte, Int.reduceLT, Int.reduceLE, Int.reduceBEq, Int.reduceBNe, Int.reduceEq, Nat.reduceAdd, Nat.reduceLeDiff, Nat.reduceLT, Nat.reduceEqDiff, S1, q0, q1, q2, q6, q7]
          exact .i ⟨dj, hd3, hsz2, by rw [← hinn, insInner]; simp [hc0], hfr2⟩
      · simp -implicitDefEqProofs only [op, ef, cl, sq, reduceIte, Int.reduceLT, Int.reduceLE, Int.reduceBEq, Int.reduceBNe, Int.reduceEq, Nat.reduceAdd, Nat.reduceLeDiff, Nat.reduceLT, Nat.reduceEqDiff, S1, q0, q1, q2, q6, q7, hja]
        refine .i ⟨dj, hd2, hsz2, ?_, hfr2⟩
        rw [← hinn]
        cases j with
        | zero => rfl
        | succ j => rw [insInner, if_neg (by simp -implicitDefEqProofs only [Bool.and_eq_true, decide_eq_true_eq]; omega)]
    · rintro R H2 ⟨⟨dj, hd2, hsz2, hinn, hfr2⟩, q0, q1, q2, q6⟩
      simp -implicitDefEqProofs only [op, ef, cl, sq, reduceIte, Int.reduceLT, Int.reduceLE, Int.reduceBEq, Int.reduceBNe, Int.reduceEq, Nat.reduceAdd, Nat.reduceLeDiff, Nat.reduceLT, Nat.reduceEqDiff, S1, q0, q1, q2, q6, wi]
      refine ⟨i + 1, by omega, .i ⟨dj, hd2, hsz2, ?_, hfr2⟩, rfl, by omega⟩
      rw [← hins, hinn]
      conv => rhs; rw [insOuter, if_pos hlt]
  · simp -implicitDefEqProofs only [op, ef, cl, sq, reduceIte, Int.reduceLT, Int.reduceLE, Int.reduceBEq, Int.reduceBNe, Int.reduceEq, Nat.reduceAdd, Nat.reduceLeDiff, Nat.reduceLT, Nat.reduceEqDiff, S1, h0, h1, h2, h6, hlt]
    rw [insOuter, if_neg hlt] at hins
    subst hins
    exact ⟨rfl, hd, hfr⟩
theorem strLt_swo : Go.Sort.SWO strLt where
  irrefl := lt_irr
  trans _ _ _ h1 h2 := lt_trans' h1 h2
  ntrans x y z h1 h2 := by
    cases h : strLt x z with
    | false => rfl
    | true =>
      cases h3 : strLt y x with
      | true => rw [lt_trans' h3 h] at h2; cases h2
      | false => have := lt_tri h1 h3; subst this; rw [h] at h2; cases h2
theorem sorted_listS {d : Array ByteArray} (hn : d.toList.Nodup) : (Go.Sort.insertionSort strLt d 0 d.size).toList.Perm d.toList ∧ (Go.Sort.insertionSort strLt d 0 d.size).toList.Pairwise (fun a b => strLt a b = true) := by
  obtain ⟨⟨hs, _, hp⟩, hsort⟩ := Go.Sort.insertionSort_holds (lt := strLt) strLt_swo d 0 d.size (Nat.zero_le _) (Nat.le_refl _)
  have e1 : (Go.Sort.insertionSort strLt d 0 d.size).extract 0 d.size = Go.Sort.insertionSort strLt d 0 d.size := by
    conv => lhs; arg 3; rw [← hs]
    simp
  have hperm : (Go.Sort.insertionSort strLt d 0 d.size).toList.Perm d.toList := by
    rw [e1] at hp
    simpa using hp
  refine ⟨hperm, ?_⟩
  have hn2 : (Go.Sort.insertionSort strLt d 0 d.size).toList.Nodup := hperm.nodup_iff.2 hn
  rw [List.pairwise_iff_getElem]
  intro i j hi hj hij
  have h1 := hsort i j (Nat.zero_le _) hij (by rw [← hs]; simpa using hj)
  have gi := arr_get (d := Go.Sort.insertionSort strLt d 0 d.size) (i := i) (by simpa using hi)
  have gj := arr_get (d := Go.Sort.insertionSort strLt d 0 d.size) (i := j) (by simpa using hj)
  rw [List.getElem?_eq_getElem hi] at gi
  rw [List.getElem?_eq_getElem hj] at gj
  rw [Option.some.inj gi, Option.some.inj gj]
  cases h : strLt (Go.Sort.insertionSort strLt d 0 d.size)[i]! (Go.Sort.insertionSort strLt d 0 d.size)[j]! with
  | true => rfl
  | false =>
    have e := lt_tri h h1
    rw [← Option.some.inj gi, ← Option.some.inj gj] at e
    have := (List.getElem_inj hn2).1 e
    omega
theorem ins85e (H : Heap) : W env (.call 90 [.sl .nil [], .int .i64 0, .int .i64 0]) H (Ret (.tup []) H) := by
  refine W.fnI rfl rfl rfl ?_
  have wa : IntKind.i64.wrap ((0 : Int) + 1) = 1 := by decide
  simp -implicitDefEqProofs only [ir90, op, ef, cl, sq, reduceIte, Int.reduceLT, Int.reduceLE, Int.reduceBEq, Int.reduceBNe, Int.reduceEq, Nat.reduceAdd, Nat.reduceLeDiff, Nat.reduceLT, Nat.reduceEqDiff, S1, wa]
  refine W.loopI (fun (_ : Nat) R H' => H' = H ∧ R 2 = .int .i64 0 ∧ R 6 = .int .i64 1) (fun _ => 0) 0 ⟨rfl, rfl, rfl⟩ ?_
  rintro _ R _ ⟨rfl, h2, h6⟩
  have l0 : ¬ ((1 : Int) < 0) := by decide
  simp -implicitDefEqProofs only [op, ef, cl, sq, reduceIte, Int.reduceLT, Int.reduceLE, Int.reduceBEq, Int.reduceBNe, Int.reduceEq, Nat.reduceAdd, Nat.reduceLeDiff, Nat.reduceLT, Nat.reduceEqDiff, S1, h2, h6, l0]
  trivial
theorem pdqE69 (m : Nat) (H : Heap) : W env (.call 74 [.sl .nil [], .int .i64 0, .int .i64 0, .int .i64 m]) H (Ret (.tup []) H) := by
  refine W.fnI rfl rfl rfl ?_
  have w1 : IntKind.i64.wrap ((0 : Int) - 0) = 0 := by decide
  simp -implicitDefEqProofs only [ir74, op, ef, cl, sq, reduceIte, Int.reduceLT, Int.reduceLE, Int.reduceBEq, Int.reduceBNe, Int.reduceEq, Nat.reduceAdd, Nat.reduceLeDiff, Nat.reduceLT, Nat.reduceEqDiff, S1]
  refine W.loopI (fun (_ : Nat) R H' => H' = H ∧ R 0 = .sl .nil [] ∧ R 1 = .int .i64 0 ∧ R 2 = .int .i64 0) (fun _ => 0) 0 ⟨rfl, rfl, rfl, rfl⟩ ?_
  rintro _ R _ ⟨rfl, h0, h1, h2⟩
  have l0 : (0 : Int) ≤ 12 := by decide
  simp -implicitDefEqProofs only [op, ef, cl, sq, reduceIte, Int.reduceLT, Int.reduceLE, Int.reduceBEq, Int.reduceBNe, Int.reduceEq, Nat.reduceAdd, Nat.reduceLeDiff, Nat.reduceLT, Nat.reduceEqDiff, S1, h0, h1, h2, w1, l0]
  refine callB_of _ _ _ _ _ _ _ _ (ins85e _) ?_
  rintro u H2 ⟨hu, rfl⟩
  cases hu
  simp -implicitDefEqProofs only [op, ef, cl, sq, reduceIte, Int.reduceLT, Int.reduceLE, Int.reduceBEq, Int.reduceBNe, Int.reduceEq, Nat.reduceAdd, Nat.reduceLeDiff, Nat.reduceLT, Nat.reduceEqDiff, S1]
  trivial
theorem sortE55 (H : Heap) : W env (.call 57 [.sl .nil []]) H (Ret (.tup []) H) := by
  refine W.fnI rfl rfl rfl ?_
  have w1 : IntKind.u64.wrap ((0 : Nat) : Int) = ((0 : Nat) : Int) := by decide
  have e0 : ((0 : Nat) : Int) = 0 := rfl
  simp -implicitDefEqProofs only [ir57, op, ef, cl, sq, reduceIte, Int.reduceLT, Int.reduceLE, Int.reduceBEq, Int.reduceBNe, Int.reduceEq, Nat.reduceAdd, Nat.reduceLeDiff, Nat.reduceLT, Nat.reduceEqDiff, S1, w1]
  refine callB_of _ _ _ _ _ _ _ _ (lenN 0 (by omega) _) ?_
  rintro u H1 ⟨rfl, m, hu⟩
  cases hu
  simp -implicitDefEqProofs only [op, ef, cl, sq, reduceIte, Int.reduceLT, Int.reduceLE, Int.reduceBEq, Int.reduceBNe, Int.reduceEq, Nat.reduceAdd, Nat.reduceLeDiff, Nat.reduceLT, Nat.reduceEqDiff, S1, e0]
  refine callB_of _ _ _ _ _ _ _ _ (pdqE69 m _) ?_
  rintro u H2 ⟨hu, rfl⟩
  cases hu
  simp -implicitDefEqProofs only [op, ef, cl, sq, reduceIte, Int.reduceLT, Int.reduceLE, Int.reduceBEq, Int.reduceBNe, Int.reduceEq, Nat.reduceAdd, Nat.reduceLeDiff, Nat.reduceLT, Nat.reduceEqDiff, S1]
  trivial
open Go.Sort in
theorem pdqS69 (c : Nat) (d : Array ByteArray) (m : Nat) (H : Heap) (hc : H[c]? = some (.cells (msC eS d.toList))) (hs : d.size ≤ 12) :
    W env (.call 74 [.msl c 0 d.size 1, .int .i64 0, .int .i64 d.size, .int .i64 m]) H (SrtS c (insertionSort strLt d 0 d.size) H) := by
  refine W.fnI rfl rfl rfl ?_
  have w1 : IntKind.i64.wrap ((d.size : Int) - 0) = (d.size : Int) := by rw [wrap64 (by omega)]; omega
  have h12 : (d.size : Int) ≤ 12 := by omega
  simp -implicitDefEqProofs only [ir74, op, ef, cl, sq, reduceIte, Int.reduceLT, Int.reduceLE, Int.reduceBEq, Int.reduceBNe, Int.reduceEq, Nat.reduceAdd, Nat.reduceLeDiff, Nat.reduceLT, Nat.reduceEqDiff, S1]
  refine W.loopI (fun (_ : Nat) R H' => H' = H ∧ R 0 = .msl c 0 d.size 1 ∧ R 1 = .int .i64 0 ∧ R 2 = .int .i64 d.size) (fun _ => 0) 0 ⟨rfl, rfl, rfl, rfl⟩ ?_
  rintro _ R _ ⟨rfl, h0, h1, h2⟩
  simp -implicitDefEqProofs only [op, ef, cl, sq, reduceIte, Int.reduceLT, Int.reduceLE, Int.reduceBEq, Int.reduceBNe, Int.reduceEq, Nat.reduceAdd, Nat.reduceLeDiff, Nat.reduceLT, Nat.reduceEqDiff, S1, h0, h1, h2, w1, hs]
  refine callB_of _ _ _ _ _ _ _ _ (ins85 c d 0 d.size _ hc (Nat.le_refl _) (Nat.zero_le _) (by omega)) ?_
  rintro u H2 ⟨hu, q1, q2⟩
  cases hu
  simp -implicitDefEqProofs only [op, ef, cl, sq, reduceIte, Int.reduceLT, Int.reduceLE, Int.reduceBEq, Int.reduceBNe, Int.reduceEq, Nat.reduceAdd, Nat.reduceLeDiff, Nat.reduceLT, Nat.reduceEqDiff, S1]
  exact ⟨rfl, q1, q2⟩
open Go.Sort in
theorem sortS55 (c : Nat) (d : Array ByteArray) (H : Heap) (hc : H[c]? = some (.cells (msC eS d.toList))) (hs : d.size ≤ 12) :
    W env (.call 57 [.msl c 0 d.size 1]) H (SrtS c (insertionSort strLt d 0 d.size) H) := by
  refine W.fnI rfl rfl rfl ?_
  have w1 : IntKind.u64.wrap (d.size : Int) = (d.size : Int) := wrapu (by omega)
  simp -implicitDefEqProofs only [ir57, op, ef, cl, sq, reduceIte, Int.reduceLT, Int.reduceLE, Int.reduceBEq, Int.reduceBNe, Int.reduceEq, Nat.reduceAdd, Nat.reduceLeDiff, Nat.reduceLT, Nat.reduceEqDiff, S1, w1]
  refine callB_of _ _ _ _ _ _ _ _ (lenN d.size (by omega) _) ?_
  rintro u H1 ⟨rfl, m, hu⟩
  cases hu
  simp -implicitDefEqProofs only [op, ef, cl, sq, reduceIte, Int.reduceLT, Int.reduceLE, Int.reduceBEq, Int.reduceBNe, Int.reduceEq, Nat.reduceAdd, Nat.reduceLeDiff, Nat.reduceLT, Nat.reduceEqDiff, S1]
  refine callB_of _ _ _ _ _ _ _ _ (pdqS69 c d m _ hc hs) ?_
  rintro u H2 ⟨hu, q1, q2⟩
  cases hu
  simp -implicitDefEqProofs only [op, ef, cl, sq, reduceIte, Int.reduceLT, Int.reduceLE, Int.reduceBEq, Int.reduceBNe, Int.reduceEq, Nat.reduceAdd, Nat.reduceLeDiff, Nat.reduceLT, Nat.reduceEqDiff, S1]
  exact ⟨rfl, q1, q2⟩
def SortSQ (es : List (ByteArray × T)) (H : Heap) : Out → Heap → Prop := fun o H' => Ext H H' ∧ ∃ t l, o = .val t ∧ Mut eS 1 H.length H' t l ∧ l.Perm (es.map (·.1)) ∧ l.Pairwise (fun a b => strLt a b = true)
theorem sorted38 (es : List (ByteArray × T)) (c mb : Nat) (H : Heap) (hnd : (es.map (·.1)).Nodup) (hes : es.length ≤ 12) (hc : H[c]? = some (.cells [.map mb])) (hm : H[mb]? = some (.map (encK T.str es))) :
    W env (.call 41 [.fn 58 [.ptr c 0]]) H (SortSQ es H) := by
  refine W.fnI rfl rfl rfl ?_
  simp -implicitDefEqProofs only [ir41, op, ef, cl, sq, reduceIte, Int.reduceLT, Int.reduceLE, Int.reduceBEq, Int.reduceBNe, Int.reduceEq, Nat.reduceAdd, Nat.reduceLeDiff, Nat.reduceLT, Nat.reduceEqDiff, S1]
  refine callB_of _ _ _ _ _ _ _ _ (coll54 es c mb H hnd (by omega) hc hm) ?_
  rintro u H1 ⟨hx, t, vis, hu, hmt, hri⟩
  cases hu
  have hperm : vis.Perm (es.map (·.1)) := (List.perm_ext_iff_of_nodup hri.nvis hnd).2 fun k => hri.end' k
  have hvl : vis.length = es.length := by have := hri.len; simpa using this
  rcases hmt with ⟨rfl, rfl⟩ | ⟨d, rfl, hd, hdn⟩
  · simp -implicitDefEqProofs only [op, ef, cl, sq, reduceIte, Int.reduceLT, Int.reduceLE, Int.reduceBEq, Int.reduceBNe, Int.reduceEq, Nat.reduceAdd, Nat.reduceLeDiff, Nat.reduceLT, Nat.reduceEqDiff, S1]
    refine callB_of _ _ _ _ _ _ _ _ (sortE55 _) ?_
    rintro u H2 ⟨hu, rfl⟩
    cases hu
    simp -implicitDefEqProofs only [op, ef, cl, sq, reduceIte, Int.reduceLT, Int.reduceLE, Int.reduceBEq, Int.reduceBNe, Int.reduceEq, Nat.reduceAdd, Nat.reduceLeDiff, Nat.reduceLT, Nat.reduceEqDiff, S1]
    exact ⟨hx, _, [], rfl, mut_nil _ _ _ _, hperm, List.Pairwise.nil⟩
  · simp -implicitDefEqProofs only [op, ef, cl, sq, reduceIte, Int.reduceLT, Int.reduceLE, Int.reduceBEq, Int.reduceBNe, Int.reduceEq, Nat.reduceAdd, Nat.reduceLeDiff, Nat.reduceLT, Nat.reduceEqDiff, S1]
    have := sortS55 d vis.toArray H1 (by simpa using hd) (by simpa using (by omega : vis.length ≤ 12))
    simp -implicitDefEqProofs only [List.size_toArray] at this
    refine callB_of _ _ _ _ _ _ _ _ this ?_
    rintro u H2 ⟨hu, h2, hfr⟩
    cases hu
    simp -implicitDefEqProofs only [op, ef, cl, sq, reduceIte, Int.reduceLT, Int.reduceLE, Int.reduceBEq, Int.reduceBNe, Int.reduceEq, Nat.reduceAdd, Nat.reduceLeDiff, Nat.reduceLT, Nat.reduceEqDiff, S1]
    have hs := sorted_listS (d := vis.toArray) (by simpa using hri.nvis)
    simp -implicitDefEqProofs only [List.size_toArray] at hs
    refine ⟨ext_of fun a x hax => hfr.get (hx.get hax) (by have := glt hax; omega), _, _, rfl, .inr ⟨d, ?_, h2, hdn⟩, hs.1.trans hperm, hs.2⟩
    rw [hs.1.length_eq]
def eL (x : ByteArray × Nat) : List T := [.str x.1, .int .u64 x.2]
def lastL (s : Sto) (l : List ByteArray) : List (ByteArray × Nat) := l.map fun k => (k, lastOf s k)
def LastsQ (s : Sto) (H : Heap) : Out → Heap → Prop := fun o H' => Ext H H' ∧ ∃ k l, KOk k l ∧ o = .val (.sl k ((lastL s l).map eL)) ∧ l.Perm (s.ls.map (·.1)) ∧ l.Pairwise (fun a b => strLt a b = true)
theorem lasts24 (b : Bk) (s : Sto) (F : Nat → Prop) (H : Heap) (hs : SH H b s F) (hi : SInv s) (hn : s.ls.length ≤ 12) : W env (.call 23 [.ptr b.s 0]) H (LastsQ s H) := by
  obtain ⟨im, pm, sa⟩ := hs
  refine W.fnI rfl rfl rfl ?_
  simp -implicitDefEqProofs only [ir23, op, ef, cl, sq, reduceIte, Int.reduceLT, Int.reduceLE, Int.reduceBEq, Int.reduceBNe, Int.reduceEq, Nat.reduceAdd, Nat.reduceLeDiff, Nat.reduceLT, Nat.reduceEqDiff, S1, sa.hs]
  refine callB_of _ _ _ _ _ _ _ (fun o H' => o = .val (.fn 58 [.ptr H.length 0]) ∧ H' = H ++ [.cells [.map b.l]]) ?_ ?_
  · refine W.fnI rfl rfl rfl ?_
    simp -implicitDefEqProofs only [ir42, op, ef, cl, sq, reduceIte, Int.reduceLT, Int.reduceLE, Int.reduceBEq, Int.reduceBNe, Int.reduceEq, Nat.reduceAdd, Nat.reduceLeDiff, Nat.reduceLT, Nat.reduceEqDiff, S1]
    exact rfl
  rintro u H1 ⟨hu, rfl⟩
  cases hu
  have ll := glt sa.hl
  have hkeys : (encL s.ls).map (·.1) = s.ls.map (·.1) := by simp [encL]
  simp -implicitDefEqProofs only [op, ef, cl, sq, reduceIte, Int.reduceLT, Int.reduceLE, Int.reduceBEq, Int.reduceBNe, Int.reduceEq, Nat.reduceAdd, Nat.reduceLeDiff, Nat.reduceLT, Nat.reduceEqDiff, S1]
  refine callB_of _ _ _ _ _ _ _ _ (sorted38 (encL s.ls) H.length b.l _ (by rw [hkeys]; exact hi.ndl) (by simpa [encL] using hn) (g_tail rfl) (by rw [g_app ll]; exact sa.hl)) ?_
  rintro t H2 ⟨hx2, _, l, hu, hmt, hperm, hpw⟩
  cases hu
  rw [hkeys] at hperm
  have hll : l.length ≤ 12 := by rw [hperm.length_eq]; simpa using hn
  have hlen := hmt.len
  have hx0 : Ext H H2 := (Ext.rfl'.app _).trans hx2
  simp -implicitDefEqProofs only [op, ef, cl, sq, reduceIte, Int.reduceLT, Int.reduceLE, Int.reduceBEq, Int.reduceBNe, Int.reduceEq, Nat.reduceAdd, Nat.reduceLeDiff, Nat.reduceLT, Nat.reduceEqDiff, S1, hlen]
  refine W.loopI (fun (i : Nat) R H' => At H' (fun H' => ∃ kw, R 3 = .sl kw ((lastL s (l.take i)).map eL) ∧ Ext H H' ∧ Ext H2 H' ∧ Apd H2.length H' kw ∧ KOk kw (l.take i)) ∧ R 0 = .ptr b.s 0 ∧ R 11 = t ∧ R 12 = .int .i64 l.length ∧ R 13 = .int .i64 i ∧ i ≤ l.length) (fun i => l.length - i) 0 ⟨.i ⟨.nil, rfl, hx0, Ext.rfl', apd_nil _ _, fun _ => rfl⟩, rfl, rfl, rfl, rfl, Nat.zero_le _⟩ ?_
  rintro i R H3 ⟨⟨kw, h3, hx3, hx23, hap, hko⟩, h0, h11, h12, h13, hil⟩
  by_cases hlt : i < l.length
  · obtain ⟨m, hm⟩ := getP hlt
    have ws := wrap_succ (show i < 9223372036854775807 by omega)
    obtain ⟨c, g1, g2, g3⟩ := mut_n (enc := eS) (n := 1) (fun _ => rfl) (by decide) (hmt.ext hx23) hm
    have sa3 := sa.frm (ext_frm (F := fun _ => False) hx3) (fun _ _ _ h => h)
    have hlk := lkp_last s m
    have hall := all_map (enc := eL) (n := 2) (fun _ => rfl) (lastL s (l.take i))
    have hkl : ((lastL s (l.take i)).map eL).length ≤ 12 := by simp -implicitDefEqProofs only [lastL, List.length_map, List.length_take]; omega
    obtain ⟨k', H5, ha, hap', hst⟩ := app_ok (bytes := 24) ((lastL s (l.take i)).map eL) [[T.str m, .int .u64 (lastOf s m)]] hap hx23.len (by simp) (roomT (by simp -implicitDefEqProofs only [List.length_cons, List.length_nil]; omega))
    have hnn := app_nn ha (by simp)
    simp -implicitDefEqProofs only [op, ef, cl, sq, reduceIte, Int.reduceLT, Int.reduceLE, Int.reduceBEq, Int.reduceBNe, Int.reduceEq, Nat.reduceAdd, Nat.reduceLeDiff, Nat.reduceLT, Nat.reduceEqDiff, S1] at ha
    simp -implicitDefEqProofs only [op, ef, cl, sq, reduceIte, Int.reduceLT, Int.reduceLE, Int.reduceBEq, Int.reduceBNe, Int.reduceEq, Nat.reduceAdd, Nat.reduceLeDiff, Nat.reduceLT, Nat.reduceEqDiff, S1, h0, h3, h11, h12, h13, hlt, natOf_nat, g1, g2, g3, eS, sa3.hs, sa3.hl, lkpB_M, hlk, hall, ha, ws]
    refine ⟨i + 1, by omega, .i ⟨k', ?_, hst.ext H (by have := hx0.len; omega) hx3, hst.ext H2 (Nat.le_refl _) hx23, hap', fun h => absurd h hnn⟩, rfl, by omega⟩
    rw [take_sn hm]
    simp -implicitDefEqProofs only [lastL, List.map_append, List.map_cons, List.map_nil, eL]
  · have hil' : i = l.length := by omega
    subst hil'
    rw [List.take_length] at h3 hko
    simp -implicitDefEqProofs only [op, ef, cl, sq, reduceIte, Int.reduceLT, Int.reduceLE, Int.reduceBEq, Int.reduceBNe, Int.reduceEq, Nat.reduceAdd, Nat.reduceLeDiff, Nat.reduceLT, Nat.reduceEqDiff, S1, h3, h12, h13, hlt]
    exact ⟨hx3, kw, l, hko, rfl, hperm, hpw⟩
end Go.Proofs.Ytodegnhallgnkaa.St
end

section
namespace Go.Proofs.Ytodegnhallgnkaa.St
open Go.Rmp Go.Proofs.Ytodegnhallgnkaa.Ir
set_option maxRecDepth 10000
structure Vd where
  value : ByteArray
  keys : List ByteArray
  stamp : Int
def Hd.vd (h : Hd) : Vd := ⟨h.value, h.keys, h.stamp⟩
structure Ab where
  v : Nm → Option Vd
  l : ByteArray → Option Nat
def Ab.last (a : Ab) (k : ByteArray) : Nat := (a.l k).getD 0
def Ab.has (a : Ab) (m : Nm) : Bool := (a.v m).isSome
def absS (s : Sto) : Ab := ⟨fun m => (mlook s.vs m).map Hd.vd, fun k => mlook s.ls k⟩
def Ab.emp : Ab := ⟨fun _ => none, fun _ => none⟩
def Ab.put (a : Ab) (n : Nat) (l : List (ByteArray × ByteArray)) (ks : List ByteArray) (now : Int) : Ab :=
  ⟨fun m => match a.v m with
    | some h => some h
    | none => if m.2 = n then (mlook l m.1).map fun v => ⟨v, ks, if n < a.last m.1 then now else -1⟩ else none, a.l⟩
def Ab.fresh (a : Ab) (n : Nat) (l : List (ByteArray × ByteArray)) : Bool := l.any fun p => !a.has (p.1, n)
def Ab.com (a : Ab) (n : Nat) (now : Int) : Ab :=
  ⟨fun m => (a.v m).map fun h => if h.stamp = -1 ∧ a.has (m.1, n) = true ∧ a.last m.1 < n ∧ m.2 < n then { h with stamp := now } else h,
   fun k => if a.has (k, n) = true ∧ a.last k < n then some n else a.l k⟩
def Ab.cut (a : Ab) (m0 : Nm) : Ab := ⟨fun m => if m = m0 then none else a.v m, a.l⟩
theorem ab_ext {a b : Ab} (h1 : ∀ m, a.v m = b.v m) (h2 : ∀ k, a.l k = b.l k) : a = b := by
  cases a; cases b; simp -implicitDefEqProofs only [Ab.mk.injEq]; exact ⟨funext h1, funext h2⟩
theorem mlook_of {α β : Type} [DecidableEq α] {es : List (α × β)} (hn : (es.map (·.1)).Nodup) {p : α × β} (hp : p ∈ es) : mlook es p.1 = some p.2 := by
  induction es with
  | nil => cases hp
  | cons e es ih =>
    rw [List.map_cons, List.nodup_cons] at hn
    rw [mlook_cons]
    rcases List.mem_cons.1 hp with rfl | hp
    · simp
    · rw [if_neg, ih hn.2 hp]
      intro h
      exact hn.1 (h ▸ List.mem_map.2 ⟨p, hp, rfl⟩)
theorem PutV.abs {s s' : Sto} {n : Nat} {l : List (ByteArray × ByteArray)} {ks : List ByteArray} {now : Int} {fr : Bool} (h : PutV s s' n l ks now fr) (hn : (l.map (·.1)).Nodup) : absS s' = (absS s).put n l ks now := by
  refine ab_ext (fun m => ?_) fun k => by simp -implicitDefEqProofs only [absS, Ab.put, h.ls]
  simp -implicitDefEqProofs only [absS, Ab.put]
  by_cases hm : m.2 = n ∧ m.1 ∈ l.map (·.1)
  · obtain ⟨rfl, hm⟩ := hm
    obtain ⟨p, hp, hpm⟩ := List.mem_map.1 hm
    have e : m = (p.1, m.2) := by rw [hpm]
    cases hl : mlook s.vs m with
    | some x =>
      have := h.old p hp x (by rw [← e]; exact hl)
      rw [← e] at this
      simp [this]
    | none =>
      obtain ⟨kk, _, h2⟩ := h.new p hp (by rw [← e]; exact hl)
      rw [← e] at h2
      have h3 := mlook_of hn hp
      rw [hpm] at h3 h2
      simp -implicitDefEqProofs only [h2, h3, Hd.vd, Option.map_some, Option.map_none, if_true]; rfl
  · have h1 := h.other m (by
      by_cases e : m.2 = n
      · exact .inr fun h => hm ⟨e, h⟩
      · exact .inl e)
    rw [h1]
    cases hl : mlook s.vs m with
    | some x => simp
    | none =>
      simp -implicitDefEqProofs only [Option.map_none]
      split
      · rename_i e
        rw [mlook_none.2 fun h => hm ⟨e, h⟩]; rfl
      · rfl
theorem PutV.fr {s s' : Sto} {n : Nat} {l : List (ByteArray × ByteArray)} {ks : List ByteArray} {now : Int} {fr : Bool} (h : PutV s s' n l ks now fr) : fr = (absS s).fresh n l := by
  rw [Bool.eq_iff_iff, h.fresh]
  simp -implicitDefEqProofs only [Ab.fresh, List.any_eq_true, Ab.has, absS, Option.isSome_map, Bool.not_eq_true', Option.isSome_eq_false_iff, Option.isNone_iff_eq_none]
theorem ComV.abs {s s' : Sto} {n : Nat} {now : Int} (hi : SInv s) (h : ComV s s' n now (s.pls n)) : absS s' = (absS s).com n now := by
  have hp : ∀ k, k ∈ s.pls n ↔ (absS s).has (k, n) = true := fun k => by rw [hi.plm]; simp [Ab.has, absS]
  have hlast : ∀ k, lastOf s k = (absS s).last k := fun _ => rfl
  have hv : ∀ m, (absS s).v m = (mlook s.vs m).map Hd.vd := fun _ => rfl
  have hl' : ∀ k, (absS s).l k = mlook s.ls k := fun _ => rfl
  obtain ⟨a, ha⟩ : ∃ a, a = absS s := ⟨_, rfl⟩
  rw [← ha] at hp hlast hv hl' ⊢
  refine ab_ext (fun m => ?_) fun k => ?_
  · obtain ⟨h1, h2⟩ := h.vs.2 m
    show (mlook s'.vs m).map Hd.vd = (a.v m).map _
    rw [hv]
    cases hl : mlook s.vs m with
    | none => rw [h1 hl]; rfl
    | some x =>
      obtain ⟨h3, h4⟩ := h2 x hl
      by_cases hc : (m.1 ∈ s.pls n ∧ lastOf s m.1 < n ∧ m.2 < n) ∧ x.stamp = -1
      · rw [h3 hc]
        simp -implicitDefEqProofs only [Option.map_some, Option.some.injEq]
        rw [if_pos ⟨hc.2, (hp _).1 hc.1.1, hlast _ ▸ hc.1.2.1, hc.1.2.2⟩]; rfl
      · rw [h4 hc]
        simp -implicitDefEqProofs only [Option.map_some, Option.some.injEq]
        rw [if_neg]
        rintro ⟨a, b, c, d⟩
        exact hc ⟨⟨(hp _).2 b, by rw [hlast]; exact c, d⟩, a⟩
  · show mlook s'.ls k = if _ then _ else a.l k
    rw [hl']
    by_cases hc : k ∈ s.pls n ∧ lastOf s k < n
    · rw [h.on k hc.1 hc.2, if_pos ⟨(hp _).1 hc.1, by rw [← hlast]; exact hc.2⟩]
    · rw [h.off k hc, if_neg fun hh => hc ⟨(hp _).2 hh.1, by rw [hlast]; exact hh.2⟩]
theorem drop_abs {s : Sto} (hi : SInv s) (k : ByteArray) (n : Nat) : absS (s.drop k n) = (absS s).cut (k, n) := by
  refine ab_ext (fun m => ?_) fun k => rfl
  simp -implicitDefEqProofs only [absS, Ab.cut, Sto.drop, mcut_look hi.nd]
  split <;> rfl
theorem nd_le {α : Type} : ∀ {l l' : List α}, l.Nodup → (∀ x ∈ l, x ∈ l') → l.length ≤ l'.length
  | [], _, _, _ => Nat.zero_le _
  | x :: l, l', hn, hs => by
    obtain ⟨a, b, rfl⟩ := List.append_of_mem (hs x List.mem_cons_self)
    rw [List.nodup_cons] at hn
    have := nd_le (l := l) (l' := a ++ b) hn.2 fun y hy => by
      have h := hs y (List.mem_cons_of_mem _ hy)
      rcases List.mem_append.1 h with h | h
      · exact List.mem_append_left _ h
      · rcases List.mem_cons.1 h with rfl | h
        · exact absurd hy hn.1
        · exact List.mem_append_right _ h
    simp -implicitDefEqProofs only [List.length_append, List.length_cons] at this ⊢
    omega
theorem PutV.vlen {s s' : Sto} {n : Nat} {l : List (ByteArray × ByteArray)} {ks : List ByteArray} {now : Int} {fr : Bool} (h : PutV s s' n l ks now fr) (hi : SInv s') : s'.vs.length ≤ s.vs.length + l.length := by
  have := nd_le (l := s'.vs.map (·.1)) (l' := s.vs.map (·.1) ++ l.map fun p => (p.1, n)) hi.nd fun m hm => by
    rw [List.mem_append]
    by_cases hc : m.2 = n ∧ m.1 ∈ l.map (·.1)
    · obtain ⟨p, hp, e⟩ := List.mem_map.1 hc.2
      exact .inr (List.mem_map.2 ⟨p, hp, by rw [e, ← hc.1]⟩)
    · refine .inl ?_
      rw [mem_keys] at hm ⊢
      rwa [h.other m (by
        by_cases e : m.2 = n
        · exact .inr fun h => hc ⟨e, h⟩
        · exact .inl e)] at hm
  simpa using this
theorem VS.vlen {v v' : List (Nm × Hd)} {now : Int} {S : Nm → Prop} (h : VS v v' now S) (hn : (v.map (·.1)).Nodup) : v'.length = v.length := by
  have := len_eq h.1 hn fun m => by rw [mem_keys, mem_keys, h.some]
  simpa using this
def AtS (H : Heap) (b : Bk) (a : Ab) (F : Nat → Prop) (n : Nat) : Prop := ∃ s, SH H b s F ∧ SInv s ∧ absS s = a ∧ s.n ≤ n ∧ s.vs.length ≤ n
theorem AtS.ext {H H' : Heap} {b : Bk} {a : Ab} {F : Nat → Prop} {n : Nat} (h : AtS H b a F n) (hx : Ext H H') : AtS H' b a F n := by
  obtain ⟨s, h1, h2⟩ := h
  exact ⟨s, h1.ext hx, h2⟩
theorem AtS.le {H : Heap} {b : Bk} {a : Ab} {F : Nat → Prop} {n m : Nat} (h : AtS H b a F n) (hm : n ≤ m) : AtS H b a F m := by
  obtain ⟨s, h1, h2, h3, h4, h5⟩ := h
  exact ⟨s, h1, h2, h3, by omega, by omega⟩
theorem AtS.frm {H H' : Heap} {b : Bk} {a : Ab} {F G : Nat → Prop} {n : Nat} (h : AtS H b a F n) (hf : Frm G H H') (hg : ∀ c, F c → c < H.length → ¬ G c) : AtS H' b a F n := by
  obtain ⟨s, ⟨im, pm, sa⟩, h2⟩ := h
  exact ⟨s, ⟨im, pm, sa.frm hf hg⟩, h2⟩
def Gro (F F' : Nat → Prop) (H H' : Heap) : Prop := ∀ c, F' c → F c ∨ (H.length ≤ c ∧ c < H'.length)
theorem newA (H : Heap) : W env (.call 12 []) H (fun o H' => Ext H H' ∧ ∃ b F, o = .val (.ptr b.s 0) ∧ AtS H' b Ab.emp F 0 ∧ ∀ c, F c → H.length ≤ c ∧ c < H'.length) :=
  W.use (new7 H) fun o H' ⟨hx, b, F, hu, sh, hF⟩ => ⟨hx, b, F, hu, ⟨_, sh, SInv.emp, rfl, Nat.le_refl _, Nat.le_refl _⟩, hF⟩
theorem may_nd {n : Nat} {l : List (ByteArray × ByteArray)} {ks : List ByteArray} (h : MayP n l ks) : (l.map (·.1)).Nodup := by
  refine List.pairwise_map.2 (List.pairwise_iff_getElem.2 fun i j hi hj hij e => ?_)
  have := pairs_lt h i j _ _ hij (List.getElem?_eq_getElem hi) (List.getElem?_eq_getElem hj)
  rw [e, lt_irr] at this; cases this
def PutAQ (b : Bk) (a : Ab) (F : Nat → Prop) (m n : Nat) (l : List (ByteArray × ByteArray)) (ks : List ByteArray) (now : Int) (H : Heap) : Out → Heap → Prop := fun o H' =>
  ∃ F', o = .val (.tup [.bool (a.fresh n l), .int .i64 0]) ∧ AtS H' b (a.put n l ks now) F' (m + l.length) ∧ Frm F H H' ∧ Gro F F' H H'
theorem putA {b : Bk} {a : Ab} {F : Nat → Prop} {m : Nat} (n : Nat) (k k' : SK) (l : List (ByteArray × ByteArray)) (ks : List ByteArray) (now : Int) {H : Heap} (h : AtS H b a F m) (hn : m + l.length ≤ 8000000) (hko : KOk k' ks) (hm : MayP n l ks) (ht : TickOk now) :
    W env (.call 14 [.ptr b.s 0, .int .u64 n, .sl k (l.map eP), .sl k' (ks.map eS), .int .i64 now]) H (PutAQ b a F m n l ks now H) := by
  obtain ⟨s, sh, hi, rfl, h4, h5⟩ := h
  refine W.use (put28 b s F n k k' l ks now H sh hi (by omega) hko hm ht) fun o H' ⟨s', F', fr, hu, sh', hi', hp, hn', hfr, hg⟩ => ⟨F', ?_, ⟨s', sh', hi', hp.abs (may_nd hm), by omega, ?_⟩, hfr, hg⟩
  · rw [hu, hp.fr]
  · have := hp.vlen hi'; omega
def ComAQ (b : Bk) (a : Ab) (F : Nat → Prop) (m n : Nat) (now : Int) (H : Heap) : Out → Heap → Prop := fun o H' =>
  ∃ D : List ByteArray, D.Nodup ∧ (∀ k, k ∈ D ↔ a.has (k, n) = true) ∧ o = .val (.tup [.int .i64 D.length, .int .i64 0]) ∧ AtS H' b (a.com n now) F m ∧ Frm F H H'
theorem comA {b : Bk} {a : Ab} {F : Nat → Prop} {m : Nat} (n : Nat) (now : Int) {H : Heap} (h : AtS H b a F m) (hn : m ≤ 8000000) (hid : 65536 ≤ n) (ht : TickOk now) : W env (.call 18 [.ptr b.s 0, .int .u64 n, .int .i64 now]) H (ComAQ b a F m n now H) := by
  obtain ⟨s, sh, hi, rfl, h4, h5⟩ := h
  refine W.use (commit14 b s F n now H sh hi (by omega) hid ht) fun o H' ⟨s', hu, sh', hi', hc, hn', _, _, hfr⟩ => ⟨s.pls n, hi.pnd n, fun k => ?_, hu, ⟨s', sh', hi', hc.abs hi, by omega, ?_⟩, hfr⟩
  · rw [hi.plm]; simp [Ab.has, absS]
  · have := hc.vs.vlen hi.nd; omega
def DropAQ (b : Bk) (a : Ab) (F : Nat → Prop) (m : Nat) (k : ByteArray) (n : Nat) (H : Heap) : Out → Heap → Prop := fun o H' =>
  (a.v (k, n) = none ∧ o = .val (.int .i64 110) ∧ Ext H H') ∨ (∃ h, a.v (k, n) = some h ∧ h.stamp = -1 ∧ o = .val (.int .i64 1) ∧ Ext H H') ∨
  ∃ h, a.v (k, n) = some h ∧ h.stamp ≠ -1 ∧ o = .val (.int .i64 0) ∧ AtS H' b (a.cut (k, n)) F m ∧ Frm F H H'
theorem mcut_len {α β : Type} [DecidableEq α] (es : List (α × β)) (k : α) : (mcut es k).length ≤ es.length := by
  unfold mcut; split
  · exact List.length_eraseIdx_le es _
  · exact Nat.le_refl _
theorem dropA {b : Bk} {a : Ab} {F : Nat → Prop} {m : Nat} (k : ByteArray) (n : Nat) {H : Heap} (h : AtS H b a F m) (hn : m ≤ 8000000) : W env (.call 31 [.ptr b.s 0, .str k, .int .u64 n]) H (DropAQ b a F m k n H) := by
  obtain ⟨s, sh, hi, rfl, h4, h5⟩ := h
  refine W.use (drop15 b s F k n H sh hi (by omega)) fun o H' hq => ?_
  rcases hq with ⟨h1, hu, hx⟩ | ⟨h, h1, h2, hu, hx⟩ | ⟨h, h1, h2, hu, sh', hfr⟩
  · exact .inl ⟨by simp [absS, h1], hu, hx⟩
  · exact .inr (.inl ⟨h.vd, by simp [absS, h1], h2, hu, hx⟩)
  · exact .inr (.inr ⟨h.vd, by simp [absS, h1], h2, hu, ⟨_, sh', hi.drop k n, drop_abs hi k n, by simpa [Sto.drop] using h4, Nat.le_trans (mcut_len _ _) h5⟩, hfr⟩)
theorem lastA {b : Bk} {a : Ab} {F : Nat → Prop} {m : Nat} (k : ByteArray) {H : Heap} (h : AtS H b a F m) : W env (.call 25 [.ptr b.s 0, .str k]) H (Ret (.int .u64 (a.last k : Nat)) H) := by
  obtain ⟨s, sh, hi, rfl, h4, h5⟩ := h
  exact last17 b s F k H sh
def vdOf (o : Option Vd) : Vd := o.getD ⟨⟨#[]⟩, [], 0⟩
theorem vd_hd (o : Option Hd) : (hdOf o).vd = vdOf (o.map Hd.vd) := by cases o <;> rfl
def Ab.latest (a : Ab) (k : ByteArray) : Vd := match a.l k with
  | none => vdOf none
  | some n => vdOf (a.v (k, n))
theorem latestA {b : Bk} {a : Ab} {F : Nat → Prop} {m : Nat} (k : ByteArray) {H : Heap} (h : AtS H b a F m) : W env (.call 27 [.ptr b.s 0, .str k]) H (fun o H' => Ext H H' ∧ ∃ kk, KOk kk (a.latest k).keys ∧ o = .val (.agg (eVer k (a.last k) (a.latest k).value kk (a.latest k).keys))) := by
  obtain ⟨s, sh, hi, rfl, h4, h5⟩ := h
  have e : (latest s k).vd = (absS s).latest k := by
    unfold latest Ab.latest
    simp -implicitDefEqProofs only [absS]
    cases mlook s.ls k with
    | none => rfl
    | some n => exact vd_hd _
  refine W.use (latest16 b s F k H sh hi) fun o H' ⟨hx, kk, hkk, hu⟩ => ⟨hx, kk, ?_, ?_⟩
  · rw [← e]; exact hkk
  · rw [hu, ← e]; rfl
def Names (a : Ab) (l : List Nm) : Prop := l.Pairwise (fun x y => ltM x y = true) ∧ ∀ m, m ∈ l ↔ a.has m = true
theorem Names.uniq {a : Ab} {l l' : List Nm} (h : Names a l) (h' : Names a l') : l = l' := sorted_eq l l' h.1 h'.1 fun m => by rw [h.2, h'.2]
def eKA (a : Ab) (m : Nm) : List T := [.str m.1, .int .u64 m.2, .str (vdOf (a.v m)).value, .sl .arg ((vdOf (a.v m)).keys.map eS), .int .i64 (vdOf (a.v m)).stamp]
theorem Names.nd {a : Ab} {l : List Nm} (h : Names a l) : l.Nodup := h.1.imp fun {x y} hxy => by rintro rfl; rw [ltM_irr] at hxy; cases hxy
theorem keptA {b : Bk} {a : Ab} {F : Nat → Prop} {m : Nat} {H : Heap} (h : AtS H b a F m) (hn : m ≤ 8000000) : W env (.call 21 [.ptr b.s 0]) H (fun o H' => Ext H H' ∧ ∃ k l, KOk k l ∧ Names a l ∧ l.length ≤ m ∧ o = .val (.sl k (l.map (eKA a)))) := by
  obtain ⟨s, sh, hi, rfl, h4, h5⟩ := h
  refine W.use (kept20 b s F H sh hi (by omega)) fun o H' ⟨hx, k, l, hko, hu, hp, hpw⟩ => ⟨hx, k, l, hko, ⟨hpw, fun m => ?_⟩, ?_, ?_⟩
  · rw [hp.mem_iff, mem_keys]; simp [Ab.has, absS]
  · rw [hp.length_eq]; simpa using h5
  · rw [hu]
    congr 2
    rw [keptL, List.map_map]
    refine List.map_congr_left fun m _ => ?_
    have e := vd_hd (mlook s.vs m)
    simp -implicitDefEqProofs only [Function.comp, eK, eKA, absS, ← e, Hd.vd]
end Go.Proofs.Ytodegnhallgnkaa.St
end

section
namespace Go.Proofs.Ytodegnhallgnkaa.St
open Go.Rmp Go.Proofs.Ytodegnhallgnkaa.Ir
set_option maxRecDepth 10000
def eW (x : Nm) : List T := [.str x.1, .int .u64 x.2]
theorem take_eq_s {α : Type} {l l' : List α} {i : Nat} {x : α} (h : l.take i = l'.take i) (hx : l[i]? = some x) (hy : l'[i]? = some x) : l.take (i + 1) = l'.take (i + 1) := by
  rw [take_sn hx, take_sn hy, h]
theorem ne_at {α : Type} {l l' : List α} {i : Nat} {x y : α} (hx : l[i]? = some x) (hy : l'[i]? = some y) (h : x ≠ y) : l ≠ l' := by
  rintro rfl; rw [hx] at hy; cases hy; exact h rfl
theorem eqW (x y : Nm) : eqCells (eW x) (eW y) = some (decide (x = y)) := by
  obtain ⟨a, n⟩ := x; obtain ⟨b, m⟩ := y
  simp -implicitDefEqProofs only [eW, eqCells, eqSc, if_true, strEq_eq, deq, Bool.and_true, Option.some.injEq, Prod.mk.injEq]
  rw [Bool.eq_iff_iff]; simp
theorem hasW (x : Nm) : hasAll [.str, .int] (eW x) = true := rfl
theorem sameN10 (k k' : SK) (l l' : List Nm) (H : Heap) (hl : l.length ≤ 16777216) : W env (.call 10 [.sl k (l.map eW), .sl k' (l'.map eW)]) H (Ret (.bool (decide (l = l'))) H) := by
  refine W.fnI rfl rfl rfl ?_
  by_cases hll : l.length = l'.length
  rotate_left
  · have hne : ¬ l = l' := fun h => hll (by rw [h])
    simp -implicitDefEqProofs only [ir10, op, ef, cl, sq, reduceIte, Int.reduceLT, Int.reduceLE, Int.reduceBEq, Int.reduceBNe, Int.reduceEq, Nat.reduceAdd, Nat.reduceLeDiff, Nat.reduceLT, Nat.reduceEqDiff, S1, List.length_map, hll, hne]
  have hll' : l'.length = l.length := hll.symm
  simp -implicitDefEqProofs only [ir10, op, ef, cl, sq, reduceIte, Int.reduceLT, Int.reduceLE, Int.reduceBEq, Int.reduceBNe, Int.reduceEq, Nat.reduceAdd, Nat.reduceLeDiff, Nat.reduceLT, Nat.reduceEqDiff, S1, List.length_map, hll']
  refine W.loopV [(0, _), (1, _)] (fun (i : Nat) R H' => H' = H ∧ R 5 = .int .i64 i ∧ i ≤ l.length ∧ l.take i = l'.take i) (fun i => l.length - i) 0 ⟨rfl, rfl, Nat.zero_le _, by simp⟩ ?_
  rintro i R H1 ⟨rfl, h5, hi, ht⟩
  have wi := wrap_succ (show i < 9223372036854775807 by omega)
  by_cases hlt : i < l.length
  · obtain ⟨x, hx⟩ := getP hlt
    obtain ⟨y, hy⟩ := getP (l := l') (i := i) (by omega)
    have ix := iadX (e := eW) (n := 2) (fun _ => rfl) (by decide) (k := k) hx
    have iy := iadX (e := eW) (n := 2) (fun _ => rfl) (by decide) (k := k') hy
    have lx : ldc H1 2 (.iptr (eW x)) = some (eW x) := rfl
    have ly : ldc H1 2 (.iptr (eW y)) = some (eW y) := rfl
    by_cases hxy : x = y
    · subst hxy
      simp -implicitDefEqProofs only [mkR_nil, mkR_cons, op, ef, cl, sq, reduceIte, Int.reduceLT, Int.reduceLE, Int.reduceBEq, Int.reduceBNe, Int.reduceEq, Nat.reduceAdd, Nat.reduceLeDiff, Nat.reduceLT, Nat.reduceEqDiff, S1, List.length_map, h5, hlt, natOf_nat, ix, iy, lx, hasW, eqW, wi]
      exact ⟨i + 1, by omega, rfl, hlt, take_eq_s ht hx hy⟩
    · have hne := ne_at hx hy hxy
      simp -implicitDefEqProofs only [mkR_nil, mkR_cons, op, ef, cl, sq, reduceIte, Int.reduceLT, Int.reduceLE, Int.reduceBEq, Int.reduceBNe, Int.reduceEq, Nat.reduceAdd, Nat.reduceLeDiff, Nat.reduceLT, Nat.reduceEqDiff, S1, List.length_map, h5, hlt, natOf_nat, ix, iy, lx, ly, hasW, eqW, hxy, hne]
  · have hil : i = l.length := by omega
    have he : l = l' := by rw [hil, List.take_length, ← hll', List.take_length] at ht; exact ht
    simp -implicitDefEqProofs only [mkR_nil, mkR_cons, op, ef, cl, sq, reduceIte, Int.reduceLT, Int.reduceLE, Int.reduceBEq, Int.reduceBNe, Int.reduceEq, Nat.reduceAdd, Nat.reduceLeDiff, Nat.reduceLT, Nat.reduceEqDiff, S1, List.length_map, h5, hlt]
    simp [he]
theorem sameN22 (k k' : SK) (l l' : List Nm) (H : Heap) (hl : l.length ≤ 16777216) : W env (.call 22 [.sl k (l.map eW), .sl k' (l'.map eW)]) H (Ret (.bool (decide (l = l'))) H) := by
  refine W.fnI rfl rfl rfl ?_
  by_cases hll : l.length = l'.length
  rotate_left
  · have hne : ¬ l = l' := fun h => hll (by rw [h])
    simp -implicitDefEqProofs only [ir22, op, ef, cl, sq, reduceIte, Int.reduceLT, Int.reduceLE, Int.reduceBEq, Int.reduceBNe, Int.reduceEq, Nat.reduceAdd, Nat.reduceLeDiff, Nat.reduceLT, Nat.reduceEqDiff, S1, List.length_map, hll, hne]
  have hll' : l'.length = l.length := hll.symm
  simp -implicitDefEqProofs only [ir22, op, ef, cl, sq, reduceIte, Int.reduceLT, Int.reduceLE, Int.reduceBEq, Int.reduceBNe, Int.reduceEq, Nat.reduceAdd, Nat.reduceLeDiff, Nat.reduceLT, Nat.reduceEqDiff, S1, List.length_map, hll']
  refine W.loopV [(0, _), (1, _)] (fun (i : Nat) R H' => H' = H ∧ R 5 = .int .i64 i ∧ i ≤ l.length ∧ l.take i = l'.take i) (fun i => l.length - i) 0 ⟨rfl, rfl, Nat.zero_le _, by simp⟩ ?_
  rintro i R H1 ⟨rfl, h5, hi, ht⟩
  have wi := wrap_succ (show i < 9223372036854775807 by omega)
  by_cases hlt : i < l.length
  · obtain ⟨x, hx⟩ := getP hlt
    obtain ⟨y, hy⟩ := getP (l := l') (i := i) (by omega)
    have ix := iadX (e := eW) (n := 2) (fun _ => rfl) (by decide) (k := k) hx
    have iy := iadX (e := eW) (n := 2) (fun _ => rfl) (by decide) (k := k') hy
    have lx : ldc H1 2 (.iptr (eW x)) = some (eW x) := rfl
    have ly : ldc H1 2 (.iptr (eW y)) = some (eW y) := rfl
    by_cases hxy : x = y
    · subst hxy
      simp -implicitDefEqProofs only [mkR_nil, mkR_cons, op, ef, cl, sq, reduceIte, Int.reduceLT, Int.reduceLE, Int.reduceBEq, Int.reduceBNe, Int.reduceEq, Nat.reduceAdd, Nat.reduceLeDiff, Nat.reduceLT, Nat.reduceEqDiff, S1, List.length_map, h5, hlt, natOf_nat, ix, iy, lx, hasW, eqW, wi]
      exact ⟨i + 1, by omega, rfl, hlt, take_eq_s ht hx hy⟩
    · have hne := ne_at hx hy hxy
      simp -implicitDefEqProofs only [mkR_nil, mkR_cons, op, ef, cl, sq, reduceIte, Int.reduceLT, Int.reduceLE, Int.reduceBEq, Int.reduceBNe, Int.reduceEq, Nat.reduceAdd, Nat.reduceLeDiff, Nat.reduceLT, Nat.reduceEqDiff, S1, List.length_map, h5, hlt, natOf_nat, ix, iy, lx, ly, hasW, eqW, hxy, hne]
  · have hil : i = l.length := by omega
    have he : l = l' := by rw [hil, List.take_length, ← hll', List.take_length] at ht; exact ht
    simp -implicitDefEqProofs only [mkR_nil, mkR_cons, op, ef, cl, sq, reduceIte, Int.reduceLT, Int.reduceLE, Int.reduceBEq, Int.reduceBNe, Int.reduceEq, Nat.reduceAdd, Nat.reduceLeDiff, Nat.reduceLT, Nat.reduceEqDiff, S1, List.length_map, h5, hlt]
    simp [he]
end Go.Proofs.Ytodegnhallgnkaa.St
end

section
namespace Go.Proofs.Ytodegnhallgnkaa.St
open Go.Rmp Go.Proofs.Ytodegnhallgnkaa.Ir
set_option maxRecDepth 10000
theorem tick29 (now : Int) (H : Heap) : W env (.call 29 [.int .i64 now]) H (Ret (.bool (decide (0 ≤ now) && decide (now ≤ 1099511627776))) H) := by
  refine W.fnI rfl rfl rfl ?_
  cases h : decide (0 ≤ now) <;> simp -implicitDefEqProofs only [ir29, op, ef, cl, sq, reduceIte, Int.reduceLT, Int.reduceLE, Int.reduceBEq, Int.reduceBNe, Int.reduceEq, Nat.reduceAdd, Nat.reduceLeDiff, Nat.reduceLT, Nat.reduceEqDiff, S1, h, Bool.false_and]
theorem ret30 (now : Int) (H : Heap) : W env (.call 30 [.int .i64 now]) H (Ret (.bool (decide (0 ≤ now) && decide (now ≤ 1048576))) H) := by
  refine W.fnI rfl rfl rfl ?_
  cases h : decide (0 ≤ now) <;> simp -implicitDefEqProofs only [ir30, op, ef, cl, sq, reduceIte, Int.reduceLT, Int.reduceLE, Int.reduceBEq, Int.reduceBNe, Int.reduceEq, Nat.reduceAdd, Nat.reduceLeDiff, Nat.reduceLT, Nat.reduceEqDiff, S1, h, Bool.false_and]
theorem wrapu8 {n : Int} (h : 0 ≤ n ∧ n < 256) : IntKind.u8.wrap n = n := by
  unfold IntKind.wrap
  simp -implicitDefEqProofs only [IntKind.signed, IntKind.bits]
  simp
  omega
theorem and_nat (w a b : Nat) (ha : a < 2 ^ w) (hb : b < 2 ^ w) : (BitVec.ofInt w (a : Int) &&& BitVec.ofInt w (b : Int)).toNat = a &&& b := by
  rw [BitVec.toNat_and]
  simp -implicitDefEqProofs only [BitVec.ofInt_natCast, BitVec.toNat_ofNat, Nat.mod_eq_of_lt ha, Nat.mod_eq_of_lt hb]
structure Opv where
  kind : Int
  id : Nat
  keys : Nat
  some : Nat
  value : ByteArray
def eO (o : Opv) : List T := [.int .i64 o.kind, .int .u64 o.id, .int .u8 o.keys, .int .u8 o.some, .str o.value]
def OkO (o : Opv) : Prop := o.id < 18446744073709551616 ∧ o.keys < 256 ∧ o.some < 256
def idO (o : Opv) : Nat := 65536 * (1 + (o.id / 4) % 16) + o.id % 4
theorem idO_ge (o : Opv) : 65536 ≤ idO o := by unfold idO; omega
theorem and15 (a : Nat) (h : a < 18446744073709551616) : IntKind.u64.wrap ((BitVec.ofInt IntKind.u64.bits (a : Int) &&& BitVec.ofInt IntKind.u64.bits 15).toNat : Nat) = ((a % 16 : Nat) : Int) := by
  have h1 := and_nat IntKind.u64.bits a 15 (by simpa [IntKind.bits] using h) (by simp [IntKind.bits])
  have h2 : ((15 : Nat) : Int) = 15 := rfl
  rw [h2] at h1
  rw [h1, show (15 : Nat) = 2 ^ 4 - 1 from rfl, Nat.and_two_pow_sub_one_eq_mod, wrapu64 (by omega)]
theorem and7 (a : Nat) (h : a < 18446744073709551616) : IntKind.u64.wrap ((BitVec.ofInt IntKind.u64.bits (a : Int) &&& BitVec.ofInt IntKind.u64.bits 7).toNat : Nat) = ((a % 8 : Nat) : Int) := by
  have h1 := and_nat IntKind.u64.bits a 7 (by simpa [IntKind.bits] using h) (by simp [IntKind.bits])
  have h2 : ((7 : Nat) : Int) = 7 := rfl
  rw [h2] at h1
  rw [h1, show (7 : Nat) = 2 ^ 3 - 1 from rfl, Nat.and_two_pow_sub_one_eq_mod, wrapu64 (by omega)]
theorem and3 (a : Nat) (h : a < 18446744073709551616) : IntKind.u64.wrap ((BitVec.ofInt IntKind.u64.bits (a : Int) &&& BitVec.ofInt IntKind.u64.bits 3).toNat : Nat) = ((a % 4 : Nat) : Int) := by
  have h1 := and_nat IntKind.u64.bits a 3 (by simpa [IntKind.bits] using h) (by simp [IntKind.bits])
  have h2 : ((3 : Nat) : Int) = 3 := rfl
  rw [h2] at h1
  rw [h1, show (3 : Nat) = 2 ^ 2 - 1 from rfl, Nat.and_two_pow_sub_one_eq_mod, wrapu64 (by omega)]
theorem shr2 (a : Nat) : ((a : Int).fdiv (2 ^ (min ((2 : Int)).toNat IntKind.u64.bits))) = ((a / 4 : Nat) : Int) := by
  have : (2 : Int) ^ (min ((2 : Int)).toNat IntKind.u64.bits) = ((4 : Nat) : Int) := by decide
  rw [this, Int.fdiv_eq_ediv_of_nonneg _ (by omega)]; omega
theorem id15 (o : Opv) (ho : OkO o) (H : Heap) : W env (.call 15 [.agg (eO o)]) H (RetG (.int .u64 (idO o : Nat)) H) := by
  have h0 : ¬ ((2 : Int) < 0) := by decide
  have h1 := shr2 o.id
  have h2 := and15 (o.id / 4) (by have := ho.1; omega)
  have h3 := and3 o.id ho.1
  have h4 : IntKind.u64.wrap (1 + ((o.id / 4 % 16 : Nat) : Int)) = ((1 + o.id / 4 % 16 : Nat) : Int) := by rw [wrapu64 (by omega)]; omega
  have h5 : IntKind.u64.wrap (65536 * ((1 + o.id / 4 % 16 : Nat) : Int)) = ((65536 * (1 + o.id / 4 % 16) : Nat) : Int) := by rw [wrapu64 (by omega)]; omega
  have h6 : IntKind.u64.wrap (((65536 * (1 + o.id / 4 % 16) : Nat) : Int) + ((o.id % 4 : Nat) : Int)) = ((idO o : Nat) : Int) := by rw [wrapu64 (by omega)]; unfold idO; omega
  refine W.fnI rfl rfl rfl ?_
  simp -implicitDefEqProofs only [ir15, eO, op, ef, cl, sq, reduceIte, Int.reduceLT, Int.reduceLE, Int.reduceBEq, Int.reduceBNe, Int.reduceEq, Nat.reduceAdd, Nat.reduceLeDiff, Nat.reduceLT, Nat.reduceEqDiff, S1, S2, h0, h1, h2, h3, h4, h5, h6]
def nm6 (i : Nat) : ByteArray := match i with
  | 0 => ⟨#[]⟩
  | 1 => ⟨#[97]⟩
  | 2 => ⟨#[98]⟩
  | 3 => ⟨#[99]⟩
  | 4 => ⟨#[100]⟩
  | _ => ⟨#[101]⟩
def bitm (m i : Nat) : Bool := ((IntKind.u8.wrap ((BitVec.ofInt IntKind.u8.bits ((m : Int).fdiv (2 ^ (min (i : Int).toNat IntKind.u8.bits))) &&& BitVec.ofInt IntKind.u8.bits 1).toNat : Nat)) == 1)
set_option maxRecDepth 100000 in
theorem bitm_eq' : ∀ m : Fin 256, ∀ i : Fin 6, bitm m i = m.val.testBit i := by decide +kernel
theorem bitm_eq {m i : Nat} (hm : m < 256) (hi : i < 6) : bitm m i = m.testBit i := bitm_eq' ⟨m, hm⟩ ⟨i, hi⟩
def namesN (m : Nat) : Nat → List ByteArray
  | 0 => []
  | i + 1 => namesN m i ++ if m.testBit i then [nm6 i] else []
def names (m : Nat) : List ByteArray := namesN m 6
theorem namesN_len (m : Nat) : ∀ i, (namesN m i).length ≤ i
  | 0 => Nat.le_refl _
  | i + 1 => by
    have := namesN_len m i
    simp -implicitDefEqProofs only [namesN, List.length_append]
    split <;> simp <;> omega
theorem mem_namesN {m : Nat} {x : ByteArray} : ∀ i, x ∈ namesN m i ↔ ∃ j, j < i ∧ m.testBit j = true ∧ x = nm6 j
  | 0 => by simp [namesN]
  | i + 1 => by
    simp -implicitDefEqProofs only [namesN, List.mem_append, mem_namesN i]
    constructor
    · rintro (⟨j, h1, h2⟩ | h)
      · exact ⟨j, by omega, h2⟩
      · split at h
        · rename_i hb; simp at h; exact ⟨i, by omega, hb, h⟩
        · simp at h
    · rintro ⟨j, h1, h2, h3⟩
      by_cases e : j = i
      · subst e; rw [if_pos h2]; exact .inr (by simp [h3])
      · exact .inl ⟨j, by omega, h2, h3⟩
theorem nm6_lt : ∀ i j : Fin 6, i < j → strLt (nm6 i) (nm6 j) = true := by decide +kernel
theorem namesN_pw (m : Nat) : ∀ i, i ≤ 6 → (namesN m i).Pairwise (fun a b => strLt a b = true)
  | 0, _ => by simp [namesN]
  | i + 1, h => by
    simp -implicitDefEqProofs only [namesN]
    rw [List.pairwise_append]
    refine ⟨namesN_pw m i (by omega), by split <;> simp, fun a ha b hb => ?_⟩
    obtain ⟨j, h1, _, rfl⟩ := (mem_namesN i).1 ha
    split at hb
    · simp at hb; subst hb
      exact nm6_lt ⟨j, by omega⟩ ⟨i, by omega⟩ h1
    · simp at hb
theorem names32 (m : Nat) (hm : m < 256) (H : Heap) : W env (.call 32 [.int .u8 m]) H (fun o H' => Ext H H' ∧ ∃ k, KOk k (names m) ∧ o = .val (.sl k ((names m).map eS))) := by
  refine W.fnI rfl rfl rfl ?_
  simp -implicitDefEqProofs only [ir32, op, ef, cl, sq, reduceIte, Int.reduceLT, Int.reduceLE, Int.reduceBEq, Int.reduceBNe, Int.reduceEq, Nat.reduceAdd, Nat.reduceLeDiff, Nat.reduceLT, Nat.reduceEqDiff, S1]
  refine W.loopV [(0, _), (3, _)] (fun (i : Nat) R H' => At H' (fun H' => ∃ kw, R 4 = .sl kw ((namesN m i).map eS) ∧ Ext H H' ∧ Apd H.length H' kw ∧ KOk kw (namesN m i)) ∧ R 5 = .int .i64 i ∧ i ≤ 6) (fun i => 6 - i) 0 ⟨.i ⟨.nil, rfl, Ext.rfl', apd_nil _ _, fun _ => rfl⟩, rfl, Nat.zero_le _⟩ ?_
  rintro i R H1 ⟨⟨kw, g4, hx, hap, hko⟩, g5, hi⟩
  by_cases hlt : i < 6
  · have wsi := wrap_succ (show i < 9223372036854775807 by omega)
    have nn : ¬ (i : Int) < 0 := by omega
    have hb : (IntKind.u8.wrap ((BitVec.ofInt IntKind.u8.bits ((m : Int).fdiv (2 ^ (min (i : Int).toNat IntKind.u8.bits))) &&& BitVec.ofInt IntKind.u8.bits 1).toNat : Nat) == 1) = m.testBit i := bitm_eq hm hlt
    have hia : iadT 1 i (.sl .full [[T.str ⟨#[]⟩], [T.str ⟨#[97]⟩], [T.str ⟨#[98]⟩], [T.str ⟨#[99]⟩], [T.str ⟨#[100]⟩], [T.str ⟨#[101]⟩]]) = some (.iptr [.str (nm6 i)]) := by
      have hc : i = 0 ∨ i = 1 ∨ i = 2 ∨ i = 3 ∨ i = 4 ∨ i = 5 := by omega
      rcases hc with rfl | rfl | rfl | rfl | rfl | rfl <;> rfl
    cases hbi : m.testBit i
    · rw [hbi] at hb
      simp -implicitDefEqProofs only [mkR_nil, mkR_cons, op, ef, cl, sq, reduceIte, Int.reduceLT, Int.reduceLE, Int.reduceBEq, Int.reduceBNe, Int.reduceEq, Nat.reduceAdd, Nat.reduceLeDiff, Nat.reduceLT, Nat.reduceEqDiff, S1, g4, g5, hlt, nn, hb, wsi]
      exact ⟨i + 1, by omega, .i ⟨kw, by simp -implicitDefEqProofs only [op, ef, cl, sq, reduceIte, Int.reduceLT, Int.reduceLE, Int.reduceBEq, Int.reduceBNe, Int.reduceEq, Nat.reduceAdd, Nat.reduceLeDiff, Nat.reduceLT, Nat.reduceEqDiff, S1, g4, namesN, hbi], hx, hap, by simpa [namesN, hbi] using hko⟩, rfl, by omega⟩
    · rw [hbi] at hb
      have hl := namesN_len m i
      have hall := all_map (enc := eS) (n := 1) (fun _ => rfl) (namesN m i)
      obtain ⟨k', H', ha, hap', hst⟩ := app_ok (bytes := 16) ((namesN m i).map eS) [[T.str (nm6 i)]] hap hx.len (by simp) (roomS (by simp; omega) (by omega))
      have hnn := app_nn ha (by simp)
      simp -implicitDefEqProofs only [op, ef, cl, sq, reduceIte, Int.reduceLT, Int.reduceLE, Int.reduceBEq, Int.reduceBNe, Int.reduceEq, Nat.reduceAdd, Nat.reduceLeDiff, Nat.reduceLT, Nat.reduceEqDiff, S1] at ha
      simp -implicitDefEqProofs only [mkR_nil, mkR_cons, op, ef, cl, sq, reduceIte, Int.reduceLT, Int.reduceLE, Int.reduceBEq, Int.reduceBNe, Int.reduceEq, Nat.reduceAdd, Nat.reduceLeDiff, Nat.reduceLT, Nat.reduceEqDiff, S1, g4, g5, hlt, nn, hb, natOf_nat, hia, hall, ha, wsi]
      exact ⟨i + 1, by omega, .i ⟨k', by simp -implicitDefEqProofs only [op, ef, cl, sq, reduceIte, Int.reduceLT, Int.reduceLE, Int.reduceBEq, Int.reduceBNe, Int.reduceEq, Nat.reduceAdd, Nat.reduceLeDiff, Nat.reduceLT, Nat.reduceEqDiff, S1, namesN, hbi, if_true, List.map_append, eS], hst.ext H (Nat.le_refl _) hx, hap', fun h => absurd h hnn⟩, rfl, by omega⟩
  · have hi6 : i = 6 := by omega
    subst hi6
    simp -implicitDefEqProofs only [mkR_nil, mkR_cons, op, ef, cl, sq, reduceIte, Int.reduceLT, Int.reduceLE, Int.reduceBEq, Int.reduceBNe, Int.reduceEq, Nat.reduceAdd, Nat.reduceLeDiff, Nat.reduceLT, Nat.reduceEqDiff, S1, g4, g5, hlt]
    exact ⟨hx, kw, hko, rfl⟩
def sh300 (v : ByteArray) : ByteArray := v.extract 0 (min v.size 300)
theorem sh300_size (v : ByteArray) : (sh300 v).size ≤ 300 := by simp -implicitDefEqProofs only [sh300, ByteArray.size_extract]; omega
def pairsO (o : Opv) : List (ByteArray × ByteArray) := (names (o.keys &&& o.some)).map fun k => (k, sh300 o.value)
def keysO (o : Opv) : List ByteArray := names o.keys
theorem pairsO_len (o : Opv) : (pairsO o).length ≤ 6 := by simpa [pairsO, names] using namesN_len (o.keys &&& o.some) 6
theorem keysO_len (o : Opv) : (keysO o).length ≤ 6 := namesN_len o.keys 6
theorem and8 (a b : Nat) (ha : a < 256) (hb : b < 256) : IntKind.u8.wrap ((BitVec.ofInt IntKind.u8.bits (a : Int) &&& BitVec.ofInt IntKind.u8.bits (b : Int)).toNat : Nat) = ((a &&& b : Nat) : Int) := by
  have h1 := and_nat IntKind.u8.bits a b (by simpa [IntKind.bits] using ha) (by simpa [IntKind.bits] using hb)
  have : a &&& b ≤ a := Nat.and_le_left
  rw [h1, wrapu8 (by omega)]
theorem write13 (o : Opv) (ho : OkO o) (H : Heap) : W env (.call 13 [.agg (eO o)]) H (fun u H' => Ext H H' ∧ ∃ k k', KOk k (pairsO o) ∧ KOk k' (keysO o) ∧ u = .val (.tup [.sl k ((pairsO o).map eP), .sl k' ((keysO o).map eS)])) := by
  have hand := and8 o.keys o.some ho.2.1 ho.2.2
  have hlt : o.keys &&& o.some < 256 := Nat.lt_of_le_of_lt Nat.and_le_left ho.2.1
  refine W.fnI rfl rfl rfl ?_
  simp -implicitDefEqProofs only [ir13, eO, op, ef, cl, sq, reduceIte, Int.reduceLT, Int.reduceLE, Int.reduceBEq, Int.reduceBNe, Int.reduceEq, Nat.reduceAdd, Nat.reduceLeDiff, Nat.reduceLT, Nat.reduceEqDiff, S1, S2]
  have hx0 : Ext H (H ++ [B.cells [T.int IntKind.i64 o.kind, T.int IntKind.u64 o.id, T.int IntKind.u8 o.keys, T.int IntKind.u8 o.some, T.str o.value]]) := ⟨_, rfl⟩
  refine callB_of _ _ _ _ _ _ _ _ (names32 o.keys ho.2.1 _) ?_
  rintro u H1 ⟨hx1, k1, hk1, hu⟩
  cases hu
  have hc1 : H1[H.length]? = some (.cells [T.int IntKind.i64 o.kind, T.int IntKind.u64 o.id, T.int IntKind.u8 o.keys, T.int IntKind.u8 o.some, T.str o.value]) := hx1.get (g_tail rfl)
  simp -implicitDefEqProofs only [op, ef, cl, sq, reduceIte, Int.reduceLT, Int.reduceLE, Int.reduceBEq, Int.reduceBNe, Int.reduceEq, Nat.reduceAdd, Nat.reduceLeDiff, Nat.reduceLT, Nat.reduceEqDiff, S1, hc1, hand]
  refine callB_of _ _ _ _ _ _ _ _ (names32 (o.keys &&& o.some) hlt _) ?_
  rintro u H2 ⟨hx2, k2, hk2, hu⟩
  cases hu
  have hc2 := hx2.get hc1
  obtain ⟨ns, hns⟩ : ∃ ns, ns = names (o.keys &&& o.some) := ⟨_, rfl⟩
  have hnl : ns.length ≤ 6 := by rw [hns]; exact namesN_len _ 6
  rw [← hns]
  have hx3 : Ext H H2 := (hx0.trans hx1).trans hx2
  have lH := glt hc2
  simp -implicitDefEqProofs only [op, ef, cl, sq, reduceIte, Int.reduceLT, Int.reduceLE, Int.reduceBEq, Int.reduceBNe, Int.reduceEq, Nat.reduceAdd, Nat.reduceLeDiff, Nat.reduceLT, Nat.reduceEqDiff, S1, List.length_map]
  refine W.loopV [(1, _), (4, _), (5, _)] (fun (i : Nat) R H' => At H' (fun H' => ∃ kw, R 6 = .sl kw (((ns.take i).map fun k => (k, sh300 o.value)).map eP) ∧ Ext H2 H' ∧ Apd H2.length H' kw ∧ KOk kw (ns.take i)) ∧ R 7 = .int .i64 i ∧ i ≤ ns.length) (fun i => ns.length - i) 0 ⟨.i ⟨.nil, rfl, Ext.rfl', apd_nil _ _, fun _ => rfl⟩, rfl, Nat.zero_le _⟩ ?_
  rintro i R H3 ⟨⟨kw, g6, hx, hap, hko⟩, g7, hi⟩
  by_cases hlt : i < ns.length
  · obtain ⟨x, hxi⟩ := getP hlt
    have ix := iadX (e := eS) (n := 1) (fun _ => rfl) (by decide) (k := k2) hxi
    have wsi := wrap_succ (show i < 9223372036854775807 by omega)
    have hc3 := hx.get hc2
    have hall := all_map (enc := eP) (n := 2) (fun _ => rfl) ((ns.take i).map fun k => (k, sh300 o.value))
    have hmn : (if (300 : Int) < (o.value.size : Int) then (300 : Int) else (o.value.size : Int)) = ((min o.value.size 300 : Nat) : Int) := by split <;> omega
    have hle : min o.value.size 300 ≤ o.value.size := Nat.min_le_left _ _
    obtain ⟨k', H', ha, hap', hst⟩ := app_ok (bytes := 32) (((ns.take i).map fun k => (k, sh300 o.value)).map eP) [[T.str x, T.str (sh300 o.value)]] hap hx.len (by simp) (roomS (by simp; omega) (by omega))
    have hnn := app_nn ha (by simp)
    simp -implicitDefEqProofs only [op, ef, cl, sq, reduceIte, Int.reduceLT, Int.reduceLE, Int.reduceBEq, Int.reduceBNe, Int.reduceEq, Nat.reduceAdd, Nat.reduceLeDiff, Nat.reduceLT, Nat.reduceEqDiff, S1] at ha
    unfold sh300 at *
    simp -implicitDefEqProofs only [mkR_nil, mkR_cons, op, ef, cl, sq, reduceIte, Int.reduceLT, Int.reduceLE, Int.reduceBEq, Int.reduceBNe, Int.reduceEq, Nat.reduceAdd, Nat.reduceLeDiff, Nat.reduceLT, Nat.reduceEqDiff, S1, g6, g7, hlt, natOf_nat, ix, eS, hc3, hmn, hle, Nat.zero_le, and_self, hall, ha, wsi]
    refine ⟨i + 1, by omega, .i ⟨k', ?_, hst.ext H2 (Nat.le_refl _) hx, hap', fun h => absurd h hnn⟩, rfl, by omega⟩
    simp -implicitDefEqProofs only [op, ef, cl, sq, reduceIte, Int.reduceLT, Int.reduceLE, Int.reduceBEq, Int.reduceBNe, Int.reduceEq, Nat.reduceAdd, Nat.reduceLeDiff, Nat.reduceLT, Nat.reduceEqDiff, S1, take_sn hxi, List.map_append, eP]
  · have hie : i = ns.length := by omega
    subst hie
    rw [List.take_length] at g6 hko
    simp -implicitDefEqProofs only [mkR_nil, mkR_cons, op, ef, cl, sq, reduceIte, Int.reduceLT, Int.reduceLE, Int.reduceBEq, Int.reduceBNe, Int.reduceEq, Nat.reduceAdd, Nat.reduceLeDiff, Nat.reduceLT, Nat.reduceEqDiff, S1, List.length_map, g6, g7, hlt]
    refine ⟨hx3.trans hx, kw, k1, fun h => ?_, hk1, ?_⟩
    · simp -implicitDefEqProofs only [pairsO, ← hns, hko h, List.map_nil]
    · rw [hns]; rfl
end Go.Proofs.Ytodegnhallgnkaa.St
end

section
namespace Go.Proofs.Ytodegnhallgnkaa.St
open Go.Rmp Go.Proofs.Ytodegnhallgnkaa.Ir
set_option maxRecDepth 10000
theorem rises_pw2 {l : List ByteArray} (h : l.Pairwise (fun a b => strLt a b = true)) {i j : Nat} {a b : ByteArray} (hij : i < j) (ha : l[i]? = some a) (hb : l[j]? = some b) : strLt a b = true := by
  obtain ⟨h1, e1⟩ := List.getElem?_eq_some_iff.1 ha
  obtain ⟨h2, e2⟩ := List.getElem?_eq_some_iff.1 hb
  have := List.pairwise_iff_getElem.1 h i j h1 h2 hij
  rwa [e1, e2] at this
theorem nm6_size (j : Nat) : (nm6 j).size ≤ 1 := by
  unfold nm6; split <;> decide
theorem names_good {m : Nat} (h : names m ≠ []) : GoodKeys (names m) := by
  have hp := namesN_pw m 6 (Nat.le_refl _)
  have hl := namesN_len m 6
  refine ⟨fun i hi x hx => ⟨?_, fun h0 y hy => rises_pw2 hp (by omega) hy hx⟩, ?_, by unfold names; omega⟩
  · obtain ⟨j, _, _, rfl⟩ := (mem_namesN 6).1 (List.mem_of_getElem? hx)
    have := nm6_size j; omega
  · cases e : names m with
    | nil => exact absurd e h
    | cons x l => simp
theorem names_sub {a b : Nat} {x : ByteArray} (h : x ∈ names (a &&& b)) : x ∈ names a := by
  obtain ⟨j, h1, h2, h3⟩ := (mem_namesN 6).1 h
  rw [Nat.testBit_and, Bool.and_eq_true] at h2
  exact (mem_namesN 6).2 ⟨j, h1, h2.1, h3⟩
theorem may_O (o : Opv) (hne : pairsO o ≠ []) : MayP (idO o) (pairsO o) (keysO o) := by
  have hp := namesN_pw (o.keys &&& o.some) 6 (Nat.le_refl _)
  have hn : names (o.keys &&& o.some) ≠ [] := fun h => hne (by simp [pairsO, h])
  have hk : keysO o ≠ [] := fun h => by
    obtain ⟨x, hx⟩ := List.exists_mem_of_ne_nil _ hn
    have := names_sub hx
    have h : names o.keys = [] := h
    rw [h] at this; cases this
  have hs := sh300_size o.value
  refine ⟨idO_ge o, names_good hk, ?_, fun i hi p hp' => ?_⟩
  · cases e : pairsO o with
    | nil => exact absurd e hne
    | cons x l => simp
  · unfold pairsO at hp'
    rw [List.getElem?_map] at hp'
    cases hk : (names (o.keys &&& o.some))[i]? with
    | none => rw [hk] at hp'; cases hp'
    | some k =>
      rw [hk] at hp'; cases hp'
      refine ⟨fun h0 q hq => ?_, names_sub (List.mem_of_getElem? hk), by simp only; omega⟩
      unfold pairsO at hq
      rw [List.getElem?_map] at hq
      cases hk2 : (names (o.keys &&& o.some))[i - 1]? with
      | none => rw [hk2] at hq; cases hq
      | some k2 => rw [hk2] at hq; cases hq; exact rises_pw2 hp (by omega) hk2 hk
theorem putNo {b : Bk} {a : Ab} {F : Nat → Prop} {m : Nat} (n : Nat) (k k' : SK) (l : List (ByteArray × ByteArray)) (ks : List ByteArray) (now : Int) {H : Heap} (h : AtS H b a F m) (hl : l.length ≤ 8000000) (hks : ks.length ≤ 8000000) (hm : ¬ (MayP n l ks ∧ TickOk now)) :
    W env (.call 14 [.ptr b.s 0, .int .u64 n, .sl k (l.map eP), .sl k' (ks.map eS), .int .i64 now]) H (fun o H' => o = .val (.tup [.bool false, .int .i64 1]) ∧ Ext H H') := by
  refine W.fnI rfl rfl rfl ?_
  simp -implicitDefEqProofs only [ir14, op, ef, cl, sq, reduceIte, Int.reduceLT, Int.reduceLE, Int.reduceBEq, Int.reduceBNe, Int.reduceEq, Nat.reduceAdd, Nat.reduceLeDiff, Nat.reduceLT, Nat.reduceEqDiff, S1]
  refine callB_of _ _ _ _ _ _ _ _ (may43 n k k' l ks _ (by omega) (by omega)) ?_
  rintro u H1 ⟨hx1, bb, hu, hb⟩
  cases hu
  cases bb
  · simp -implicitDefEqProofs only [op, ef, cl, sq, reduceIte, Int.reduceLT, Int.reduceLE, Int.reduceBEq, Int.reduceBNe, Int.reduceEq, Nat.reduceAdd, Nat.reduceLeDiff, Nat.reduceLT, Nat.reduceEqDiff, S1]; exact hx1
  · simp -implicitDefEqProofs only [op, ef, cl, sq, reduceIte, Int.reduceLT, Int.reduceLE, Int.reduceBEq, Int.reduceBNe, Int.reduceEq, Nat.reduceAdd, Nat.reduceLeDiff, Nat.reduceLT, Nat.reduceEqDiff, S1]
    refine callB_of _ _ _ _ _ _ _ _ (tick31 now _) ?_
    rintro u H2 ⟨hu, rfl⟩
    cases hu
    have hf : (decide (0 ≤ now) && decide (now ≤ 1099511627776)) = false := by
      rw [Bool.and_eq_false_iff, decide_eq_false_iff_not, decide_eq_false_iff_not]
      have : ¬ TickOk now := fun h => hm ⟨hb.1 rfl, h⟩
      unfold TickOk at this; omega
    simp -implicitDefEqProofs only [op, ef, cl, sq, reduceIte, Int.reduceLT, Int.reduceLE, Int.reduceBEq, Int.reduceBNe, Int.reduceEq, Nat.reduceAdd, Nat.reduceLeDiff, Nat.reduceLT, Nat.reduceEqDiff, S1, hf]
    exact hx1
theorem has28 {b : Bk} {a : Ab} {F : Nat → Prop} {m : Nat} (n : Nat) {H : Heap} (h : AtS H b a F m) : W env (.call 28 [.ptr b.s 0, .int .u64 n]) H (fun o H' => H' = H ∧ ∃ D : List ByteArray, D.Nodup ∧ (∀ k, k ∈ D ↔ a.has (k, n) = true) ∧ o = .val (.int .i64 D.length)) := by
  obtain ⟨s, ⟨im, pm, sa⟩, hi, rfl, h4, h5⟩ := h
  obtain ⟨t, htt⟩ : ∃ t, lkpT (mlook pm n) (.sl .nil []) false = t := ⟨_, rfl⟩
  have hlH : lenT H .sl t = some (s.pls n).length := by
    have := (sa.op n).mut
    rw [htt] at this
    rcases this with ⟨e, rfl⟩ | ⟨c, rfl, _, _⟩
    · rw [e]; rfl
    · rfl
  refine W.fnI rfl rfl rfl ?_
  simp -implicitDefEqProofs only [ir28, op, ef, cl, sq, reduceIte, Int.reduceLT, Int.reduceLE, Int.reduceBEq, Int.reduceBNe, Int.reduceEq, Nat.reduceAdd, Nat.reduceLeDiff, Nat.reduceLT, Nat.reduceEqDiff, S1, sa.hs, sa.hp, lkpB_N, htt, hlH]
  exact ⟨s.pls n, hi.pnd n, fun k => by rw [hi.plm]; simp [Ab.has, absS], rfl⟩
def stampOf (a : Ab) (m : Nm) : Int := (vdOf (a.v m)).stamp
def isDue (a : Ab) (now r : Int) (m : Nm) : Bool := decide (0 ≤ stampOf a m) && decide (stampOf a m ≤ now - r)
def dueL (a : Ab) (now r : Int) (l : List Nm) : List Nm := l.filter (isDue a now r)
def RetOk (r : Int) : Prop := 0 ≤ r ∧ r ≤ 1048576
theorem dueL_len (a : Ab) (now r : Int) (l : List Nm) : (dueL a now r l).length ≤ l.length := List.length_filter_le _ _
theorem filter_take {α : Type} {p : α → Bool} {l : List α} {i : Nat} {x : α} (hx : l[i]? = some x) : (l.take (i + 1)).filter p = (l.take i).filter p ++ if p x then [x] else [] := by
  rw [take_sn hx, List.filter_append]; congr 1
  cases h : p x <;> simp [h]
theorem due9 {b : Bk} {a : Ab} {F : Nat → Prop} {m : Nat} (now r : Int) {H : Heap} (h : AtS H b a F m) (hm : m ≤ 8000000) (ht : TickOk now) (hr : RetOk r) : W env (.call 9 [.ptr b.s 0, .int .i64 now, .int .i64 r]) H (fun o H' => Ext H H' ∧ ∃ k l, KOk k (dueL a now r l) ∧ Names a l ∧ l.length ≤ m ∧ o = .val (.tup [.sl k ((dueL a now r l).map eW), .int .i64 0])) := by
  have h1 : (decide (0 ≤ now) && decide (now ≤ 1099511627776)) = true := by simp [ht.1, ht.2]
  have h2 : (decide (0 ≤ r) && decide (r ≤ 1048576)) = true := by simp [hr.1, hr.2]
  have hw : IntKind.i64.wrap (now - r) = now - r := by
    have := ht.1; have := ht.2; have := hr.1; have := hr.2
    rw [wrap64 (by omega)]
  refine W.fnI rfl rfl rfl ?_
  simp -implicitDefEqProofs only [ir9, op, ef, cl, sq, reduceIte, Int.reduceLT, Int.reduceLE, Int.reduceBEq, Int.reduceBNe, Int.reduceEq, Nat.reduceAdd, Nat.reduceLeDiff, Nat.reduceLT, Nat.reduceEqDiff, S1, eqRef, nilOf]
  refine callB_of _ _ _ _ _ _ _ _ (tick29 now _) ?_
  rintro u H1 ⟨hu, rfl⟩
  cases hu
  simp -implicitDefEqProofs only [op, ef, cl, sq, reduceIte, Int.reduceLT, Int.reduceLE, Int.reduceBEq, Int.reduceBNe, Int.reduceEq, Nat.reduceAdd, Nat.reduceLeDiff, Nat.reduceLT, Nat.reduceEqDiff, S1, h1]
  refine callB_of _ _ _ _ _ _ _ _ (ret30 r _) ?_
  rintro u H2 ⟨hu, rfl⟩
  cases hu
  simp -implicitDefEqProofs only [op, ef, cl, sq, reduceIte, Int.reduceLT, Int.reduceLE, Int.reduceBEq, Int.reduceBNe, Int.reduceEq, Nat.reduceAdd, Nat.reduceLeDiff, Nat.reduceLT, Nat.reduceEqDiff, S1, h2]
  refine callB_of _ _ _ _ _ _ _ _ (keptA h hm) ?_
  rintro u H3 ⟨hx3, k, l, hko, hn, hll, hu⟩
  cases hu
  simp -implicitDefEqProofs only [op, ef, cl, sq, reduceIte, Int.reduceLT, Int.reduceLE, Int.reduceBEq, Int.reduceBNe, Int.reduceEq, Nat.reduceAdd, Nat.reduceLeDiff, Nat.reduceLT, Nat.reduceEqDiff, S1, List.length_map]
  refine W.loopV [(1, _), (2, _), (24, _), (25, _)] (fun (i : Nat) R H' => At H' (fun H' => ∃ kw, R 8 = .sl kw ((dueL a now r (l.take i)).map eW) ∧ Ext H3 H' ∧ Apd H3.length H' kw ∧ KOk kw (dueL a now r (l.take i))) ∧ R 26 = .int .i64 i ∧ i ≤ l.length) (fun i => l.length - i) 0 ⟨.i ⟨.nil, rfl, Ext.rfl', apd_nil _ _, fun _ => rfl⟩, rfl, Nat.zero_le _⟩ ?_
  rintro i R H4 ⟨⟨kw, g8, hx, hap, hkw⟩, g26, hi⟩
  by_cases hlt : i < l.length
  · obtain ⟨x, hxi⟩ := getP hlt
    have ix := iadX (e := eKA a) (n := 5) (fun _ => rfl) (by decide) (k := k) hxi
    have wsi := wrap_succ (show i < 9223372036854775807 by omega)
    obtain ⟨hd, hhd⟩ : ∃ hd, hd = vdOf (a.v x) := ⟨_, rfl⟩
    have hst : stampOf a x = hd.stamp := by rw [hhd]; rfl
    have hft := filter_take (p := isDue a now r) hxi
    have hxx : ∀ y : B, Ext H4 (H4 ++ [y]) := fun y => ⟨_, rfl⟩
    by_cases h0 : 0 ≤ hd.stamp
    · by_cases h3 : hd.stamp ≤ now - r
      · have hdue : isDue a now r x = true := by simp [isDue, hst, h0, h3]
        rw [hdue] at hft
        have hl2 := dueL_len a now r (l.take i)
        have hall := all_map (enc := eW) (n := 2) (fun _ => rfl) (dueL a now r (l.take i))
        obtain ⟨k', H', ha, hap', hst'⟩ := app_ok (bytes := 24) ((dueL a now r (l.take i)).map eW) [[T.str x.1, T.int .u64 x.2]] (hap.ext (hxx (.cells [.str x.1, .int .u64 x.2, .str hd.value, .sl .arg (hd.keys.map eS), .int .i64 hd.stamp]))) (Nat.le_trans hx.len (hxx _).len) (by simp) (roomS (by simp at hl2 ⊢; omega) (by omega))
        have hnn := app_nn ha (by simp)
        simp -implicitDefEqProofs only [op, ef, cl, sq, reduceIte, Int.reduceLT, Int.reduceLE, Int.reduceBEq, Int.reduceBNe, Int.reduceEq, Nat.reduceAdd, Nat.reduceLeDiff, Nat.reduceLT, Nat.reduceEqDiff, S1] at ha
        simp -implicitDefEqProofs only [mkR_nil, mkR_cons, op, ef, cl, sq, reduceIte, Int.reduceLT, Int.reduceLE, Int.reduceBEq, Int.reduceBNe, Int.reduceEq, Nat.reduceAdd, Nat.reduceLeDiff, Nat.reduceLT, Nat.reduceEqDiff, S1, S2, g8, g26, hlt, natOf_nat, ix, eKA, ← hhd, h0, h3, hw, hall, ha, wsi]
        refine ⟨i + 1, by omega, .i ⟨k', ?_, hst'.ext H3 (Nat.le_refl _) (hx.trans (hxx _)), hap', fun h => absurd h hnn⟩, rfl, by omega⟩
        simp -implicitDefEqProofs only [op, ef, cl, sq, reduceIte, Int.reduceLT, Int.reduceLE, Int.reduceBEq, Int.reduceBNe, Int.reduceEq, Nat.reduceAdd, Nat.reduceLeDiff, Nat.reduceLT, Nat.reduceEqDiff, S1, dueL, hft, if_true, List.map_append, eW]
      · have hdue : isDue a now r x = false := by simp [isDue, hst, h3]
        rw [hdue] at hft
        simp -implicitDefEqProofs only [mkR_nil, mkR_cons, op, ef, cl, sq, reduceIte, Int.reduceLT, Int.reduceLE, Int.reduceBEq, Int.reduceBNe, Int.reduceEq, Nat.reduceAdd, Nat.reduceLeDiff, Nat.reduceLT, Nat.reduceEqDiff, S1, S2, g8, g26, hlt, natOf_nat, ix, eKA, ← hhd, h0, h3, hw, wsi]
        refine ⟨i + 1, by omega, .i ⟨kw, ?_, hx.trans (hxx _), hap.ext (hxx _), ?_⟩, rfl, by omega⟩
        · simp -implicitDefEqProofs only [op, ef, cl, sq, reduceIte, Int.reduceLT, Int.reduceLE, Int.reduceBEq, Int.reduceBNe, Int.reduceEq, Nat.reduceAdd, Nat.reduceLeDiff, Nat.reduceLT, Nat.reduceEqDiff, S1, g8, dueL, hft, Bool.false_eq_true, if_false, List.append_nil]
        · simpa [dueL, hft] using hkw
    · have hdue : isDue a now r x = false := by simp [isDue, hst, h0]
      rw [hdue] at hft
      simp -implicitDefEqProofs only [mkR_nil, mkR_cons, op, ef, cl, sq, reduceIte, Int.reduceLT, Int.reduceLE, Int.reduceBEq, Int.reduceBNe, Int.reduceEq, Nat.reduceAdd, Nat.reduceLeDiff, Nat.reduceLT, Nat.reduceEqDiff, S1, S2, g8, g26, hlt, natOf_nat, ix, eKA, ← hhd, h0, wsi]
      refine ⟨i + 1, by omega, .i ⟨kw, ?_, hx.trans (hxx _), hap.ext (hxx _), ?_⟩, rfl, by omega⟩
      · simp -implicitDefEqProofs only [op, ef, cl, sq, reduceIte, Int.reduceLT, Int.reduceLE, Int.reduceBEq, Int.reduceBNe, Int.reduceEq, Nat.reduceAdd, Nat.reduceLeDiff, Nat.reduceLT, Nat.reduceEqDiff, S1, g8, dueL, hft, Bool.false_eq_true, if_false, List.append_nil]
      · simpa [dueL, hft] using hkw
  · have hie : i = l.length := by omega
    subst hie
    rw [List.take_length] at g8 hkw
    simp -implicitDefEqProofs only [mkR_nil, mkR_cons, op, ef, cl, sq, reduceIte, Int.reduceLT, Int.reduceLE, Int.reduceBEq, Int.reduceBNe, Int.reduceEq, Nat.reduceAdd, Nat.reduceLeDiff, Nat.reduceLT, Nat.reduceEqDiff, S1, List.length_map, g8, g26, hlt]
    exact ⟨hx3.trans hx, kw, l, hkw, hn, hll, rfl⟩
def memN (D : List Nm) (m : Nm) : Bool := D.any fun x => decide (x = m)
theorem memN_iff {D : List Nm} {m : Nm} : memN D m = true ↔ m ∈ D := by simp [memN]
theorem memN_no {D : List Nm} {m : Nm} (h : m ∉ D) : memN D m = false := by
  cases e : memN D m with
  | false => rfl
  | true => exact absurd (memN_iff.1 e) h
def Ab.cuts (a : Ab) (D : List Nm) : Ab := ⟨fun m => if memN D m = true then none else a.v m, a.l⟩
theorem cuts_nil (a : Ab) : a.cuts [] = a := by cases a; rfl
theorem cuts_s (a : Ab) (D : List Nm) (x : Nm) : (a.cuts D).cut x = a.cuts (D ++ [x]) := ab_ext (fun m => by
  have e : memN (D ++ [x]) m = (memN D m || decide (x = m)) := by simp [memN]
  simp -implicitDefEqProofs only [Ab.cut, Ab.cuts, e]
  by_cases h : m = x
  · subst h; simp
  · simp [h, Ne.symm h]) fun _ => rfl
theorem due_mem {a : Ab} {now r : Int} {l : List Nm} {x : Nm} (hn : Names a l) (hx : x ∈ dueL a now r l) : ∃ h, a.v x = some h ∧ 0 ≤ h.stamp ∧ h.stamp ≤ now - r := by
  obtain ⟨h1, h2⟩ := List.mem_filter.1 hx
  have h3 := (hn.2 x).1 h1
  simp -implicitDefEqProofs only [Ab.has, Option.isSome_iff_exists] at h3
  obtain ⟨h, h3⟩ := h3
  simp -implicitDefEqProofs only [isDue, stampOf, h3, vdOf, Option.getD_some, Bool.and_eq_true, decide_eq_true_eq] at h2
  exact ⟨h, h3, h2⟩
theorem dueL_nd {a : Ab} {now r : Int} {l : List Nm} (hn : Names a l) : (dueL a now r l).Nodup := hn.nd.sublist List.filter_sublist
theorem collect11 {b : Bk} {a : Ab} {F : Nat → Prop} {m : Nat} (now r : Int) {H : Heap} (h : AtS H b a F m) (hm : m ≤ 8000000) (ht : TickOk now) (hr : RetOk r) : W env (.call 11 [.ptr b.s 0, .int .i64 now, .int .i64 r]) H (fun o H' => ∃ k l, KOk k (dueL a now r l) ∧ Names a l ∧ l.length ≤ m ∧ o = .val (.tup [.sl k ((dueL a now r l).map eW), .int .i64 0]) ∧ AtS H' b (a.cuts (dueL a now r l)) F m ∧ Frm F H H') := by
  refine W.fnI rfl rfl rfl ?_
  simp -implicitDefEqProofs only [ir11, op, ef, cl, sq, reduceIte, Int.reduceLT, Int.reduceLE, Int.reduceBEq, Int.reduceBNe, Int.reduceEq, Nat.reduceAdd, Nat.reduceLeDiff, Nat.reduceLT, Nat.reduceEqDiff, S1]
  refine callB_of _ _ _ _ _ _ _ _ (due9 now r h hm ht hr) ?_
  rintro u H1 ⟨hx1, k, l, hko, hn, hll, hu⟩
  cases hu
  obtain ⟨D, hD⟩ : ∃ D, D = dueL a now r l := ⟨_, rfl⟩
  have hDl := dueL_len a now r l
  have hdm := fun x => due_mem (a := a) (now := now) (r := r) (l := l) (x := x) hn
  have hdn := dueL_nd (now := now) (r := r) hn
  rw [← hD] at hDl hdm hdn hko
  rw [← hD]
  simp -implicitDefEqProofs only [op, ef, cl, sq, reduceIte, Int.reduceLT, Int.reduceLE, Int.reduceBEq, Int.reduceBNe, Int.reduceEq, Nat.reduceAdd, Nat.reduceLeDiff, Nat.reduceLT, Nat.reduceEqDiff, S1, List.length_map]
  refine W.loopV [(0, _), (8, _), (9, _), (19, _), (20, _)] (fun (i : Nat) R H' => At H' (fun H' => AtS H' b (a.cuts (D.take i)) F m ∧ Frm F H H') ∧ R 21 = .int .i64 i ∧ i ≤ D.length) (fun i => D.length - i) 0 ⟨.i ⟨by rw [List.take_zero, cuts_nil]; exact h.ext hx1, ext_frm hx1⟩, rfl, Nat.zero_le _⟩ ?_
  rintro i R H2 ⟨⟨ha, hf⟩, g21, hi⟩
  by_cases hlt : i < D.length
  · obtain ⟨x, hxi⟩ := getP hlt
    have ix := iadX (e := eW) (n := 2) (fun _ => rfl) (by decide) (k := k) hxi
    have wsi := wrap_succ (show i < 9223372036854775807 by omega)
    obtain ⟨hd, hv, h0, _⟩ := hdm x (List.mem_of_getElem? hxi)
    have hnm : x ∉ D.take i := fun hh => by
      obtain ⟨j, hj, e2⟩ := List.getElem_of_mem hh
      have hj' : j < i ∧ j < D.length := by simp -implicitDefEqProofs only [List.length_take] at hj; omega
      have hjk : D[j]? = some x := by rw [← e2]; simp [List.getElem?_eq_getElem hj'.2]
      have := (List.getElem?_inj hj'.2 hdn).1 (hjk.trans hxi.symm)
      omega
    have hvc : (a.cuts (D.take i)).v (x.1, x.2) = some hd := by simp -implicitDefEqProofs only [Ab.cuts, memN_no hnm, Bool.false_eq_true, if_false]; exact hv
    have hxx : ∀ y : B, Ext H2 (H2 ++ [y]) := fun y => ⟨_, rfl⟩
    simp -implicitDefEqProofs only [mkR_nil, mkR_cons, op, ef, cl, sq, reduceIte, Int.reduceLT, Int.reduceLE, Int.reduceBEq, Int.reduceBNe, Int.reduceEq, Nat.reduceAdd, Nat.reduceLeDiff, Nat.reduceLT, Nat.reduceEqDiff, S1, S2, List.length_map, g21, hlt, natOf_nat, ix, eW]
    refine callB_of _ _ _ _ _ _ _ _ (dropA x.1 x.2 (ha.ext (hxx _)) hm) ?_
    rintro u H3 (⟨hh, _⟩ | ⟨h', hh, hm1, _⟩ | ⟨h', hh, hm1, hu, ha3, hf3⟩)
    · rw [hvc] at hh; cases hh
    · rw [hvc] at hh; cases hh; omega
    cases hu
    rw [cuts_s, ← take_sn hxi] at ha3
    simp -implicitDefEqProofs only [mkR_nil, mkR_cons, op, ef, cl, sq, reduceIte, Int.reduceLT, Int.reduceLE, Int.reduceBEq, Int.reduceBNe, Int.reduceEq, Nat.reduceAdd, Nat.reduceLeDiff, Nat.reduceLT, Nat.reduceEqDiff, S1, g21, wsi]
    exact ⟨i + 1, by omega, .i ⟨ha3, (hf.ext (hxx _)).trans hf3 fun c h => .inl h⟩, rfl, by omega⟩
  · have hie : i = D.length := by omega
    subst hie
    rw [List.take_length] at ha
    simp -implicitDefEqProofs only [mkR_nil, mkR_cons, op, ef, cl, sq, reduceIte, Int.reduceLT, Int.reduceLE, Int.reduceBEq, Int.reduceBNe, Int.reduceEq, Nat.reduceAdd, Nat.reduceLeDiff, Nat.reduceLT, Nat.reduceEqDiff, S1, List.length_map, g21, hlt]
    exact ⟨k, l, by rw [← hD]; exact hko, hn, hll, by rw [← hD], by rw [← hD]; exact ha, hf⟩
end Go.Proofs.Ytodegnhallgnkaa.St
end

section
namespace Go.Proofs.Ytodegnhallgnkaa.St
open Go.Rmp Go.Proofs.Ytodegnhallgnkaa.Ir
set_option maxRecDepth 10000
def AbT (a : Ab) : Prop := ∀ m h, a.v m = some h → h.stamp = -1 ∨ TickOk h.stamp
theorem AbT.emp : AbT Ab.emp := fun m h e => by cases e
theorem AbT.put {a : Ab} (h : AbT a) {n : Nat} {l : List (ByteArray × ByteArray)} {ks : List ByteArray} {now : Int} (ht : TickOk now) : AbT (a.put n l ks now) := fun m x e => by
  simp -implicitDefEqProofs only [Ab.put] at e
  cases h1 : a.v m with
  | some y => rw [h1] at e; cases e; exact h m _ h1
  | none =>
    rw [h1] at e
    simp only at e
    split at e
    · cases h2 : mlook l m.1 with
      | none => rw [h2] at e; cases e
      | some v =>
        rw [h2] at e; cases e
        simp only
        split
        · exact .inr ht
        · exact .inl rfl
    · cases e
theorem AbT.com {a : Ab} (h : AbT a) {n : Nat} {now : Int} (ht : TickOk now) : AbT (a.com n now) := fun m x e => by
  simp -implicitDefEqProofs only [Ab.com] at e
  cases h1 : a.v m with
  | none => rw [h1] at e; cases e
  | some y =>
    rw [h1] at e; simp -implicitDefEqProofs only [Option.map_some, Option.some.injEq] at e; subst e
    split
    · exact .inr ht
    · exact h m y h1
theorem AbT.cuts {a : Ab} (h : AbT a) (D : List Nm) : AbT (a.cuts D) := fun m x e => by
  simp -implicitDefEqProofs only [Ab.cuts] at e
  split at e
  · cases e
  · exact h m x e
theorem AbT.st {a : Ab} (h : AbT a) {m : Nm} (hm : a.has m = true) : stampOf a m = -1 ∨ TickOk (stampOf a m) := by
  obtain ⟨x, hx⟩ := Option.isSome_iff_exists.1 hm
  have := h m x hx
  simp -implicitDefEqProofs only [stampOf, hx, vdOf, Option.getD_some]; exact this
structure NxtV (a : Ab) (l : List Nm) (r at_ : Int) (is : Bool) : Prop where
  some : is = true ↔ ∃ m ∈ l, 0 ≤ stampOf a m
  on : is = true → ∃ m ∈ l, 0 ≤ stampOf a m ∧ at_ = stampOf a m + r
  least : ∀ m ∈ l, 0 ≤ stampOf a m → at_ ≤ stampOf a m + r
  off : is = false → at_ = 0
theorem NxtV.skip {a : Ab} {l : List Nm} {r t : Int} {is : Bool} (h : NxtV a l r t is) {m : Nm} (hm : 0 ≤ stampOf a m → is = true ∧ t ≤ stampOf a m + r) : NxtV a (l ++ [m]) r t is := by
  refine ⟨?_, fun e => ?_, fun x hx h0 => ?_, h.off⟩
  · rw [h.some]
    constructor
    · rintro ⟨x, hx, h0⟩; exact ⟨x, List.mem_append_left _ hx, h0⟩
    · rintro ⟨x, hx, h0⟩
      rcases List.mem_append.1 hx with hx | hx
      · exact ⟨x, hx, h0⟩
      · simp at hx; subst hx; exact h.some.1 (hm h0).1
  · obtain ⟨x, hx, h0⟩ := h.on e; exact ⟨x, List.mem_append_left _ hx, h0⟩
  · rcases List.mem_append.1 hx with hx | hx
    · exact h.least x hx h0
    · simp at hx; subst hx; exact (hm h0).2
theorem NxtV.take {a : Ab} {l : List Nm} {r t : Int} {is : Bool} (h : NxtV a l r t is) {m : Nm} (h0 : 0 ≤ stampOf a m) (hm : is = true → stampOf a m + r < t) : NxtV a (l ++ [m]) r (stampOf a m + r) true := by
  refine ⟨⟨fun _ => ⟨m, by simp, h0⟩, fun _ => rfl⟩, fun _ => ⟨m, by simp, h0, rfl⟩, fun x hx h1 => ?_, fun e => by cases e⟩
  rcases List.mem_append.1 hx with hx | hx
  · have := h.least x hx h1
    have := hm (h.some.2 ⟨x, hx, h1⟩)
    omega
  · simp at hx; subst hx; exact Int.le_refl _
theorem next24 {b : Bk} {a : Ab} {F : Nat → Prop} {m : Nat} (r : Int) {H : Heap} (h : AtS H b a F m) (hm : m ≤ 8000000) (hT : AbT a) (hr : RetOk r) : W env (.call 24 [.ptr b.s 0, .int .i64 r]) H (fun o H' => Ext H H' ∧ ∃ l t is, Names a l ∧ NxtV a l r t is ∧ o = .val (.tup [.int .i64 t, .bool is, .int .i64 0])) := by
  have h2 : (decide (0 ≤ r) && decide (r ≤ 1048576)) = true := by simp [hr.1, hr.2]
  refine W.fnI rfl rfl rfl ?_
  simp -implicitDefEqProofs only [ir24, op, ef, cl, sq, reduceIte, Int.reduceLT, Int.reduceLE, Int.reduceBEq, Int.reduceBNe, Int.reduceEq, Nat.reduceAdd, Nat.reduceLeDiff, Nat.reduceLT, Nat.reduceEqDiff, S1, eqRef, nilOf]
  refine callB_of _ _ _ _ _ _ _ _ (ret30 r _) ?_
  rintro u H2 ⟨hu, rfl⟩
  cases hu
  simp -implicitDefEqProofs only [op, ef, cl, sq, reduceIte, Int.reduceLT, Int.reduceLE, Int.reduceBEq, Int.reduceBNe, Int.reduceEq, Nat.reduceAdd, Nat.reduceLeDiff, Nat.reduceLT, Nat.reduceEqDiff, S1, h2]
  refine callB_of _ _ _ _ _ _ _ _ (keptA h hm) ?_
  rintro u H3 ⟨hx3, k, l, hko, hn, hll, hu⟩
  cases hu
  simp -implicitDefEqProofs only [op, ef, cl, sq, reduceIte, Int.reduceLT, Int.reduceLE, Int.reduceBEq, Int.reduceBNe, Int.reduceEq, Nat.reduceAdd, Nat.reduceLeDiff, Nat.reduceLT, Nat.reduceEqDiff, S1, List.length_map]
  refine W.loopV [(1, _), (19, _), (20, _)] (fun (i : Nat) R H' => At H' (fun H' => Ext H3 H' ∧ ∃ t is, R 7 = .int .i64 t ∧ R 8 = .bool is ∧ NxtV a (l.take i) r t is) ∧ R 21 = .int .i64 i ∧ i ≤ l.length) (fun i => l.length - i) 0 ⟨.i ⟨Ext.rfl', 0, false, rfl, rfl, ⟨(by simp), fun e => (by cases e), (by simp), fun _ => rfl⟩⟩, rfl, Nat.zero_le _⟩ ?_
  rintro i R H4 ⟨⟨hx, t, is, g7, g8, hv⟩, g21, hi⟩
  by_cases hlt : i < l.length
  · obtain ⟨x, hxi⟩ := getP hlt
    have ix := iadX (e := eKA a) (n := 5) (fun _ => rfl) (by decide) (k := k) hxi
    have wsi := wrap_succ (show i < 9223372036854775807 by omega)
    have hst := hT.st ((hn.2 x).1 (List.mem_of_getElem? hxi))
    obtain ⟨st, hs⟩ : ∃ st, st = stampOf a x := ⟨_, rfl⟩
    have hs' : (vdOf (a.v x)).stamp = st := by rw [hs]; rfl
    have hw : IntKind.i64.wrap (st + r) = st + r := by
      unfold TickOk RetOk at *
      rw [wrap64 (by omega)]
    have hxx : ∀ y : B, Ext H3 (H4 ++ [y]) := fun y => hx.app _
    by_cases h0 : 0 ≤ st
    · cases is
      · simp -implicitDefEqProofs only [mkR_nil, mkR_cons, op, ef, cl, sq, reduceIte, Int.reduceLT, Int.reduceLE, Int.reduceBEq, Int.reduceBNe, Int.reduceEq, Nat.reduceAdd, Nat.reduceLeDiff, Nat.reduceLT, Nat.reduceEqDiff, S1, S2, g7, g8, g21, hlt, natOf_nat, ix, eKA, hs', h0, hw, wsi]
        refine ⟨i + 1, by omega, .i ⟨hxx _, st + r, true, rfl, rfl, ?_⟩, rfl, by omega⟩
        rw [take_sn hxi, hs]; exact hv.take (hs ▸ h0) (fun e => by cases e)
      · by_cases hl : st + r < t
        · simp -implicitDefEqProofs only [mkR_nil, mkR_cons, op, ef, cl, sq, reduceIte, Int.reduceLT, Int.reduceLE, Int.reduceBEq, Int.reduceBNe, Int.reduceEq, Nat.reduceAdd, Nat.reduceLeDiff, Nat.reduceLT, Nat.reduceEqDiff, S1, S2, g7, g8, g21, hlt, natOf_nat, ix, eKA, hs', h0, hl, hw, wsi]
          refine ⟨i + 1, by omega, .i ⟨hxx _, st + r, true, rfl, rfl, ?_⟩, rfl, by omega⟩
          rw [take_sn hxi, hs]; exact hv.take (hs ▸ h0) (fun _ => hs ▸ hl)
        · simp -implicitDefEqProofs only [mkR_nil, mkR_cons, op, ef, cl, sq, reduceIte, Int.reduceLT, Int.reduceLE, Int.reduceBEq, Int.reduceBNe, Int.reduceEq, Nat.reduceAdd, Nat.reduceLeDiff, Nat.reduceLT, Nat.reduceEqDiff, S1, S2, g7, g8, g21, hlt, natOf_nat, ix, eKA, hs', h0, hl, hw, wsi]
          refine ⟨i + 1, by omega, .i ⟨hxx _, t, true, rfl, rfl, ?_⟩, rfl, by omega⟩
          rw [take_sn hxi]; exact hv.skip fun _ => ⟨rfl, by rw [← hs]; omega⟩
    · simp -implicitDefEqProofs only [mkR_nil, mkR_cons, op, ef, cl, sq, reduceIte, Int.reduceLT, Int.reduceLE, Int.reduceBEq, Int.reduceBNe, Int.reduceEq, Nat.reduceAdd, Nat.reduceLeDiff, Nat.reduceLT, Nat.reduceEqDiff, S1, S2, g7, g8, g21, hlt, natOf_nat, ix, eKA, hs', h0, hw, wsi]
      refine ⟨i + 1, by omega, .i ⟨hxx _, t, is, rfl, rfl, ?_⟩, rfl, by omega⟩
      rw [take_sn hxi]; exact hv.skip fun h => absurd (hs ▸ h) h0
  · have hie : i = l.length := by omega
    subst hie
    rw [List.take_length] at hv
    simp -implicitDefEqProofs only [mkR_nil, mkR_cons, op, ef, cl, sq, reduceIte, Int.reduceLT, Int.reduceLE, Int.reduceBEq, Int.reduceBNe, Int.reduceEq, Nat.reduceAdd, Nat.reduceLeDiff, Nat.reduceLT, Nat.reduceEqDiff, S1, List.length_map, g7, g8, g21, hlt]
    exact ⟨hx3.trans hx, l, t, is, hn, hv, rfl⟩
def LNames (a : Ab) (l : List ByteArray) : Prop := l.Pairwise (fun x y => strLt x y = true) ∧ ∀ k, k ∈ l ↔ (a.l k).isSome = true
def lnm (a : Ab) (k : ByteArray) : Nm := (k, a.last k)
def Few (a : Ab) : Prop := ∃ K : List ByteArray, K.length ≤ 12 ∧ ∀ k, (a.l k).isSome = true → k ∈ K
theorem lastsA {b : Bk} {a : Ab} {F : Nat → Prop} {m : Nat} {H : Heap} (h : AtS H b a F m) (hf : Few a) : W env (.call 23 [.ptr b.s 0]) H (fun o H' => Ext H H' ∧ ∃ k l, KOk k l ∧ LNames a l ∧ l.length ≤ 12 ∧ o = .val (.sl k ((l.map (lnm a)).map eW))) := by
  obtain ⟨s, sh, hi, rfl, h4, h5⟩ := h
  obtain ⟨K, hK, hk⟩ := hf
  have hl : s.ls.length ≤ 12 := by
    have := nd_le (l := s.ls.map (·.1)) (l' := K) hi.ndl fun x hx => hk x (by rw [mem_keys] at hx; exact hx)
    simp at this; omega
  refine W.use (lasts24 b s F H sh hi hl) fun o H' ⟨hx, k, l, hko, hu, hp, hpw⟩ => ⟨hx, k, l, hko, ⟨hpw, fun x => ?_⟩, ?_, ?_⟩
  · rw [hp.mem_iff, mem_keys]; rfl
  · rw [hp.length_eq]; simpa using hl
  · rw [hu, lastL, List.map_map, List.map_map]; rfl
theorem sortedS_eq : ∀ (l l' : List ByteArray), l.Pairwise (fun a b => strLt a b = true) → l'.Pairwise (fun a b => strLt a b = true) → (∀ x, x ∈ l ↔ x ∈ l') → l = l'
  | [], [], _, _, _ => rfl
  | [], b :: l', _, _, h => by have := (h b).2 (by simp); cases this
  | a :: l, [], _, _, h => by have := (h a).1 (by simp); cases this
  | a :: l, b :: l', h1, h2, h => by
    rw [List.pairwise_cons] at h1 h2
    have hab : a = b := by
      rcases List.mem_cons.1 ((h a).1 (by simp)) with e | ha
      · exact e
      · rcases List.mem_cons.1 ((h b).2 (by simp)) with e | hb
        · exact e.symm
        · have x1 := h1.1 b hb
          have x2 := h2.1 a ha
          rw [lt_asymm x1] at x2; cases x2
    subst hab
    congr 1
    refine sortedS_eq l l' h1.2 h2.2 fun x => ⟨fun hx => ?_, fun hx => ?_⟩
    · rcases List.mem_cons.1 ((h x).1 (by simp [hx])) with e | hx'
      · subst e; have := h1.1 x hx; rw [lt_irr] at this; cases this
      · exact hx'
    · rcases List.mem_cons.1 ((h x).2 (by simp [hx])) with e | hx'
      · subst e; have := h2.1 x hx; rw [lt_irr] at this; cases this
      · exact hx'
theorem LNames.uniq {a : Ab} {l l' : List ByteArray} (h : LNames a l) (h' : LNames a l') : l = l' := sortedS_eq l l' h.1 h'.1 fun m => by rw [h.2, h'.2]
def stepO (s : Ab × Int) (o : Opv) : Ab × Int :=
  if o.kind = 1 then (if (pairsO o).isEmpty = true then s.1 else s.1.put (idO o) (pairsO o) (keysO o) s.2, s.2)
  else if o.kind = 2 then (s.1.com (idO o) s.2, s.2) else (s.1, s.2 + (o.id % 8 : Nat))
def bld (l : List Opv) : Ab × Int := l.foldl stepO (Ab.emp, 0)
theorem bld_s {l : List Opv} {i : Nat} {o : Opv} (h : l[i]? = some o) : bld (l.take (i + 1)) = stepO (bld (l.take i)) o := by
  rw [take_sn h]; simp [bld]
structure BldOk (s : Ab × Int) (i : Nat) : Prop where
  t : 0 ≤ s.2 ∧ s.2 ≤ 7 * i
  st : AbT s.1
  few : ∀ k, (s.1.l k).isSome = true → k ∈ names 63
  key : ∀ m, s.1.has m = true → m.1 ∈ names 63
theorem has_put {a : Ab} {n : Nat} {l : List (ByteArray × ByteArray)} {ks : List ByteArray} {now : Int} {m : Nm} : (a.put n l ks now).has m = (a.has m || (decide (m.2 = n) && (mlook l m.1).isSome)) := by
  simp -implicitDefEqProofs only [Ab.has, Ab.put]
  cases h : a.v m with
  | some x => simp
  | none =>
    by_cases e : m.2 = n
    · simp [e]
    · simp [e]
theorem has_com {a : Ab} {n : Nat} {now : Int} {m : Nm} : (a.com n now).has m = a.has m := by
  simp -implicitDefEqProofs only [Ab.has, Ab.com, Option.isSome_map]
theorem names63 {m : Nat} {x : ByteArray} (h : x ∈ names m) : x ∈ names 63 := by
  obtain ⟨j, h1, h2, h3⟩ := (mem_namesN 6).1 h
  refine (mem_namesN 6).2 ⟨j, h1, ?_, h3⟩
  have : ∀ j : Fin 6, (63 : Nat).testBit j = true := by decide
  exact this ⟨j, h1⟩
theorem mlook_key {α β : Type} [DecidableEq α] {es : List (α × β)} {k : α} (h : (mlook es k).isSome = true) : k ∈ es.map (·.1) := by rw [mem_keys]; exact h
theorem BldOk.step {s : Ab × Int} {i : Nat} (h : BldOk s i) (hi : i ≤ 1048576) (o : Opv) : BldOk (stepO s o) (i + 1) := by
  have ht : TickOk s.2 := ⟨h.t.1, by have := h.t.2; omega⟩
  unfold stepO
  split
  · split
    · exact ⟨⟨h.t.1, by have := h.t.2; simp only; omega⟩, h.st, h.few, h.key⟩
    · refine ⟨⟨h.t.1, by have := h.t.2; simp only; omega⟩, h.st.put ht, h.few, fun m hm => ?_⟩
      simp -implicitDefEqProofs only [has_put, Bool.or_eq_true, Bool.and_eq_true] at hm
      rcases hm with hm | hm
      · exact h.key m hm
      · have := mlook_key hm.2
        simp -implicitDefEqProofs only [pairsO, List.map_map, List.mem_map] at this
        obtain ⟨x, hx, e⟩ := this
        exact e ▸ names63 hx
  · split
    · refine ⟨⟨h.t.1, by have := h.t.2; simp only; omega⟩, h.st.com ht, fun k hk => ?_, fun m hm => h.key m (by rw [has_com] at hm; exact hm)⟩
      simp -implicitDefEqProofs only [Ab.com] at hk
      split at hk
      · rename_i hc; exact h.key (k, _) hc.1
      · exact h.few k hk
    · refine ⟨⟨?_, ?_⟩, h.st, h.few, h.key⟩
      · have := h.t.1; simp only; omega
      · have := h.t.2; simp only; omega
theorem bldOk : ∀ (l : List Opv), l.length ≤ 1048576 → ∀ i, i ≤ l.length → BldOk (bld (l.take i)) i
  | l, _, 0, _ => by
    rw [List.take_zero]
    exact ⟨⟨Int.le_refl _, Int.le_refl _⟩, AbT.emp, fun k h => (by cases h), fun m h => (by cases h)⟩
  | l, hl, i + 1, h => by
    obtain ⟨o, ho⟩ := getP (l := l) (i := i) (by omega)
    rw [bld_s ho]
    exact (bldOk l hl i (by omega)).step (by omega) o
theorem BldOk.few12 {s : Ab × Int} {i : Nat} (h : BldOk s i) : Few s.1 := ⟨names 63, by have := namesN_len 63 6; unfold names; omega, h.few⟩
theorem putO {b : Bk} {a : Ab} {F : Nat → Prop} {m : Nat} (o : Opv) (k k' : SK) (now : Int) {H : Heap} (h : AtS H b a F m) (hn : m + 6 ≤ 8000000) (hko : KOk k' (keysO o)) (ht : TickOk now) :
    W env (.call 14 [.ptr b.s 0, .int .u64 (idO o : Nat), .sl k ((pairsO o).map eP), .sl k' ((keysO o).map eS), .int .i64 now]) H (fun u H' => ∃ F', (u = if (pairsO o).isEmpty = true then .val (.tup [.bool false, .int .i64 1]) else .val (.tup [.bool (a.fresh (idO o) (pairsO o)), .int .i64 0])) ∧ AtS H' b (if (pairsO o).isEmpty = true then a else a.put (idO o) (pairsO o) (keysO o) now) F' (m + 6) ∧ Frm F H H' ∧ Gro F F' H H') := by
  have h6 := pairsO_len o
  have k6 := keysO_len o
  by_cases he : (pairsO o).isEmpty = true
  · refine W.use (putNo (idO o) k k' (pairsO o) (keysO o) now h (by omega) (by omega) fun hh => ?_) fun u H' ⟨hu, hx⟩ => ⟨F, ?_, ?_, ext_frm hx, fun c h => .inl h⟩
    · have := hh.1.2.2.1
      rw [List.isEmpty_iff.1 he] at this; simp at this
    · rw [if_pos he]; exact hu
    · rw [if_pos he]; exact (h.ext hx).le (by omega)
  · refine W.use (putA (idO o) k k' (pairsO o) (keysO o) now h (by omega) hko (may_O o fun e => he (by rw [e]; rfl)) ht) fun u H' ⟨F', hu, ha, hf, hg⟩ => ⟨F', ?_, ?_, hf, hg⟩
    · rw [if_neg he]; exact hu
    · rw [if_neg he]; exact ha.le (by omega)
theorem Gro.trans {F F' F2 : Nat → Prop} {H H' H2 : Heap} (h : Gro F F' H H') (h' : Gro F' F2 H' H2) (l1 : H.length ≤ H'.length) (l2 : H'.length ≤ H2.length) : Gro F F2 H H2 := fun c hc => by
  rcases h' c hc with hc | hc
  · rcases h c hc with hc | hc
    · exact .inl hc
    · exact .inr ⟨hc.1, by omega⟩
  · exact .inr ⟨by omega, hc.2⟩
theorem built8 (k : SK) (l : List Opv) (hl : l.length ≤ 1048576) (ho : ∀ o ∈ l, OkO o) (H : Heap) : W env (.call 8 [.sl k (l.map eO)]) H (fun u H' => Ext H H' ∧ ∃ b F, u = .val (.tup [.ptr b.s 0, .int .i64 (bld l).2]) ∧ AtS H' b (bld l).1 F 6400000 ∧ ∀ c, F c → H.length ≤ c ∧ c < H'.length) := by
  refine W.fnI rfl rfl rfl ?_
  simp -implicitDefEqProofs only [ir8, op, ef, cl, sq, reduceIte, Int.reduceLT, Int.reduceLE, Int.reduceBEq, Int.reduceBNe, Int.reduceEq, Nat.reduceAdd, Nat.reduceLeDiff, Nat.reduceLT, Nat.reduceEqDiff, S1]
  refine callB_of _ _ _ _ _ _ _ _ (newA _) ?_
  rintro u H1 ⟨hx1, b, F0, hu, h1, hF0⟩
  cases hu
  simp -implicitDefEqProofs only [op, ef, cl, sq, reduceIte, Int.reduceLT, Int.reduceLE, Int.reduceBEq, Int.reduceBNe, Int.reduceEq, Nat.reduceAdd, Nat.reduceLeDiff, Nat.reduceLT, Nat.reduceEqDiff, S1]
  have hxl := hx1.len
  refine W.loopV [(0, _), (4, _)] (fun (i : Nat) R H' => At H' (fun H' => ∃ F, AtS H' b (bld (l.take i)).1 F (6 * i) ∧ Frm (fun _ => False) H H' ∧ (∀ c, F c → H.length ≤ c ∧ c < H'.length) ∧ R 5 = .int .i64 (bld (l.take i)).2) ∧ R 6 = .int .i64 i ∧ i ≤ l.length) (fun i => l.length - i) 0 ⟨.i ⟨F0, h1, ext_frm hx1, hF0, rfl⟩, rfl, Nat.zero_le _⟩ ?_
  rintro i R H2 ⟨⟨F, ha, hf, hF, g5⟩, g6, hi⟩
  have hb := bldOk l hl i hi
  obtain ⟨s, hs⟩ : ∃ s, s = bld (l.take i) := ⟨_, rfl⟩
  rw [← hs] at hb ha g5
  by_cases hlt : i < l.length
  · obtain ⟨o, hoi⟩ := getP hlt
    have hok := ho o (List.mem_of_getElem? hoi)
    have ix := iadX (e := eO) (n := 5) (fun _ => rfl) (by decide) (k := k) hoi
    have wsi := wrap_succ (show i < 9223372036854775807 by omega)
    have l5 : ∀ Hx, ldc Hx 5 (.iptr (eO o)) = some (eO o) := fun _ => rfl
    have hbs := bld_s hoi
    rw [← hs] at hbs
    have ht : TickOk s.2 := ⟨hb.t.1, by have := hb.t.2; omega⟩
    simp -implicitDefEqProofs only [mkR_nil, mkR_cons, op, ef, cl, sq, reduceIte, Int.reduceLT, Int.reduceLE, Int.reduceBEq, Int.reduceBNe, Int.reduceEq, Nat.reduceAdd, Nat.reduceLeDiff, Nat.reduceLT, Nat.reduceEqDiff, S1, List.length_map, eqRef, nilOf, g5, g6, hlt, natOf_nat, ix, l5]
    refine callB_of _ _ _ _ _ _ _ _ (write13 o hok _) ?_
    rintro u H3 ⟨hx3, k1, k2, hk1, hk2, hu⟩
    cases hu
    have ha3 := ha.ext hx3
    have hf3 := hf.ext hx3
    have l0 : fadT 0 (.iptr (eO o)) = some (.iptr (eO o)) := rfl
    have l0' : ∀ Hx, ldc Hx 1 (.iptr (eO o)) = some [.int .i64 o.kind] := fun _ => rfl
    have l1 : fadT 1 (.iptr (eO o)) = some (.iptr [.int .u64 o.id, .int .u8 o.keys, .int .u8 o.some, .str o.value]) := rfl
    have lx3 := hx3.len
    by_cases hk1' : o.kind = 1
    · have e1 : (o.kind == 1) = true := by simp [hk1']
      simp -implicitDefEqProofs only [mkR_nil, mkR_cons, op, ef, cl, sq, reduceIte, Int.reduceLT, Int.reduceLE, Int.reduceBEq, Int.reduceBNe, Int.reduceEq, Nat.reduceAdd, Nat.reduceLeDiff, Nat.reduceLT, Nat.reduceEqDiff, S1, g5, g6, natOf_nat, ix, l5, List.length_cons, List.length_nil, l0, l0', e1]
      refine callB_of _ _ _ _ _ _ _ _ (id15 o hok _) ?_
      rintro u H4 ⟨hu, hx4⟩
      cases hu
      have hx4 : Ext H3 H4 := hx4
      simp -implicitDefEqProofs only [mkR_nil, mkR_cons, op, ef, cl, sq, reduceIte, Int.reduceLT, Int.reduceLE, Int.reduceBEq, Int.reduceBNe, Int.reduceEq, Nat.reduceAdd, Nat.reduceLeDiff, Nat.reduceLT, Nat.reduceEqDiff, S1, g5, g6]
      refine callB_of _ _ _ _ _ _ _ _ (putO o k1 k2 s.2 (ha3.ext hx4) (by omega) hk2 ht) ?_
      rintro u H5 ⟨F', hu, ha5, hf5, hg5⟩
      have lx4 := hx4.len
      have lx5 := hf5.1
      simp -implicitDefEqProofs only [mkR_nil, mkR_cons, op, ef, cl, sq, reduceIte, Int.reduceLT, Int.reduceLE, Int.reduceBEq, Int.reduceBNe, Int.reduceEq, Nat.reduceAdd, Nat.reduceLeDiff, Nat.reduceLT, Nat.reduceEqDiff, S1, g5, g6, wsi]
      have hst : stepO s o = (if (pairsO o).isEmpty = true then s.1 else s.1.put (idO o) (pairsO o) (keysO o) s.2, s.2) := by rw [stepO, if_pos hk1']
      refine ⟨i + 1, by omega, .i ⟨F', ?_, (hf3.ext hx4).trans hf5 (fun c h => .inr (hF c h).1), fun c hc => ?_, ?_⟩, rfl, by omega⟩
      · rw [hbs, hst]; exact ha5.le (by omega)
      · rcases hg5 c hc with h | h
        · have := hF c h; exact ⟨this.1, by omega⟩
        · have := hf.1; exact ⟨by omega, h.2⟩
      · rw [hbs, hst]
    · have e1 : (o.kind == 1) = false := by simp [hk1']
      by_cases hk2' : o.kind = 2
      · have e2 : (o.kind == 2) = true := by simp [hk2']
        simp -implicitDefEqProofs only [mkR_nil, mkR_cons, op, ef, cl, sq, reduceIte, Int.reduceLT, Int.reduceLE, Int.reduceBEq, Int.reduceBNe, Int.reduceEq, Nat.reduceAdd, Nat.reduceLeDiff, Nat.reduceLT, Nat.reduceEqDiff, S1, g5, g6, natOf_nat, ix, l5, l0, l0', e1, e2]
        refine callB_of _ _ _ _ _ _ _ _ (id15 o hok _) ?_
        rintro u H4 ⟨hu, hx4⟩
        cases hu
        have hx4 : Ext H3 H4 := hx4
        simp -implicitDefEqProofs only [mkR_nil, mkR_cons, op, ef, cl, sq, reduceIte, Int.reduceLT, Int.reduceLE, Int.reduceBEq, Int.reduceBNe, Int.reduceEq, Nat.reduceAdd, Nat.reduceLeDiff, Nat.reduceLT, Nat.reduceEqDiff, S1, g5, g6]
        refine callB_of _ _ _ _ _ _ _ _ (comA (idO o) s.2 (ha3.ext hx4) (by omega) (idO_ge o) ht) ?_
        rintro u H5 ⟨D, _, _, hu, ha5, hf5⟩
        cases hu
        have lx4 := hx4.len
        have lx5 := hf5.1
        simp -implicitDefEqProofs only [mkR_nil, mkR_cons, op, ef, cl, sq, reduceIte, Int.reduceLT, Int.reduceLE, Int.reduceBEq, Int.reduceBNe, Int.reduceEq, Nat.reduceAdd, Nat.reduceLeDiff, Nat.reduceLT, Nat.reduceEqDiff, S1, g5, g6, wsi]
        have hst : stepO s o = (s.1.com (idO o) s.2, s.2) := by rw [stepO, if_neg hk1', if_pos hk2']
        refine ⟨i + 1, by omega, .i ⟨F, ?_, (hf3.ext hx4).trans hf5 (fun c h => .inr (hF c h).1), fun c hc => ?_, ?_⟩, rfl, by omega⟩
        · rw [hbs, hst]; exact ha5.le (by omega)
        · have := hF c hc; exact ⟨this.1, by omega⟩
        · rw [hbs, hst]
      · have e2 : (o.kind == 2) = false := by simp [hk2']
        have h7 := and7 o.id hok.1
        have wc : IntKind.i64.wrap ((o.id % 8 : Nat) : Int) = ((o.id % 8 : Nat) : Int) := by rw [wrap64 (by omega)]
        have wt : IntKind.i64.wrap (s.2 + ((o.id % 8 : Nat) : Int)) = s.2 + ((o.id % 8 : Nat) : Int) := by
          have := ht.1; have := ht.2; rw [wrap64 (by omega)]
        simp -implicitDefEqProofs only [mkR_nil, mkR_cons, op, ef, cl, sq, reduceIte, Int.reduceLT, Int.reduceLE, Int.reduceBEq, Int.reduceBNe, Int.reduceEq, Nat.reduceAdd, Nat.reduceLeDiff, Nat.reduceLT, Nat.reduceEqDiff, S1, g5, g6, natOf_nat, ix, l5, l0, l0', l1, e1, e2, ldc1, h7, wc, wt, wsi]
        have hst : stepO s o = (s.1, s.2 + (o.id % 8 : Nat)) := by rw [stepO, if_neg hk1', if_neg hk2']
        refine ⟨i + 1, by omega, .i ⟨F, ?_, hf3, fun c hc => ?_, ?_⟩, rfl, by omega⟩
        · rw [hbs, hst]; exact ha3.le (by omega)
        · have := hF c hc; exact ⟨this.1, by omega⟩
        · rw [hbs, hst]
  · have hie : i = l.length := by omega
    subst hie
    rw [List.take_length] at hs
    subst hs
    simp -implicitDefEqProofs only [mkR_nil, mkR_cons, op, ef, cl, sq, reduceIte, Int.reduceLT, Int.reduceLE, Int.reduceBEq, Int.reduceBNe, Int.reduceEq, Nat.reduceAdd, Nat.reduceLeDiff, Nat.reduceLT, Nat.reduceEqDiff, S1, List.length_map, eqRef, nilOf, g5, g6, hlt]
    exact ⟨frm_ext hf, b, F, rfl, ha.le (by omega), hF⟩
end Go.Proofs.Ytodegnhallgnkaa.St
end

section
namespace Go.Proofs.Ytodegnhallgnkaa.St
open Go.Rmp Go.Proofs.Ytodegnhallgnkaa.Ir
set_option maxRecDepth 10000
structure Prv (H0 H : Heap) (b : Bk) (a : Ab) (F : Nat → Prop) (m : Nat) : Prop where
  at_ : AtS H b a F m
  frm : Frm (fun _ => False) H0 H
  new : ∀ c, F c → H0.length ≤ c ∧ c < H.length
theorem Prv.ext {H0 H H' : Heap} {b : Bk} {a : Ab} {F : Nat → Prop} {m : Nat} (h : Prv H0 H b a F m) (hx : Ext H H') : Prv H0 H' b a F m := ⟨h.at_.ext hx, h.frm.ext hx, fun c hc => by have := h.new c hc; have := hx.len; omega⟩
theorem Prv.go {H0 H H' : Heap} {b : Bk} {a a' : Ab} {F F' : Nat → Prop} {m m' : Nat} (h : Prv H0 H b a F m) (ha : AtS H' b a' F' m') (hf : Frm F H H') (hg : Gro F F' H H') : Prv H0 H' b a' F' m' := ⟨ha, h.frm.more hf fun c hc => (h.new c hc).1, fun c hc => by
  have l1 := h.frm.1
  have l2 := hf.1
  rcases hg c hc with h' | h'
  · have := h.new c h'; omega
  · omega⟩
theorem Prv.go' {H0 H H' : Heap} {b : Bk} {a a' : Ab} {F : Nat → Prop} {m m' : Nat} (h : Prv H0 H b a F m) (ha : AtS H' b a' F m') (hf : Frm F H H') : Prv H0 H' b a' F m' := h.go ha hf fun _ h => .inl h
def p1 : List (ByteArray × ByteArray) := [(tA, tX)]
def p2 : List (ByteArray × ByteArray) := [(tA, tY)]
theorem mayL1 : MayP 65536 p1 [tA] := by
  refine ⟨by decide, goodB_iff.1 (by decide +kernel), by decide, fun i hi p hp => ?_⟩
  have : i = 0 := by simp [p1] at hi; omega
  subst this
  simp [p1] at hp; subst hp
  exact ⟨fun h => by omega, by simp, by decide⟩
theorem mayL2 : MayP 131072 p2 [tA] := by
  refine ⟨by decide, goodB_iff.1 (by decide +kernel), by decide, fun i hi p hp => ?_⟩
  have : i = 0 := by simp [p2] at hi; omega
  subst this
  simp [p2] at hp; subst hp
  exact ⟨fun h => by omega, by simp, by decide⟩
def aL : Ab := (((Ab.emp.put 65536 p1 [tA] 0).com 65536 0).put 131072 p2 [tA] 1).com 131072 3
def nL : List Nm := [(tA, 65536), (tA, 131072)]
theorem namesL : Names aL nL := by
  refine ⟨by simp -implicitDefEqProofs only [nL, List.pairwise_cons]; exact ⟨fun x hx => by simp at hx; subst hx; decide +kernel, by simp⟩, fun m => ?_⟩
  simp -implicitDefEqProofs only [aL, has_com, has_put, p1, p2, mlook_cons, mlook_nil, nL, List.mem_cons, List.not_mem_nil, or_false]
  obtain ⟨k, n⟩ := m
  simp -implicitDefEqProofs only [Ab.has, Ab.emp, Prod.mk.injEq, Option.isSome_none, Bool.false_or, Bool.or_eq_true, Bool.and_eq_true, decide_eq_true_eq]
  by_cases hk : k = tA <;> simp [hk]
theorem due0 : dueL aL 12 10 nL = [] := by decide +kernel
theorem due1 : dueL aL 13 10 nL = [(tA, 65536)] := by decide +kernel
theorem stL1 : stampOf aL (tA, 65536) = 3 := by decide +kernel
theorem stL2 : stampOf aL (tA, 131072) = -1 := by decide +kernel
theorem nxtL {t : Int} {is : Bool} (h : NxtV aL nL 10 t is) : t = 13 ∧ is = true := by
  have his : is = true := h.some.2 ⟨(tA, 65536), by simp [nL], by rw [stL1]; decide⟩
  obtain ⟨m, hm, h0, e⟩ := h.on his
  simp -implicitDefEqProofs only [nL, List.mem_cons, List.not_mem_nil, or_false] at hm
  rcases hm with rfl | rfl
  · rw [stL1] at e; exact ⟨e, his⟩
  · rw [stL2] at h0; omega
theorem has0 : ∀ k, (aL.cuts [(tA, 65536)]).has (k, 65536) = false := fun k => by
  have hn := namesL.2 (k, 65536)
  simp -implicitDefEqProofs only [Ab.has, Ab.cuts]
  by_cases h : k = tA
  · subst h; rfl
  · have : memN [(tA, 65536)] (k, 65536) = false := by simp [memN, Ne.symm h]
    rw [this]
    have hh : aL.has (k, 65536) = false := by
      cases e : aL.has (k, 65536) with
      | false => rfl
      | true => have := hn.2 e; simp [nL, h] at this
    simpa [Ab.has] using hh
theorem tAL : AbT aL := (((AbT.emp.put ⟨by decide, by decide⟩).com ⟨by decide, by decide⟩).put ⟨by decide, by decide⟩).com ⟨by decide, by decide⟩
theorem alive7 (H : Heap) : W env (.call 7 []) H (RetG (.bool true) H) := by
  refine W.fnI rfl rfl rfl ?_
  simp -implicitDefEqProofs only [ir7, op, ef, cl, sq, reduceIte, Int.reduceLT, Int.reduceLE, Int.reduceBEq, Int.reduceBNe, Int.reduceEq, Nat.reduceAdd, Nat.reduceLeDiff, Nat.reduceLT, Nat.reduceEqDiff, S1]
  refine callB_of _ _ _ _ _ _ _ _ (newA _) ?_
  rintro u H1 ⟨hx1, b, F0, hu, h1, hF0⟩
  cases hu
  have v1 : Prv H H1 b Ab.emp F0 0 := ⟨h1, ext_frm hx1, hF0⟩
  simp -implicitDefEqProofs only [op, ef, cl, sq, reduceIte, Int.reduceLT, Int.reduceLE, Int.reduceBEq, Int.reduceBNe, Int.reduceEq, Nat.reduceAdd, Nat.reduceLeDiff, Nat.reduceLT, Nat.reduceEqDiff, S1, eqRef, nilOf]
  refine callB_of _ _ _ _ _ _ _ _ (putA 65536 .full .full p1 [tA] 0 v1.at_ (by decide) (fun h => by cases h) mayL1 ⟨by decide, by decide⟩) ?_
  rintro u H2 ⟨F2, hu, a2, f2, g2⟩
  cases hu
  have v2 := v1.go a2 f2 g2
  simp -implicitDefEqProofs only [op, ef, cl, sq, reduceIte, Int.reduceLT, Int.reduceLE, Int.reduceBEq, Int.reduceBNe, Int.reduceEq, Nat.reduceAdd, Nat.reduceLeDiff, Nat.reduceLT, Nat.reduceEqDiff, S1]
  refine callB_of _ _ _ _ _ _ _ _ (comA 65536 0 v2.at_ (by decide) (by decide) ⟨by decide, by decide⟩) ?_
  rintro u H3 ⟨D3, _, _, hu, a3, f3⟩
  cases hu
  have v3 := v2.go' a3 f3
  simp -implicitDefEqProofs only [op, ef, cl, sq, reduceIte, Int.reduceLT, Int.reduceLE, Int.reduceBEq, Int.reduceBNe, Int.reduceEq, Nat.reduceAdd, Nat.reduceLeDiff, Nat.reduceLT, Nat.reduceEqDiff, S1]
  refine callB_of _ _ _ _ _ _ _ _ (putA 131072 .full .full p2 [tA] 1 v3.at_ (by decide) (fun h => by cases h) mayL2 ⟨by decide, by decide⟩) ?_
  rintro u H4 ⟨F4, hu, a4, f4, g4⟩
  cases hu
  have v4 := v3.go a4 f4 g4
  simp -implicitDefEqProofs only [op, ef, cl, sq, reduceIte, Int.reduceLT, Int.reduceLE, Int.reduceBEq, Int.reduceBNe, Int.reduceEq, Nat.reduceAdd, Nat.reduceLeDiff, Nat.reduceLT, Nat.reduceEqDiff, S1]
  refine callB_of _ _ _ _ _ _ _ _ (comA 131072 3 v4.at_ (by decide) (by decide) ⟨by decide, by decide⟩) ?_
  rintro u H5 ⟨D5, _, _, hu, a5, f5⟩
  cases hu
  have v5 : Prv H H5 b aL F4 (0 + p1.length + p2.length) := v4.go' a5 f5
  simp -implicitDefEqProofs only [op, ef, cl, sq, reduceIte, Int.reduceLT, Int.reduceLE, Int.reduceBEq, Int.reduceBNe, Int.reduceEq, Nat.reduceAdd, Nat.reduceLeDiff, Nat.reduceLT, Nat.reduceEqDiff, S1]
  refine callB_of _ _ _ _ _ _ _ _ (due9 12 10 v5.at_ (by decide) ⟨by decide, by decide⟩ ⟨by decide, by decide⟩) ?_
  rintro u H6 ⟨x6, k6, l6, _, n6, _, hu⟩
  cases n6.uniq namesL
  cases hu
  rw [due0]
  have v6 := v5.ext x6
  simp -implicitDefEqProofs only [op, ef, cl, sq, reduceIte, Int.reduceLT, Int.reduceLE, Int.reduceBEq, Int.reduceBNe, Int.reduceEq, Nat.reduceAdd, Nat.reduceLeDiff, Nat.reduceLT, Nat.reduceEqDiff, S1]
  refine callB_of _ _ _ _ _ _ _ _ (next24 10 v6.at_ (by decide) tAL ⟨by decide, by decide⟩) ?_
  rintro u H7 ⟨x7, l7, t7, is7, n7, hv7, hu⟩
  cases n7.uniq namesL
  cases hu
  obtain ⟨rfl, rfl⟩ := nxtL hv7
  have v7 := v6.ext x7
  simp -implicitDefEqProofs only [op, ef, cl, sq, reduceIte, Int.reduceLT, Int.reduceLE, Int.reduceBEq, Int.reduceBNe, Int.reduceEq, Nat.reduceAdd, Nat.reduceLeDiff, Nat.reduceLT, Nat.reduceEqDiff, S1]
  refine callB_of _ _ _ _ _ _ _ _ (collect11 13 10 v7.at_ (by decide) ⟨by decide, by decide⟩ ⟨by decide, by decide⟩) ?_
  rintro u H8 ⟨k8, l8, _, n8, _, hu, a8, f8⟩
  cases n8.uniq namesL
  cases hu
  rw [due1] at a8
  rw [due1]
  have v8 := v7.go' a8 f8
  have z0 : natOf (.int .i64 0) = some 0 := rfl
  have ia : ∀ k, iadT 2 0 (.sl k [eW (tA, 65536)]) = some (.iptr (eW (tA, 65536))) := fun _ => rfl
  have ld : ∀ Hx, ldc Hx 2 (.iptr (eW (tA, 65536))) = some (eW (tA, 65536)) := fun _ => rfl
  have e1 : eqCells (eW (tA, 65536)) [T.str ⟨#[97]⟩, T.int .u64 65536] = some true := by decide +kernel
  have e2 := hasW (tA, 65536)
  simp -implicitDefEqProofs only [op, ef, cl, sq, reduceIte, Int.reduceLT, Int.reduceLE, Int.reduceBEq, Int.reduceBNe, Int.reduceEq, Nat.reduceAdd, Nat.reduceLeDiff, Nat.reduceLT, Nat.reduceEqDiff, S1, z0, ia, ld, e1, e2]
  refine callB_of _ _ _ _ _ _ _ _ (has28 65536 v8.at_) ?_
  rintro u H9 ⟨rfl, D, hD, hDm, hu⟩
  cases hu
  have hD0 : D = [] := by
    cases D with
    | nil => rfl
    | cons x D => have := (hDm x).1 (by simp); rw [has0] at this; cases this
  subst hD0
  simp -implicitDefEqProofs only [op, ef, cl, sq, reduceIte, Int.reduceLT, Int.reduceLE, Int.reduceBEq, Int.reduceBNe, Int.reduceEq, Nat.reduceAdd, Nat.reduceLeDiff, Nat.reduceLT, Nat.reduceEqDiff, S1, Int.cast_ofNat_Int]
  first | exact frm_ext v8.frm | simp [retg_ext (frm_ext v8.frm)]
end Go.Proofs.Ytodegnhallgnkaa.St
end

section
namespace Go.Proofs.Ytodegnhallgnkaa.St
open Go.Rmp Go.Proofs.Ytodegnhallgnkaa.Ir
set_option maxRecDepth 10000
theorem AtS.keys {H : Heap} {b : Bk} {a : Ab} {F : Nat → Prop} {n : Nat} (h : AtS H b a F n) : ∀ m, (vdOf (a.v m)).keys.length ≤ 1024 := fun m => by
  obtain ⟨s, _, hi, rfl, _⟩ := h
  simp -implicitDefEqProofs only [absS]
  cases e : mlook s.vs m with
  | none => simp [vdOf]
  | some x => exact (hi.kok m x e).2
theorem mask8 (a k : Nat) (ha : a < 256) (hk : 2 ^ k - 1 < 256) : IntKind.u8.wrap ((BitVec.ofInt IntKind.u8.bits (a : Int) &&& BitVec.ofInt IntKind.u8.bits ((2 ^ k - 1 : Nat) : Int)).toNat : Nat) = ((a % 2 ^ k : Nat) : Int) := by
  rw [and8 a _ ha hk, Nat.and_two_pow_sub_one_eq_mod]
theorem sameK20 (k k' : SK) (a : Ab) (l : List Nm) (hl : l.length ≤ 8000000) (hk : ∀ m, (vdOf (a.v m)).keys.length ≤ 1024) (H : Heap) : W env (.call 20 [.sl k (l.map (eKA a)), .sl k' (l.map (eKA a))]) H (RetG (.bool true) H) := by
  refine W.fnI rfl rfl rfl ?_
  simp -implicitDefEqProofs only [ir20, op, ef, cl, sq, reduceIte, Int.reduceLT, Int.reduceLE, Int.reduceBEq, Int.reduceBNe, Int.reduceEq, Nat.reduceAdd, Nat.reduceLeDiff, Nat.reduceLT, Nat.reduceEqDiff, S1, List.length_map]
  refine W.loopV [(0, _), (1, _)] (fun (i : Nat) R H' => At H' (fun H' => Ext H H') ∧ R 5 = .int .i64 i ∧ i ≤ l.length) (fun i => l.length - i) 0 ⟨.i Ext.rfl', rfl, Nat.zero_le _⟩ ?_
  rintro i R H1 ⟨hx, g5, hi⟩
  have hx : Ext H H1 := hx
  by_cases hlt : i < l.length
  · obtain ⟨x, hxi⟩ := getP hlt
    have ix := iadX (e := eKA a) (n := 5) (fun _ => rfl) (by decide) (k := k) hxi
    have iy := iadX (e := eKA a) (n := 5) (fun _ => rfl) (by decide) (k := k') hxi
    have wsi := wrap_succ (show i < 9223372036854775807 by omega)
    have l4 : fadT 4 (.iptr (eKA a x)) = some (.iptr [.int .i64 (vdOf (a.v x)).stamp]) := rfl
    have l0 : fadT 0 (.iptr (eKA a x)) = some (.iptr (eKA a x)) := rfl
    have ld : ∀ Hx, ldc Hx 4 (.iptr (eKA a x)) = some (eVer x.1 x.2 (vdOf (a.v x)).value .arg (vdOf (a.v x)).keys) := fun _ => rfl
    simp -implicitDefEqProofs only [mkR_nil, mkR_cons, op, ef, cl, sq, reduceIte, Int.reduceLT, Int.reduceLE, Int.reduceBEq, Int.reduceBNe, Int.reduceEq, Nat.reduceAdd, Nat.reduceLeDiff, Nat.reduceLT, Nat.reduceEqDiff, S1, List.length_map, g5, hlt, natOf_nat, ix, iy, l4, l0, ldc1, ld]
    refine callB_of _ _ _ _ _ _ _ _ (same22 x.1 x.2 _ .arg .arg _ _ (by have := hk x; omega)) ?_
    rintro u H2 ⟨hu, hx2⟩
    cases hu
    have hx2 : Ext H1 H2 := hx2
    simp -implicitDefEqProofs only [mkR_nil, mkR_cons, op, ef, cl, sq, reduceIte, Int.reduceLT, Int.reduceLE, Int.reduceBEq, Int.reduceBNe, Int.reduceEq, Nat.reduceAdd, Nat.reduceLeDiff, Nat.reduceLT, Nat.reduceEqDiff, S1, g5, wsi]
    exact ⟨i + 1, by omega, .i (hx.trans hx2), rfl, by omega⟩
  · simp -implicitDefEqProofs only [mkR_nil, mkR_cons, op, ef, cl, sq, reduceIte, Int.reduceLT, Int.reduceLE, Int.reduceBEq, Int.reduceBNe, Int.reduceEq, Nat.reduceAdd, Nat.reduceLeDiff, Nat.reduceLT, Nat.reduceEqDiff, S1, List.length_map, g5, hlt]
    simp -implicitDefEqProofs only [retg_ext hx]
theorem AtS.names {H : Heap} {b : Bk} {a : Ab} {F : Nat → Prop} {n : Nat} (h : AtS H b a F n) : ∃ l, Names a l ∧ l.length ≤ n := by
  obtain ⟨s, _, hi, rfl, _, hv⟩ := h
  obtain ⟨hp, hpw⟩ := sorted_listF (d := (s.vs.map (·.1)).toArray) (by simpa using hi.nd)
  refine ⟨_, ⟨hpw, fun m => ?_⟩, ?_⟩
  · rw [hp.mem_iff]
    show m ∈ (s.vs.map (·.1)).toArray.toList ↔ _
    rw [List.toList_toArray, mem_keys]; simp [Ab.has, absS]
  · rw [hp.length_eq]; simpa using hv
end Go.Proofs.Ytodegnhallgnkaa.St
end

section
namespace Go.Proofs.Ytodegnhallgnkaa.St
open Go.Rmp Go.Proofs.Ytodegnhallgnkaa.Ir
set_option maxRecDepth 10000
def AbS (a : Ab) : Prop := ∀ m h, a.v m = some h → (h.stamp = -1 ↔ ¬ m.2 < a.last m.1)
theorem AbS.emp : AbS Ab.emp := fun m h e => by cases e
theorem AbS.put {a : Ab} (h : AbS a) {n : Nat} {l : List (ByteArray × ByteArray)} {ks : List ByteArray} {now : Int} (ht : 0 ≤ now) : AbS (a.put n l ks now) := fun m x e => by
  have hl : (a.put n l ks now).last m.1 = a.last m.1 := rfl
  rw [hl]
  simp -implicitDefEqProofs only [Ab.put] at e
  cases h1 : a.v m with
  | some y => rw [h1] at e; cases e; exact h m _ h1
  | none =>
    rw [h1] at e
    simp only at e
    split at e
    · rename_i en
      cases h2 : mlook l m.1 with
      | none => rw [h2] at e; cases e
      | some v =>
        rw [h2] at e; cases e
        simp only
        split
        · rename_i hlt; rw [en]; constructor
          · intro; omega
          · intro hh; exact absurd hlt hh
        · rename_i hlt; rw [en]; simp [hlt]
    · cases e
theorem AbS.com {a : Ab} (h : AbS a) {n : Nat} {now : Int} (ht : 0 ≤ now) : AbS (a.com n now) := fun m x e => by
  have hl : (a.com n now).last m.1 = if a.has (m.1, n) = true ∧ a.last m.1 < n then n else a.last m.1 := by
    show (if _ then some n else a.l m.1).getD 0 = _
    by_cases hc : a.has (m.1, n) = true ∧ a.last m.1 < n
    · rw [if_pos hc, if_pos hc]; rfl
    · rw [if_neg hc, if_neg hc]; rfl
  rw [hl]
  simp -implicitDefEqProofs only [Ab.com] at e
  cases h1 : a.v m with
  | none => rw [h1] at e; cases e
  | some y =>
    have hy := h m y h1
    rw [h1] at e; simp -implicitDefEqProofs only [Option.map_some, Option.some.injEq] at e; subst e
    by_cases hc : a.has (m.1, n) = true ∧ a.last m.1 < n
    · rw [if_pos hc]
      by_cases hs : y.stamp = -1
      · by_cases hm : m.2 < n
        · rw [if_pos ⟨hs, hc.1, hc.2, hm⟩]; simp only; constructor
          · intro; omega
          · intro hh; exact absurd hm hh
        · rw [if_neg fun hh => hm hh.2.2.2]; exact ⟨fun _ => hm, fun _ => hs⟩
      · rw [if_neg fun hh => hs hh.1]
        have : m.2 < a.last m.1 := Decidable.of_not_not fun hh => hs (hy.2 hh)
        constructor
        · intro hh; exact absurd hh hs
        · intro hh; omega
    · rw [if_neg hc, if_neg fun hh => hc ⟨hh.2.1, hh.2.2.1⟩]; exact hy
theorem AbS.cuts {a : Ab} (h : AbS a) (D : List Nm) : AbS (a.cuts D) := fun m x e => by
  simp -implicitDefEqProofs only [Ab.cuts] at e
  split at e
  · cases e
  · exact h m x e
theorem AbS.step {s : Ab × Int} (h : AbS s.1) (ht : 0 ≤ s.2) (o : Opv) : AbS (stepO s o).1 := by
  unfold stepO
  split
  · split
    · exact h
    · exact h.put ht
  · split
    · exact h.com ht
    · exact h
theorem bldS : ∀ (l : List Opv), l.length ≤ 1048576 → ∀ i, i ≤ l.length → AbS (bld (l.take i)).1
  | l, _, 0, _ => by rw [List.take_zero]; exact AbS.emp
  | l, hl, i + 1, h => by
    obtain ⟨o, ho⟩ := getP (l := l) (i := i) (by omega)
    rw [bld_s ho]
    exact (bldS l hl i (by omega)).step (bldOk l hl i (by omega)).t.1 o
theorem filter_len2 {α : Type} (p : α → Bool) : ∀ l : List α, (l.filter fun x => !p x).length + (l.filter p).length = l.length
  | [] => rfl
  | x :: l => by
    have ih := filter_len2 p l
    cases h : p x <;> simp -implicitDefEqProofs only [List.filter_cons, h, Bool.not_false, Bool.not_true, if_true, if_false, Bool.false_eq_true, List.length_cons] <;> omega
theorem filter_at {α : Type} {p : α → Bool} {l : List α} {i : Nat} {x : α} (hx : l[i]? = some x) (hp : p x = true) : (l.filter p)[((l.take i).filter p).length]? = some x := by
  have e : l = l.take i ++ x :: l.drop (i + 1) := by
    obtain ⟨hi, e⟩ := List.getElem?_eq_some_iff.1 hx
    rw [← e, ← List.drop_eq_getElem_cons hi, List.take_append_drop]
  have e2 : l.filter p = (l.take i).filter p ++ x :: (l.drop (i + 1)).filter p := by
    conv => lhs; rw [e]
    rw [List.filter_append, List.filter_cons, if_pos hp]
  rw [e2, List.getElem?_append_right (Nat.le_refl _)]
  simp
theorem names_cuts {a : Ab} {now r : Int} {l l' : List Nm} (h : Names a l) (h' : Names (a.cuts (dueL a now r l)) l') : l' = l.filter fun m => !isDue a now r m := by
  refine h'.uniq ⟨h.1.sublist List.filter_sublist, fun m => ?_⟩
  have hm : memN (dueL a now r l) m = (a.has m && isDue a now r m) := by
    rw [Bool.eq_iff_iff, memN_iff, dueL, List.mem_filter, h.2]; simp -implicitDefEqProofs only [Bool.and_eq_true]
  rw [List.mem_filter, h.2]
  simp -implicitDefEqProofs only [Ab.has, Ab.cuts, hm]
  cases hv : a.v m <;> cases hd : isDue a now r m <;> simp
theorem due_none {a : Ab} {now r : Int} {l l' : List Nm} (h : Names a l) (h' : Names (a.cuts (dueL a now r l)) l') : dueL (a.cuts (dueL a now r l)) now r l' = [] := by
  rw [dueL, List.filter_eq_nil_iff]
  intro m hm hd
  have h2 := (h'.2 m).1 hm
  rw [names_cuts h h', List.mem_filter] at hm
  have hst : stampOf (a.cuts (dueL a now r l)) m = stampOf a m := by
    simp -implicitDefEqProofs only [Ab.has, Ab.cuts] at h2
    split at h2
    · cases h2
    · rename_i hn; simp -implicitDefEqProofs only [stampOf, Ab.cuts, hn]; rfl
  have : isDue a now r m = true := by rw [← hd]; simp -implicitDefEqProofs only [isDue, hst]
  rw [this] at hm; exact absurd hm.2 (by decide)
theorem next_due {a : Ab} {now r t : Int} {is : Bool} {l : List Nm} (hv : NxtV a l r t is) : (decide (0 < (dueL a now r l).length)) = (is && decide (t ≤ now)) := by
  rw [Bool.eq_iff_iff]
  simp -implicitDefEqProofs only [decide_eq_true_eq, Bool.and_eq_true]
  constructor
  · intro hl
    obtain ⟨m, hm⟩ := List.exists_mem_of_length_pos hl
    obtain ⟨h1, h2⟩ := List.mem_filter.1 hm
    simp -implicitDefEqProofs only [isDue, Bool.and_eq_true, decide_eq_true_eq] at h2
    have := hv.least m h1 h2.1
    exact ⟨hv.some.2 ⟨m, h1, h2.1⟩, by omega⟩
  · rintro ⟨h1, h2⟩
    obtain ⟨m, hm, h3, h4⟩ := hv.on h1
    exact List.length_pos_of_mem (a := m) (List.mem_filter.2 ⟨hm, by simp -implicitDefEqProofs only [isDue, Bool.and_eq_true, decide_eq_true_eq]; omega⟩)
set_option maxHeartbeats 2000000 in
theorem keeps6 (k0 : SK) (l : List Opv) (more keep : Nat) (hl : l.length ≤ 1048576) (ho : ∀ o ∈ l, OkO o) (hm : more < 256) (hk : keep < 256) (H : Heap) : W env (.call 6 [.sl k0 (l.map eO), .int .u8 more, .int .u8 keep]) H (fun o _ => o = .val (.bool true)) := by
  have hbo := bldOk l hl l.length (Nat.le_refl _)
  have hS := bldS l hl l.length (Nat.le_refl _)
  rw [List.take_length] at hbo hS
  obtain ⟨A, hA⟩ : ∃ A, A = (bld l).1 := ⟨_, rfl⟩
  obtain ⟨now0, hnow⟩ : ∃ now, now = (bld l).2 := ⟨_, rfl⟩
  have hn0 : 0 ≤ now0 ∧ now0 ≤ 7 * 1048576 := by
    have := hbo.t; rw [← hnow] at this; omega
  have hT := hbo.st
  have hF := hbo.few12
  rw [← hA] at hT hF hS
  have m1 := mask8 keep 4 hk (by decide)
  have m2 := mask8 more 5 hm (by decide)
  simp -implicitDefEqProofs only [Nat.reducePow, Nat.reduceSub] at m1 m2
  have c15 : ((15 : Nat) : Int) = 15 := rfl
  have c31 : ((31 : Nat) : Int) = 31 := rfl
  rw [c15] at m1
  rw [c31] at m2
  have w1 : IntKind.i64.wrap ((keep % 16 : Nat) : Int) = ((keep % 16 : Nat) : Int) := by rw [wrap64 (by omega)]
  have w2 : IntKind.i64.wrap ((more % 32 : Nat) : Int) = ((more % 32 : Nat) : Int) := by rw [wrap64 (by omega)]
  obtain ⟨hold, hh⟩ : ∃ hold : Int, hold = ((keep % 16 : Nat) : Int) := ⟨_, rfl⟩
  have hh16 : 0 ≤ hold ∧ hold < 16 := by omega
  have rok : RetOk hold := ⟨by omega, by omega⟩
  obtain ⟨now, hq⟩ : ∃ now, now = now0 + ((more % 32 : Nat) : Int) := ⟨_, rfl⟩
  have tok : TickOk now := ⟨by omega, by omega⟩
  have hnb : 0 ≤ now ∧ now ≤ 7 * 1048576 + 32 := by omega
  rw [← hh] at m1 w1
  have w3 : IntKind.i64.wrap (now0 + ((more % 32 : Nat) : Int)) = now := by rw [hq, wrap64 (by omega)]
  refine W.fnI rfl rfl rfl ?_
  simp -implicitDefEqProofs only [ir6, op, ef, cl, sq, reduceIte, Int.reduceLT, Int.reduceLE, Int.reduceBEq, Int.reduceBNe, Int.reduceEq, Nat.reduceAdd, Nat.reduceLeDiff, Nat.reduceLT, Nat.reduceEqDiff, S1]
  refine callB_of _ _ _ _ _ _ _ _ (alive7 _) ?_
  rintro u H0 ⟨hu, hx0⟩
  cases hu
  have hx0 : Ext H H0 := hx0
  simp -implicitDefEqProofs only [op, ef, cl, sq, reduceIte, Int.reduceLT, Int.reduceLE, Int.reduceBEq, Int.reduceBNe, Int.reduceEq, Nat.reduceAdd, Nat.reduceLeDiff, Nat.reduceLT, Nat.reduceEqDiff, S1]
  refine callB_of _ _ _ _ _ _ _ _ (built8 k0 l hl ho _) ?_
  rintro u H1 ⟨hx1, b, F, hu, v1, nF⟩
  cases hu
  rw [← hA] at v1
  rw [← hnow]
  simp -implicitDefEqProofs only [op, ef, cl, sq, reduceIte, Int.reduceLT, Int.reduceLE, Int.reduceBEq, Int.reduceBNe, Int.reduceEq, Nat.reduceAdd, Nat.reduceLeDiff, Nat.reduceLT, Nat.reduceEqDiff, S1, eqRef, nilOf, m1, m2, w1, w2, w3]
  refine callB_of _ _ _ _ _ _ _ _ (keptA v1 (by decide)) ?_
  rintro u H2 ⟨x2, kB, l0, _, N0, hl0, hu⟩
  cases hu
  have v2 := v1.ext x2
  simp -implicitDefEqProofs only [op, ef, cl, sq, reduceIte, Int.reduceLT, Int.reduceLE, Int.reduceBEq, Int.reduceBNe, Int.reduceEq, Nat.reduceAdd, Nat.reduceLeDiff, Nat.reduceLT, Nat.reduceEqDiff, S1]
  refine callB_of _ _ _ _ _ _ _ _ (lastsA v2 hF) ?_
  rintro u H3 ⟨x3, kL, ls, _, NL, hls, hu⟩
  cases hu
  have v3 := v2.ext x3
  simp -implicitDefEqProofs only [op, ef, cl, sq, reduceIte, Int.reduceLT, Int.reduceLE, Int.reduceBEq, Int.reduceBNe, Int.reduceEq, Nat.reduceAdd, Nat.reduceLeDiff, Nat.reduceLT, Nat.reduceEqDiff, S1]
  refine callB_of _ _ _ _ _ _ _ _ (due9 now hold v3 (by decide) tok rok) ?_
  rintro u H4 ⟨x4, kD, l4, _, N4, _, hu⟩
  cases N4.uniq N0
  cases hu
  have v4 := v3.ext x4
  simp -implicitDefEqProofs only [op, ef, cl, sq, reduceIte, Int.reduceLT, Int.reduceLE, Int.reduceBEq, Int.reduceBNe, Int.reduceEq, Nat.reduceAdd, Nat.reduceLeDiff, Nat.reduceLT, Nat.reduceEqDiff, S1]
  refine callB_of _ _ _ _ _ _ _ _ (next24 hold v4 (by decide) hT rok) ?_
  rintro u H5 ⟨x5, l5, t, is, N5, hv5, hu⟩
  cases N5.uniq N0
  cases hu
  have v5 := v4.ext x5
  have hnx := next_due (now := now) hv5
  obtain ⟨D, hD⟩ : ∃ D, D = dueL A now hold l0 := ⟨_, rfl⟩
  have hDl := dueL_len A now hold l0
  rw [← hD] at hnx hDl
  rw [← hD]
  simp -implicitDefEqProofs only [op, ef, cl, sq, reduceIte, Int.reduceLT, Int.reduceLE, Int.reduceBEq, Int.reduceBNe, Int.reduceEq, Nat.reduceAdd, Nat.reduceLeDiff, Nat.reduceLT, Nat.reduceEqDiff, S1]
  refine callB_of _ _ _ _ _ _ _ _ (keptA v5 (by decide)) ?_
  rintro u H6 ⟨x6, k6, l6, _, N6, _, hu⟩
  cases N6.uniq N0
  cases hu
  have v6 := v5.ext x6
  refine ⟨trivial, wpB_cut [(7, _), (8, _), (9, _), (10, _), (11, _), (12, _)] (fun R' H' => At H' (fun H' => Ext H6 H') ∧ R' 86 = .bool false) ?_ ?_⟩
  · simp -implicitDefEqProofs only [op, ef, cl, sq, reduceIte, Int.reduceLT, Int.reduceLE, Int.reduceBEq, Int.reduceBNe, Int.reduceEq, Nat.reduceAdd, Nat.reduceLeDiff, Nat.reduceLT, Nat.reduceEqDiff, S1]
    refine callB_of _ _ _ _ _ _ _ _ (sameK20 k6 kB A l0 (by omega) v6.keys _) ?_
    rintro u H7 ⟨hu, x7⟩
    cases hu
    have x7 : Ext H6 H7 := x7
    cases is
    · simp -implicitDefEqProofs only [Bool.false_and] at hnx
      simp -implicitDefEqProofs only [op, ef, cl, sq, reduceIte, Int.reduceLT, Int.reduceLE, Int.reduceBEq, Int.reduceBNe, Int.reduceEq, Nat.reduceAdd, Nat.reduceLeDiff, Nat.reduceLT, Nat.reduceEqDiff, S1, List.length_map, hnx]
      exact .i x7
    · simp -implicitDefEqProofs only [Bool.true_and] at hnx
      cases hd : decide (t ≤ now)
      · rw [hd] at hnx
        simp -implicitDefEqProofs only [op, ef, cl, sq, reduceIte, Int.reduceLT, Int.reduceLE, Int.reduceBEq, Int.reduceBNe, Int.reduceEq, Nat.reduceAdd, Nat.reduceLeDiff, Nat.reduceLT, Nat.reduceEqDiff, S1, List.length_map, hnx, hd]
        exact .i x7
      · rw [hd] at hnx
        simp -implicitDefEqProofs only [op, ef, cl, sq, reduceIte, Int.reduceLT, Int.reduceLE, Int.reduceBEq, Int.reduceBNe, Int.reduceEq, Nat.reduceAdd, Nat.reduceLeDiff, Nat.reduceLT, Nat.reduceEqDiff, S1, List.length_map, hnx, hd]
        exact .i x7
  rintro R H7 ⟨x7, g86⟩
  have x7 : Ext H6 H7 := x7
  have v7 := v6.ext x7
  simp -implicitDefEqProofs only [mkR_nil, mkR_cons, op, ef, cl, sq, reduceIte, Int.reduceLT, Int.reduceLE, Int.reduceBEq, Int.reduceBNe, Int.reduceEq, Nat.reduceAdd, Nat.reduceLeDiff, Nat.reduceLT, Nat.reduceEqDiff, S1, g86]
  refine callB_of _ _ _ _ _ _ _ _ (collect11 now hold v7 (by decide) tok rok) ?_
  rintro u H8 ⟨k8, l8, _, N8, _, hu, v8, f8⟩
  cases N8.uniq N0
  rw [← hD] at hu v8
  cases hu
  simp -implicitDefEqProofs only [mkR_nil, mkR_cons, op, ef, cl, sq, reduceIte, Int.reduceLT, Int.reduceLE, Int.reduceBEq, Int.reduceBNe, Int.reduceEq, Nat.reduceAdd, Nat.reduceLeDiff, Nat.reduceLT, Nat.reduceEqDiff, S1]
  refine callB_of _ _ _ _ _ _ _ _ (keptA v8 (by decide)) ?_
  rintro u H9 ⟨x9, k9, l1, _, N1, hl1, hu⟩
  cases hu
  have v9 := v8.ext x9
  have hl1e := names_cuts N0 (hD ▸ N1)
  have hdn := due_none N0 (hD ▸ N1)
  rw [← hD] at hdn
  have hsum : l1.length + D.length = l0.length := by rw [hl1e, hD]; exact filter_len2 _ l0
  have ws : IntKind.i64.wrap ((l1.length : Int) + (D.length : Int)) = (l0.length : Int) := by rw [wrap64 (by omega)]; omega
  simp -implicitDefEqProofs only [mkR_nil, mkR_cons, op, ef, cl, sq, reduceIte, Int.reduceLT, Int.reduceLE, Int.reduceBEq, Int.reduceBNe, Int.reduceEq, Nat.reduceAdd, Nat.reduceLeDiff, Nat.reduceLT, Nat.reduceEqDiff, S1, List.length_map]
  refine callB_of _ _ _ _ _ _ _ _ (sameN10 k8 kD D D _ (by omega)) ?_
  rintro u H10 ⟨hu, rfl⟩
  cases hu
  simp -implicitDefEqProofs only [mkR_nil, mkR_cons, op, ef, cl, sq, reduceIte, Int.reduceLT, Int.reduceLE, Int.reduceBEq, Int.reduceBNe, Int.reduceEq, Nat.reduceAdd, Nat.reduceLeDiff, Nat.reduceLT, Nat.reduceEqDiff, S1]
  refine callB_of _ _ _ _ _ _ _ _ (lastsA v9 hF) ?_
  rintro u H11 ⟨x11, kM, ls', _, NL', _, hu⟩
  cases hu
  cases (show LNames A ls' from NL').uniq NL
  have v11 := v9.ext x11
  simp -implicitDefEqProofs only [mkR_nil, mkR_cons, op, ef, cl, sq, reduceIte, Int.reduceLT, Int.reduceLE, Int.reduceBEq, Int.reduceBNe, Int.reduceEq, Nat.reduceAdd, Nat.reduceLeDiff, Nat.reduceLT, Nat.reduceEqDiff, S1]
  refine callB_of _ _ _ _ _ _ _ _ (sameN22 kM kL (ls.map (lnm A)) (ls.map (lnm A)) _ (by rw [List.length_map]; omega)) ?_
  rintro u H12 ⟨hu, rfl⟩
  cases hu
  simp -implicitDefEqProofs only [mkR_nil, mkR_cons, op, ef, cl, sq, reduceIte, Int.reduceLT, Int.reduceLE, Int.reduceBEq, Int.reduceBNe, Int.reduceEq, Nat.reduceAdd, Nat.reduceLeDiff, Nat.reduceLT, Nat.reduceEqDiff, S1, List.length_map, ws]
  refine W.loopX 0 [(7, _), (8, _), (9, _), (10, _), (11, _), (12, _), (19, _)] (fun (i : Nat) R H' => At H' (fun H' => Ext H12 H') ∧ R 20 = .int .i64 ((l0.take i).filter (isDue A now hold)).length ∧ R 21 = .int .i64 ((l0.take i).filter fun x => !isDue A now hold x).length ∧ R 22 = .int .i64 i ∧ i ≤ l0.length) (fun i => l0.length - i) 0 (fun R H' => At H' (fun H' => Ext H12 H') ∧ R 20 = .int .i64 D.length) ⟨.i Ext.rfl', rfl, rfl, rfl, Nat.zero_le _⟩ ?_ ?_
  · rintro i R H13 ⟨x13, g20, g21, g22, hi⟩
    have x13 : Ext H12 H13 := x13
    have v13 := v11.ext x13
    by_cases hlt : i < l0.length
    · obtain ⟨x, hxi⟩ := getP hlt
      have ix := iadX (e := eKA A) (n := 5) (fun _ => rfl) (by decide) (k := kB) hxi
      have wsi := wrap_succ (show i < 9223372036854775807 by omega)
      have hhas := (N0.2 x).1 (List.mem_of_getElem? hxi)
      obtain ⟨hd, hhd⟩ := Option.isSome_iff_exists.1 hhas
      have hSx := hS x hd hhd
      have hTx := hT x hd hhd
      have hst : stampOf A x = hd.stamp := by simp -implicitDefEqProofs only [stampOf, hhd]; rfl
      have hvd : vdOf (A.v x) = hd := by rw [hhd]; rfl
      have hls : (A.cuts D).last x.1 = A.last x.1 := rfl
      have wn : IntKind.i64.wrap (now - hd.stamp) = now - hd.stamp := by unfold TickOk at hTx; rw [wrap64 (by omega)]
      have lc : H13.length < H13.length + 1 := by omega
      have hft := filter_take (p := isDue A now hold) hxi
      have hfn := filter_take (p := fun x => !isDue A now hold x) hxi
      obtain ⟨n, hn⟩ : ∃ n, n = ((l0.take i).filter (isDue A now hold)).length := ⟨_, rfl⟩
      obtain ⟨m, hm⟩ : ∃ m, m = ((l0.take i).filter fun x => !isDue A now hold x).length := ⟨_, rfl⟩
      have hnle : n ≤ i := by rw [hn]; exact Nat.le_trans (List.length_filter_le _ _) (by simp; omega)
      have hmle : m ≤ i := by rw [hm]; exact Nat.le_trans (List.length_filter_le _ _) (by simp; omega)
      have wn1 := wrap_succ (show n < 9223372036854775807 by omega)
      have wm1 := wrap_succ (show m < 9223372036854775807 by omega)
      rw [← hn] at g20
      rw [← hm] at g21
      have v14 := fun y => v13.ext (⟨[y], rfl⟩ : Ext H13 (H13 ++ [y]))
      have x14 := fun y => x13.trans (⟨[y], rfl⟩ : Ext H13 (H13 ++ [y]))
      cases hdue : isDue A now hold x
      · have hl1x : l1[m]? = some x := by rw [hl1e, hm]; exact filter_at hxi (by simp [hdue])
        have hml := (List.getElem?_eq_some_iff.1 hl1x).1
        have iy := iadX (e := eKA (A.cuts D)) (n := 5) (fun _ => rfl) (by decide) (k := k9) hl1x
        have hno : ∀ y : Nm, D[n]? = some y → y ≠ x := fun y hy e => by
          have := List.mem_of_getElem? hy
          rw [hD, dueL, List.mem_filter, e, hdue] at this
          exact absurd this.2 (by decide)
        have hvc : vdOf ((A.cuts D).v x) = hd := by
          have : x ∉ D := fun hh => by
            rw [hD, dueL, List.mem_filter, hdue] at hh; exact absurd hh.2 (by decide)
          simp -implicitDefEqProofs only [Ab.cuts, memN_no this, Bool.false_eq_true, if_false]; exact hvd
        have hml' : ¬ l1.length ≤ m := by omega
        have hkl : hd.keys.length ≤ 8000000 := by have := v6.keys x; rw [hvd] at this; omega
        have l0' : fadT 0 (.iptr (eKA (A.cuts D) x)) = some (.iptr (eKA (A.cuts D) x)) := rfl
        have l4' : fadT 4 (.iptr (eKA (A.cuts D) x)) = some (.iptr [.int .i64 hd.stamp]) := by simp -implicitDefEqProofs only [eKA, hvc]; rfl
        have ld' : ∀ Hx, ldc Hx 4 (.iptr (eKA (A.cuts D) x)) = some (eVer x.1 x.2 hd.value .arg hd.keys) := fun _ => by simp -implicitDefEqProofs only [eKA, hvc]; rfl
        have l0 : fadT 0 (.iptr (eKA A x)) = some (.iptr (eKA A x)) := rfl
        have l4 : fadT 4 (.iptr (eKA A x)) = some (.iptr [.int .i64 hd.stamp]) := by simp -implicitDefEqProofs only [eKA, hvd]; rfl
        have ld : ∀ Hx, ldc Hx 4 (.iptr (eKA A x)) = some [.str x.1, .int .u64 x.2, .str hd.value, .sl .arg (hd.keys.map eS)] := fun _ => by simp -implicitDefEqProofs only [eKA, hvd]; rfl
        have key : (n < D.length) = False ∨ ∃ y : Nm, (n < D.length) = True ∧ iadT 2 n (.sl kD (D.map eW)) = some (.iptr (eW y)) ∧ ((y.1 = x.1) = False ∨ ((y.1 = x.1) = True ∧ (y.2 = x.2) = False)) := by
          by_cases hnD : n < D.length
          · obtain ⟨y, hy⟩ := getP hnD
            refine .inr ⟨y, by simp [hnD], iadX (e := eW) (n := 2) (fun _ => rfl) (by decide) hy, ?_⟩
            have hne := hno y hy
            by_cases e : y.1 = x.1
            · refine .inr ⟨by simp [e], eq_false fun e2 => hne (Prod.ext e e2)⟩
            · exact .inl (by simp [e])
          · exact .inl (by simp [hnD])
        rw [hdue] at hft hfn
        simp -implicitDefEqProofs only [Bool.false_eq_true, if_false, List.append_nil] at hft
        rcases key with hk1 | ⟨y, hk1, iz, hk2 | ⟨hk2, hk3⟩⟩
        simp -implicitDefEqProofs only [mkR_nil, mkR_cons, op, ef, cl, sq, reduceIte, Int.reduceLT, Int.reduceLE, Int.reduceBEq, Int.reduceBNe, Int.reduceEq, Nat.reduceAdd, Nat.reduceLeDiff, Nat.reduceLT, Nat.reduceEqDiff, S1, S2, List.length_map, g20, g21, g22, hlt, natOf_nat, ix, l0, l4, ld, hk1, iy, l0', l4', ld', hml']
        rotate_left
        simp -implicitDefEqProofs only [mkR_nil, mkR_cons, op, ef, cl, sq, reduceIte, Int.reduceLT, Int.reduceLE, Int.reduceBEq, Int.reduceBNe, Int.reduceEq, Nat.reduceAdd, Nat.reduceLeDiff, Nat.reduceLT, Nat.reduceEqDiff, S1, S2, List.length_map, g20, g21, g22, hlt, natOf_nat, ix, l0, l4, ld, hk1, iz, eW, hk2, iy, l0', l4', ld', hml']
        rotate_left
        simp -implicitDefEqProofs only [mkR_nil, mkR_cons, op, ef, cl, sq, reduceIte, Int.reduceLT, Int.reduceLE, Int.reduceBEq, Int.reduceBNe, Int.reduceEq, Nat.reduceAdd, Nat.reduceLeDiff, Nat.reduceLT, Nat.reduceEqDiff, S1, S2, List.length_map, g20, g21, g22, hlt, natOf_nat, ix, l0, l4, ld, hk1, iz, eW, hk2, hk3, deq, iy, l0', l4', ld', hml']
        rotate_left
        all_goals
          refine callB_of _ _ _ _ _ _ _ _ (same22 x.1 x.2 hd.value .arg .arg hd.keys _ hkl) ?_
          rintro u H14 ⟨hu, x15⟩
          cases hu
          have x15 : Ext _ H14 := x15
          have hc14 := x15.get (g_tail (H := H13) (l := []) (x := .cells [.str x.1, .int .u64 x.2, .str hd.value, .sl .arg (hd.keys.map eS)]) rfl)
          simp -implicitDefEqProofs only [mkR_nil, mkR_cons, op, ef, cl, sq, reduceIte, Int.reduceLT, Int.reduceLE, Int.reduceBEq, Int.reduceBNe, Int.reduceEq, Nat.reduceAdd, Nat.reduceLeDiff, Nat.reduceLT, Nat.reduceEqDiff, S1, hc14, l4, l4', g20, g21, g22, natOf_nat, ix, iy, ldc1]
          refine callB_of _ _ _ _ _ _ _ _ (lastA x.1 ((v14 _).ext x15)) ?_
          rintro u H15 ⟨hu, rfl⟩
          cases hu
          rw [hls]
          by_cases hlx : x.2 < A.last x.1
          · have hs1 : hd.stamp ≠ -1 := fun e => hSx.1 e hlx
            have hs0 : 0 ≤ hd.stamp := by unfold TickOk at hTx; omega
            have hnd : ¬ (hold ≤ now - hd.stamp) := fun h => by
              have : isDue A now hold x = true := by simp -implicitDefEqProofs only [isDue, hst, Bool.and_eq_true, decide_eq_true_eq]; omega
              rw [hdue] at this; cases this
            simp -implicitDefEqProofs only [mkR_nil, mkR_cons, op, ef, cl, sq, reduceIte, Int.reduceLT, Int.reduceLE, Int.reduceBEq, Int.reduceBNe, Int.reduceEq, Nat.reduceAdd, Nat.reduceLeDiff, Nat.reduceLT, Nat.reduceEqDiff, S1, hc14, hlx, g20, g21, g22, natOf_nat, ix, l4, ldc1, wn, hnd, wm1, wsi]
            exact ⟨i + 1, by omega, .i ((x14 _).trans x15), by rw [hft, ← hn], by rw [hfn, List.length_append, ← hm]; rfl, rfl, by omega⟩
          · simp -implicitDefEqProofs only [mkR_nil, mkR_cons, op, ef, cl, sq, reduceIte, Int.reduceLT, Int.reduceLE, Int.reduceBEq, Int.reduceBNe, Int.reduceEq, Nat.reduceAdd, Nat.reduceLeDiff, Nat.reduceLT, Nat.reduceEqDiff, S1, hc14, hlx, g20, g21, g22, wm1, wsi]
            exact ⟨i + 1, by omega, .i ((x14 _).trans x15), by rw [hft, ← hn], by rw [hfn, List.length_append, ← hm]; rfl, rfl, by omega⟩
      · have hDx : D[n]? = some x := by rw [hD, dueL, hn]; exact filter_at hxi hdue
        have hnl := (List.getElem?_eq_some_iff.1 hDx).1
        have iz := iadX (e := eW) (n := 2) (fun _ => rfl) (by decide) (k := kD) hDx
        have hdu : 0 ≤ hd.stamp ∧ hd.stamp ≤ now - hold := by simpa [isDue, hst] using hdue
        have hlx : ¬ (A.last x.1 ≤ x.2) := by
          have : x.2 < A.last x.1 := Decidable.of_not_not fun hh => by have := hSx.2 hh; omega
          omega
        have hnh : ¬ (now - hd.stamp < hold) := by omega
        have l0 : fadT 0 (.iptr (eKA A x)) = some (.iptr (eKA A x)) := rfl
        have l4 : fadT 4 (.iptr (eKA A x)) = some (.iptr [.int .i64 hd.stamp]) := by simp -implicitDefEqProofs only [eKA, hvd]; rfl
        have ld : ∀ Hx, ldc Hx 4 (.iptr (eKA A x)) = some [.str x.1, .int .u64 x.2, .str hd.value, .sl .arg (hd.keys.map eS)] := fun _ => by simp -implicitDefEqProofs only [eKA, hvd]; rfl
        rw [hdue] at hft hfn
        simp -implicitDefEqProofs only [Bool.not_true, Bool.false_eq_true, if_false, List.append_nil] at hfn
        simp -implicitDefEqProofs only [mkR_nil, mkR_cons, op, ef, cl, sq, reduceIte, Int.reduceLT, Int.reduceLE, Int.reduceBEq, Int.reduceBNe, Int.reduceEq, Nat.reduceAdd, Nat.reduceLeDiff, Nat.reduceLT, Nat.reduceEqDiff, S1, S2, List.length_map, g20, g21, g22, hlt, natOf_nat, ix, l0, l4, ld, hnl, iz, eW]
        refine callB_of _ _ _ _ _ _ _ _ (lastA x.1 (v14 _)) ?_
        rintro u H15 ⟨hu, rfl⟩
        cases hu
        rw [hls]
        simp -implicitDefEqProofs only [mkR_nil, mkR_cons, op, ef, cl, sq, reduceIte, Int.reduceLT, Int.reduceLE, Int.reduceBEq, Int.reduceBNe, Int.reduceEq, Nat.reduceAdd, Nat.reduceLeDiff, Nat.reduceLT, Nat.reduceEqDiff, S1, S2, hlx, g20, g21, g22, natOf_nat, ix, l4, ldc1, wn, hnh, wn1, wsi]
        exact ⟨i + 1, by omega, .i (x14 _), by rw [hft, List.length_append, ← hn]; rfl, by rw [hfn, ← hm], rfl, by omega⟩
    · have hie : i = l0.length := by omega
      subst hie
      rw [List.take_length] at g20
      simp -implicitDefEqProofs only [mkR_nil, mkR_cons, op, ef, cl, sq, reduceIte, Int.reduceLT, Int.reduceLE, Int.reduceBEq, Int.reduceBNe, Int.reduceEq, Nat.reduceAdd, Nat.reduceLeDiff, Nat.reduceLT, Nat.reduceEqDiff, S1, List.length_map, g20, g21, g22, hlt]
      exact ⟨.i x13, by rw [hD]; rfl⟩
  · rintro R H13 ⟨x13, g20⟩
    have x13 : Ext H12 H13 := x13
    have v13 := v11.ext x13
    simp -implicitDefEqProofs only [mkR_nil, mkR_cons, op, ef, cl, sq, reduceIte, Int.reduceLT, Int.reduceLE, Int.reduceBEq, Int.reduceBNe, Int.reduceEq, Nat.reduceAdd, Nat.reduceLeDiff, Nat.reduceLT, Nat.reduceEqDiff, S1, g20, List.length_map]
    refine W.loopX 2 [(7, _), (8, _), (9, _), (11, _), (12, _), (20, _)] (fun (i : Nat) R H' => At H' (fun H' => Ext H13 H') ∧ R 24 = .int .i64 i ∧ i ≤ ls.length) (fun i => ls.length - i) 0 (fun R H' => At H' (fun H' => Ext H13 H')) ⟨.i Ext.rfl', rfl, Nat.zero_le _⟩ ?_ ?_
    · rintro i R H14 ⟨x14, g24, hi⟩
      have x14 : Ext H13 H14 := x14
      by_cases hlt : i < ls.length
      · obtain ⟨x, hxi⟩ := getP hlt
        have hx2 : (ls.map (lnm A))[i]? = some (lnm A x) := by rw [List.getElem?_map, hxi]; rfl
        have ix := iadX (e := eW) (n := 2) (fun _ => rfl) (by decide) (k := kL) hx2
        have wsi := wrap_succ (show i < 9223372036854775807 by omega)
        simp -implicitDefEqProofs only [mkR_nil, mkR_cons, op, ef, cl, sq, reduceIte, Int.reduceLT, Int.reduceLE, Int.reduceBEq, Int.reduceBNe, Int.reduceEq, Nat.reduceAdd, Nat.reduceLeDiff, Nat.reduceLT, Nat.reduceEqDiff, S1, List.length_map, g24, hlt, natOf_nat, ix, eW, lnm]
        refine callB_of _ _ _ _ _ _ _ _ (latestA x (v13.ext x14)) ?_
        rintro u H15 ⟨x15, kk, _, hu⟩
        cases hu
        have hls : (A.cuts D).last x = A.last x := rfl
        simp -implicitDefEqProofs only [mkR_nil, mkR_cons, op, ef, cl, sq, reduceIte, Int.reduceLT, Int.reduceLE, Int.reduceBEq, Int.reduceBNe, Int.reduceEq, Nat.reduceAdd, Nat.reduceLeDiff, Nat.reduceLT, Nat.reduceEqDiff, S1, eVer, hls, g24, wsi]
        exact ⟨i + 1, by omega, .i (x14.trans x15), rfl, by omega⟩
      · simp -implicitDefEqProofs only [mkR_nil, mkR_cons, op, ef, cl, sq, reduceIte, Int.reduceLT, Int.reduceLE, Int.reduceBEq, Int.reduceBNe, Int.reduceEq, Nat.reduceAdd, Nat.reduceLeDiff, Nat.reduceLT, Nat.reduceEqDiff, S1, List.length_map, g24, hlt]
        exact .i x14
    · rintro R H14 x14
      have x14 : Ext H13 H14 := x14
      simp -implicitDefEqProofs only [mkR_nil, mkR_cons, op, ef, cl, sq, reduceIte, Int.reduceLT, Int.reduceLE, Int.reduceBEq, Int.reduceBNe, Int.reduceEq, Nat.reduceAdd, Nat.reduceLeDiff, Nat.reduceLT, Nat.reduceEqDiff, S1]
      refine callB_of _ _ _ _ _ _ _ _ (due9 now hold (v13.ext x14) (by decide) tok rok) ?_
      rintro u H15 ⟨x15, k15, l15, _, N15, _, hu⟩
      cases N15.uniq N1
      rw [hdn] at hu
      cases hu
      simp -implicitDefEqProofs only [mkR_nil, mkR_cons, op, ef, cl, sq, reduceIte, Int.reduceLT, Int.reduceLE, Int.reduceBEq, Int.reduceBNe, Int.reduceEq, Nat.reduceAdd, Nat.reduceLeDiff, Nat.reduceLT, Nat.reduceEqDiff, S1, g20, List.length_map]
end Go.Proofs.Ytodegnhallgnkaa.St
end

section
namespace Go.Proofs.Ytodegnhallgnkaa
open Go.ChangeShapes Go.WideShapes Go.ChangeAt Go.RowKit
namespace Law
theorem own : ownKnob Try.prog.godebug = none := by kernel_rfl
theorem kids : Kids Try.prog (· < Try.prog.types.size) := kids_rows (by kernel_rfl) (by kernel_rfl)
noncomputable def hzB : Bool := (List.range Try.prog.types.size).all fun t => match Try.prog.underlying t with
  | some (.slice e) => decide (0 < Try.prog.cellsOf e)
  | _ => true
theorem hzB_ok : hzB = true := by kernel_rfl
theorem hz : ∀ t e, t < Try.prog.types.size → Try.prog.underlying t = some (.slice e) → 0 < Try.prog.cellsOf e := fun t e ht h => by
  have := (List.all_eq_true.1 hzB_ok) t (List.mem_range.2 ht)
  rw [h] at this
  simpa using this
mutual
theorem bulk_eq {H : Type} : ∀ d : DataW H, Go.Rmp.bulkW d = Rows.uptoBulk d
  | .lit l => by cases l <;> simp [Go.Rmp.bulkW, Rows.uptoBulk]
  | .nil => by simp [Go.Rmp.bulkW, Rows.uptoBulk]
  | .ptr d => by simp [Go.Rmp.bulkW, Rows.uptoBulk, bulk_eq d]
  | .slice elems spare => by simp [Go.Rmp.bulkW, Rows.uptoBulk, bulks_eq elems, bulks_eq spare]
  | .agg parts => by simp [Go.Rmp.bulkW, Rows.uptoBulk, bulks_eq parts]
  | .iface _ d => by simp [Go.Rmp.bulkW, Rows.uptoBulk, bulk_eq d]
  | .map entries => by simp [Go.Rmp.bulkW, Rows.uptoBulk, bulkE_eq entries]
  | .held _ => by simp [Go.Rmp.bulkW, Rows.uptoBulk]
theorem bulks_eq {H : Type} : ∀ l : List (DataW H), Go.Rmp.bulkAllW l = Rows.uptoBulkAll l
  | [] => by simp [Go.Rmp.bulkAllW, Rows.uptoBulkAll]
  | d :: r => by simp [Go.Rmp.bulkAllW, Rows.uptoBulkAll, bulk_eq d, bulks_eq r]
theorem bulkE_eq {H : Type} : ∀ l : List (Lit × DataW H), Go.Rmp.bulkEntriesW l = Rows.uptoBulkEntries l
  | [] => by simp [Go.Rmp.bulkEntriesW, Rows.uptoBulkEntries]
  | x :: r => by simp [Go.Rmp.bulkEntriesW, Rows.uptoBulkEntries, bulkEn_eq x, bulkE_eq r]
theorem bulkEn_eq {H : Type} : ∀ x : Lit × DataW H, Go.Rmp.bulkEntryW x = Rows.uptoBulkEntry x
  | (l, d) => by cases l <;> simp [Go.Rmp.bulkEntryW, Rows.uptoBulkEntry, bulk_eq d]
end
theorem bulk_ok {H : Type} {ds : List (DataW H)} (h : Rows.uptoSmall H ds = true) : Go.Rmp.bulkAllW ds ≤ 1048576 := by
  rw [bulks_eq]; simpa [Rows.uptoSmall] using h
theorem hasS {B : Nat} {t : Go.Rmp.T} (h : Go.Rmp.HasSh B .str t) : ∃ s, t = .str s ∧ s.size ≤ B := by
  cases h with | str h hB => exact ⟨_, rfl, hB⟩
theorem hasI {B : Nat} {t : Go.Rmp.T} (h : Go.Rmp.HasSh B (.int .i64) t) : ∃ n : Int, t = .int .i64 n ∧ St.I64 n := by
  cases h with | int h =>
    rename_i n
    exact ⟨n, rfl, by simpa [St.I64, Lit.wf, IntKind.min, IntKind.max, IntKind.signed, IntKind.bits] using h⟩
theorem hasU8 {B : Nat} {t : Go.Rmp.T} (h : Go.Rmp.HasSh B (.int .u8) t) : ∃ n : Nat, t = .int .u8 n ∧ n < 256 := by
  cases h with | int h =>
    rename_i n
    have : 0 ≤ n ∧ n ≤ 255 := by simpa [Lit.wf, IntKind.min, IntKind.max, IntKind.signed, IntKind.bits] using h
    exact ⟨n.toNat, by congr 1; omega, by omega⟩
theorem hasU64 {B : Nat} {t : Go.Rmp.T} (h : Go.Rmp.HasSh B (.int .u64) t) : ∃ n : Nat, t = .int .u64 n ∧ n < 18446744073709551616 := by
  cases h with | int h =>
    rename_i n
    have : 0 ≤ n ∧ n ≤ 18446744073709551615 := by simpa [Lit.wf, IntKind.min, IntKind.max, IntKind.signed, IntKind.bits] using h
    exact ⟨n.toNat, by congr 1; omega, by omega⟩
end Law
namespace St
open Go.Rmp
theorem map_of {α : Type} {P : α → Prop} (enc : α → List T) (es : List (List T)) (h : ∀ c ∈ es, ∃ x, c = enc x ∧ P x) : ∃ l : List α, es = l.map enc ∧ ∀ x ∈ l, P x := by
  induction es with
  | nil => exact ⟨[], rfl, by simp⟩
  | cons c es ih =>
    obtain ⟨l, rfl, hl⟩ := ih (fun c hc => h c (List.mem_cons_of_mem _ hc))
    obtain ⟨x, rfl, hx⟩ := h _ List.mem_cons_self
    exact ⟨x :: l, rfl, fun y hy => by rcases List.mem_cons.1 hy with rfl | hy; exact hx; exact hl y hy⟩
theorem hasOs {B : Nat} {t : T} (h : HasSh B (.sl [.int .i64, .int .u64, .int .u8, .int .u8, .str]) t) : ∃ (k : SK) (l : List Opv), t = .sl k (l.map eO) ∧ l.length ≤ B ∧ ∀ o ∈ l, OkO o := by
  cases h with
  | nil => exact ⟨.nil, [], rfl, Nat.zero_le _, by simp⟩
  | sl hl hB h0 h =>
    rename_i es
    obtain ⟨l, rfl, hP⟩ := map_of (P := fun o : Opv => OkO o) eO es fun c hc => by
      have hc1 := h0 c hc
      match c, hc1 with
      | [a, b, d, e, f], _ =>
        obtain ⟨x, rfl, hx⟩ := Law.hasI (h _ hc 0 (.int .i64) a rfl rfl)
        obtain ⟨y, rfl, hy⟩ := Law.hasU64 (h _ hc 1 (.int .u64) b rfl rfl)
        obtain ⟨z, rfl, hz⟩ := Law.hasU8 (h _ hc 2 (.int .u8) d rfl rfl)
        obtain ⟨w, rfl, hw⟩ := Law.hasU8 (h _ hc 3 (.int .u8) e rfl rfl)
        obtain ⟨s, rfl, _⟩ := Law.hasS (h _ hc 4 .str f rfl rfl)
        exact ⟨⟨x, y, z, w, s⟩, rfl, hy, hz, hw⟩
    exact ⟨.arg, l, rfl, by simpa using hB, hP⟩
end St
namespace Law
end Law
end Go.Proofs.Ytodegnhallgnkaa
end

section
namespace Go.Proofs.Ytodegnhallgnkaa
open Go.ChangeShapes Go.WideShapes Go.ChangeAt Go.RowKit
namespace Law
theorem retainKeeps_w (as' : List Go.Rmp.T) (hs : Go.Rmp.HasShs 1048576 [Go.Rmp.Sh.sl [.int .i64, .int .u64, .int .u8, .int .u8, .str], .int .u8, .int .u8] as') : Go.Rmp.W Ir.env (.call 6 as') [] (fun o _ => o = .val (.bool true)) := by
  cases hs with | cons h1 hs =>
  cases hs with | cons h2 hs =>
  cases hs with | cons h3 hs =>
  cases hs
  obtain ⟨k, l, rfl, n1, n2⟩ := St.hasOs h1
  obtain ⟨more, rfl, n3⟩ := hasU8 h2
  obtain ⟨keep, rfl, n4⟩ := hasU8 h3
  exact St.keeps6 k l more keep n1 n2 n3 n4 []
theorem retainKeeps_fn (H : Type) : ∀ ds : List (DataW H), ds.length = Try.f6.params.toList.length → Rows.retainKeepsSpec.fn H ds = { results := [.lit (.bool true)], args := ds } := by
  have hn : Try.f6.params.toList.length = 3 := by kernel_rfl
  rw [hn]
  intro ds hds
  cases ds with | nil => simp at hds | cons d0 ds =>
  cases ds with | nil => simp at hds | cons d1 ds =>
  cases ds with | nil => simp at hds | cons d2 ds =>
  cases ds with | cons => simp at hds | nil =>
  rfl
set_option maxRecDepth 100000 in
theorem retainKeeps_lifted (os : Os) (started : os.Started) (H : Type) (enc : TypeId × Value → H) (F : Stop.Interp) :
    ReturnsInHanded {} Try.checked os 6 .any ((Rows.OpenSpec.upto Rows.retainKeepsSpec).pre6 enc Try.prog Try.f6 Rows.retainKeepsUptoRow.domain false) (((Rows.OpenSpec.upto Rows.retainKeepsSpec).at F).post enc Try.prog Try.f6 false true false false) := by
  refine returnsInHanded_of_cond (C := Try.checked) (s := Rows.OpenSpec.upto Rows.retainKeepsSpec) (k := Rows.uptoSmall) rfl own started (by kernel_rfl) Try.func6
    (OpenSpec.witness (enc := enc) (C := Try.checked) (s := Rows.OpenSpec.upto Rows.retainKeepsSpec) (k := Rows.uptoSmall) rfl false ⟨#[], #[.slice .none 0 0, .int .u8 0, .int .u8 0], []⟩ 8 (by kernel_rfl) (by kernel_rfl) (by kernel_rfl)
      (x := ([.nil, .lit (.int .u8 0), .lit (.int .u8 0)], [], [])) (by kernel_rfl) rfl (by kernel_rfl)) ?_
  intro W base args ds gs before hval hW _ hk _
  exact Go.Rmp.law_contract (s := Rows.retainKeepsSpec) (shs := [Go.Rmp.Sh.sl [.int .i64, .int .u64, .int .u8, .int .u8, .str], .int .u8, .int .u8]) (B := 1048576) (tb := Try.f6.resultTypes[0]!) Ir.envOk kids hz (by kernel_rfl) (by intro t ht; exact of_decide_eq_true ((List.all_eq_true.1 (show Try.f6.params.toList.all (fun t => decide (t < Try.prog.types.size)) = true by kernel_rfl)) t ht)) (by kernel_rfl) (by kernel_rfl) rfl (retainKeeps_fn H) retainKeeps_w base args ds gs before hval hW (bulk_ok hk)
theorem retainKeeps_over : Rows.retainKeepsUptoRow.holds Try.pinned (Rows.OpenSpec.upto Rows.retainKeepsSpec) :=
  OpenClaim.holds_of_cond 6 Try.f6 rfl rfl rfl rfl rfl rfl rfl ⟨rfl, rfl, rfl, rfl, rfl⟩ rfl rfl rfl rfl rfl (by kernel_rfl) Try.func6 (by kernel_rfl)
    (of_decide_eq_true (by kernel_rfl)) (by unfold Func.isWrapper; first | (rw [if_pos (by decide +kernel)]; kernel_rfl) | (rw [if_neg (by decide +kernel)]; exact ⟨rfl, rfl⟩))
    (fun os started H enc _ F => retainKeeps_lifted os started H enc F)
theorem retainKeeps_proved : Rows.RetainKeepsUptoSaid := retainKeeps_over
end Law
end Go.Proofs.Ytodegnhallgnkaa
end
