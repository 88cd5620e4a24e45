/- Part of a proof of a law of this seat: the machine of plain values, its simulation, and the contracts of the functions that the law reaches. Conditions: none beyond the given row. -/
import Derived.Test.YtbkgokabcnogdaaM4
import Derived.Test.YtbkgokabcnogdaaRows
import Derived.WalkKit
import Derived.ProofKit
import Derived.OpenShut
import Derived.JoinedCond
import Derived.ChangeBears
set_option linter.unusedSimpArgs false
set_option linter.unusedVariables false
set_option linter.unnecessarySimpa false
set_option maxHeartbeats 4000000
/-! text StoreXg -/
section
namespace Go.Proofs.Ytbkgokabcnogdaa.St
open Go.Rmp Go.Proofs.Ytbkgokabcnogdaa.Ir
set_option maxRecDepth 10000
set_option maxHeartbeats 8000000
open Go.Sort in
theorem part_eq {a i j si sj : Nat} {d : Array Nm} (hi : si = scanUp (fun x => ltM x d[a]!) d j i) (hj : sj = scanDown (fun x => !ltM x d[a]!) d si j) : partLoop ltM a i j d = if si > sj then (sj, d) else if (sj - 1) + 1 - (si + 1) < j + 1 - i then partLoop ltM a (si + 1) (sj - 1) (swp d si sj) else (sj, d) := by
  subst hi; subst hj
  rw [partLoop]
  rfl
open Go.Sort in
theorem part82 (c n : Nat) (d : Array Nm) (a b pv : Nat) (H : Heap) (hn : d.size = n) (hc : H[c]? = some (.cells (msC eN d.toList))) (hb : b ≤ n) (hab : a < b) (hpv : pv < n) (hs : n < 2305843009213693951) :
    W env (.call 82 [.msl c 0 n 2, .int .i64 a, .int .i64 b, .int .i64 pv, .fn 36 []]) H (fun o H' => o = .val (.tup [.int .i64 (partition ltM d a b pv).1, .bool (partition ltM d a b pv).2.1]) ∧ SC c n H (fun x => x = (partition ltM d a b pv).2.2) H') := by
  refine W.fnI rfl rfl rfl ?_
  have hd := hc
  have lc := glt hd
  simp -implicitDefEqProofs (maxSteps := 1000000) (disch := omega) only [ir82, natOf_nat, iadm, ldm1, ldm2, stm0, stm1, stm2, wA, wA1, wS, wS1, wM, S2, op, ef, cl, sq, reduceIte, Int.reduceLT, Int.reduceLE, Int.reduceBEq, Int.reduceBNe, Int.reduceEq, Nat.reduceAdd, Nat.reduceLeDiff, Nat.reduceLT, Nat.reduceEqDiff, S1, hd, lc]
  obtain ⟨d1, hd1, hs1, e1, hf1⟩ := SC.swp (n := n) (P := fun x => x = swp d a pv) (x := .cells (msC eN (d.toList.set a d[pv]!))) hd (by rw [Go.Sort.swp_size]; exact hn) rfl (Frm.refl (fun x => x = c) H)
  subst e1
  generalize ((H.set c (.cells (msC eN (d.toList.set a d[pv]!)))).set c (.cells (msC eN (swp d a pv).toList))) = H1 at *
  have hd := hd1
  have hfr := hf1
  obtain ⟨si, hsi⟩ : ∃ si, si = scanUp (fun x => ltM x (swp d a pv)[a]!) (swp d a pv) (b - 1) (a + 1) := ⟨_, rfl⟩
  refine W.loopE 0 (fun (k : Nat) R H' => At H' (fun H' => H'[c]? = some (.cells (msC eN (swp d a pv).toList)) ∧ Frm (fun x => x = c) H H') ∧ R 0 = .msl c 0 n 2 ∧ R 1 = .int .i64 a ∧ R 4 = .fn 36 [] ∧ R 12 = .int .i64 k ∧ R 13 = .int .i64 ((b - 1) : Nat) ∧ (a + 1) ≤ k ∧ k ≤ n ∧ scanUp (fun x => ltM x (swp d a pv)[a]!) (swp d a pv) ((b - 1)) k = si) (fun k => (b - 1) + 1 - k) ((a + 1))
    (fun R H' => At H' (fun H' => H'[c]? = some (.cells (msC eN (swp d a pv).toList)) ∧ Frm (fun x => x = c) H H') ∧ R 0 = .msl c 0 n 2 ∧ R 1 = .int .i64 a ∧ R 4 = .fn 36 [] ∧ R 12 = .int .i64 si ∧ R 13 = .int .i64 ((b - 1) : Nat) ∧ (a + 1) ≤ si ∧ si ≤ n) ⟨.i ⟨hd, hfr⟩, rfl, rfl, rfl, rfl, rfl, Nat.le_refl _, by omega, hsi.symm⟩ ?_ ?_
  · rintro k R H2 ⟨⟨hd, hfr⟩, h0, h1, h4, h12, h13, hik, hkn, hk⟩
    have lc := glt hd
    by_cases hkj : k ≤ (b - 1)
    · simp -implicitDefEqProofs (maxSteps := 1000000) (disch := omega) only [natOf_nat, iadm, ldm1, ldm2, stm0, stm1, stm2, wA, wA1, wS, wS1, wM, S2, op, ef, cl, sq, reduceIte, Int.reduceLT, Int.reduceLE, Int.reduceBEq, Int.reduceBNe, Int.reduceEq, Nat.reduceAdd, Nat.reduceLeDiff, Nat.reduceLT, Nat.reduceEqDiff, S1, h0, h1, h4, h12, h13, hkj, hd, lc]
      refine b_vg _ _ _ _ _ _ _ (by simp -implicitDefEqProofs (maxSteps := 1000000) (disch := omega) only [natOf_nat, iadm, ldm1, ldm2, stm0, stm1, stm2, wA, wA1, wS, wS1, wM, S2, op, ef, cl, sq, reduceIte, Int.reduceLT, Int.reduceLE, Int.reduceBEq, Int.reduceBNe, Int.reduceEq, Nat.reduceAdd, Nat.reduceLeDiff, Nat.reduceLT, Nat.reduceEqDiff, S1, h0, h1, h4, h12, h13, hkj, hd, lc]) ?_
      simp -implicitDefEqProofs (maxSteps := 1000000) (disch := omega) only [natOf_nat, iadm, ldm1, ldm2, stm0, stm1, stm2, wA, wA1, wS, wS1, wM, S2, op, ef, cl, sq, reduceIte, Int.reduceLT, Int.reduceLE, Int.reduceBEq, Int.reduceBNe, Int.reduceEq, Nat.reduceAdd, Nat.reduceLeDiff, Nat.reduceLT, Nat.reduceEqDiff, S1, callvB, h0, h1, h4, h12, h13, hkj, hd, lc, List.append_nil]
      refine callB_of _ _ _ _ _ _ _ _ (byName36 (swp d a pv)[k]! (swp d a pv)[a]! _) ?_
      rintro u H3 ⟨hu, hx⟩
      cases hu
      have hx : Ext H2 H3 := hx
      have hd := hx.get hd
      have lc := glt hd
      have hfr := hfr.trans (ext_frm (F := fun _ => False) hx) (fun _ h => h.elim)
      have lt1 : ltM (swp d a pv)[k]! (swp d a pv)[a]! = decide (cmpM (swp d a pv)[k]! (swp d a pv)[a]! < 0) := rfl
      by_cases c1 : cmpM (swp d a pv)[k]! (swp d a pv)[a]! < 0
      · simp -implicitDefEqProofs (maxSteps := 1000000) (disch := omega) only [natOf_nat, iadm, ldm1, ldm2, stm0, stm1, stm2, wA, wA1, wS, wS1, wM, S2, op, ef, cl, sq, reduceIte, Int.reduceLT, Int.reduceLE, Int.reduceBEq, Int.reduceBNe, Int.reduceEq, Nat.reduceAdd, Nat.reduceLeDiff, Nat.reduceLT, Nat.reduceEqDiff, S1, h0, h1, h4, h12, h13, hkj, c1]
        rw [scanUp, if_pos (and_t (dect hkj) (lt1.trans (dect c1)))] at hk
        exact ⟨k + 1, by omega, .i ⟨hd, hfr⟩, rfl, by omega, by omega, hk⟩
      · simp -implicitDefEqProofs (maxSteps := 1000000) (disch := omega) only [natOf_nat, iadm, ldm1, ldm2, stm0, stm1, stm2, wA, wA1, wS, wS1, wM, S2, op, ef, cl, sq, reduceIte, Int.reduceLT, Int.reduceLE, Int.reduceBEq, Int.reduceBNe, Int.reduceEq, Nat.reduceAdd, Nat.reduceLeDiff, Nat.reduceLT, Nat.reduceEqDiff, S1, h0, h1, h4, h12, h13, hkj, c1]
        rw [scanUp, if_neg (and_f2 (lt1.trans (decf c1)))] at hk
        subst hk
        exact ⟨.i ⟨hd, hfr⟩, rfl, hik, hkn⟩
    · simp -implicitDefEqProofs only [op, ef, cl, sq, reduceIte, Int.reduceLT, Int.reduceLE, Int.reduceBEq, Int.reduceBNe, Int.reduceEq, Nat.reduceAdd, Nat.reduceLeDiff, Nat.reduceLT, Nat.reduceEqDiff, S1, h0, h1, h4, h12, h13, hkj]
      rw [scanUp, if_neg (and_f1 (decf hkj))] at hk
      subst hk
      exact ⟨.i ⟨hd, hfr⟩, rfl, hik, hkn⟩
  · rintro R H2 ⟨⟨hd, hfr⟩, h0, h1, h4, h12, h13, hisi, hsin⟩
    simp -implicitDefEqProofs only [op, ef, cl, sq, reduceIte, Int.reduceLT, Int.reduceLE, Int.reduceBEq, Int.reduceBNe, Int.reduceEq, Nat.reduceAdd, Nat.reduceLeDiff, Nat.reduceLT, Nat.reduceEqDiff, S1, h0, h1, h4, h12, h13]
    obtain ⟨sj, hsj⟩ : ∃ sj, sj = scanDown (fun x => !ltM x (swp d a pv)[a]!) (swp d a pv) si (b - 1) := ⟨_, rfl⟩
    refine W.loopE 2 (fun (k : Nat) R H' => At H' (fun H' => H'[c]? = some (.cells (msC eN (swp d a pv).toList)) ∧ Frm (fun x => x = c) H H') ∧ R 0 = .msl c 0 n 2 ∧ R 1 = .int .i64 a ∧ R 4 = .fn 36 [] ∧ R 12 = .int .i64 si ∧ R 13 = .int .i64 k ∧ k ≤ (b - 1) ∧ scanDown (fun x => !ltM x (swp d a pv)[a]!) (swp d a pv) si k = sj) (fun k => k) ((b - 1))
      (fun R H' => At H' (fun H' => H'[c]? = some (.cells (msC eN (swp d a pv).toList)) ∧ Frm (fun x => x = c) H H') ∧ R 0 = .msl c 0 n 2 ∧ R 1 = .int .i64 a ∧ R 4 = .fn 36 [] ∧ R 12 = .int .i64 si ∧ R 13 = .int .i64 sj ∧ sj ≤ (b - 1)) ⟨.i ⟨hd, hfr⟩, h0, h1, h4, h12, h13, Nat.le_refl _, hsj.symm⟩ ?_ ?_
    · rintro k R H3 ⟨⟨hd, hfr⟩, h0, h1, h4, h12, h13, hkj, hk⟩
      have lc := glt hd
      rw [scanDown_eq (by omega)] at hk
      by_cases hkk : si ≤ k
      · simp -implicitDefEqProofs (maxSteps := 1000000) (disch := omega) only [natOf_nat, iadm, ldm1, ldm2, stm0, stm1, stm2, wA, wA1, wS, wS1, wM, S2, op, ef, cl, sq, reduceIte, Int.reduceLT, Int.reduceLE, Int.reduceBEq, Int.reduceBNe, Int.reduceEq, Nat.reduceAdd, Nat.reduceLeDiff, Nat.reduceLT, Nat.reduceEqDiff, S1, h0, h1, h4, h12, h13, hkk, hd, lc]
        refine b_vg _ _ _ _ _ _ _ (by simp -implicitDefEqProofs (maxSteps := 1000000) (disch := omega) only [natOf_nat, iadm, ldm1, ldm2, stm0, stm1, stm2, wA, wA1, wS, wS1, wM, S2, op, ef, cl, sq, reduceIte, Int.reduceLT, Int.reduceLE, Int.reduceBEq, Int.reduceBNe, Int.reduceEq, Nat.reduceAdd, Nat.reduceLeDiff, Nat.reduceLT, Nat.reduceEqDiff, S1, h0, h1, h4, h12, h13, hkk, hd, lc]) ?_
        simp -implicitDefEqProofs (maxSteps := 1000000) (disch := omega) only [natOf_nat, iadm, ldm1, ldm2, stm0, stm1, stm2, wA, wA1, wS, wS1, wM, S2, op, ef, cl, sq, reduceIte, Int.reduceLT, Int.reduceLE, Int.reduceBEq, Int.reduceBNe, Int.reduceEq, Nat.reduceAdd, Nat.reduceLeDiff, Nat.reduceLT, Nat.reduceEqDiff, S1, callvB, h0, h1, h4, h12, h13, hkk, hd, lc, List.append_nil]
        refine callB_of _ _ _ _ _ _ _ _ (byName36 (swp d a pv)[k]! (swp d a pv)[a]! _) ?_
        rintro u H4 ⟨hu, hx⟩
        cases hu
        have hx : Ext H3 H4 := hx
        have hd := hx.get hd
        have lc := glt hd
        have hfr := hfr.trans (ext_frm (F := fun _ => False) hx) (fun _ h => h.elim)
        have lt1 : ltM (swp d a pv)[k]! (swp d a pv)[a]! = decide (cmpM (swp d a pv)[k]! (swp d a pv)[a]! < 0) := rfl
        by_cases c1 : cmpM (swp d a pv)[k]! (swp d a pv)[a]! < 0
        · simp -implicitDefEqProofs (maxSteps := 1000000) (disch := omega) only [natOf_nat, iadm, ldm1, ldm2, stm0, stm1, stm2, wA, wA1, wS, wS1, wM, S2, op, ef, cl, sq, reduceIte, Int.reduceLT, Int.reduceLE, Int.reduceBEq, Int.reduceBNe, Int.reduceEq, Nat.reduceAdd, Nat.reduceLeDiff, Nat.reduceLT, Nat.reduceEqDiff, S1, h0, h1, h4, h12, h13, hkk, c1]
          rw [if_neg (and_f2 (by rw [lt1, dect c1]; rfl))] at hk
          subst hk
          exact ⟨.i ⟨hd, hfr⟩, rfl, hkj⟩
        · simp -implicitDefEqProofs (maxSteps := 1000000) (disch := omega) only [natOf_nat, iadm, ldm1, ldm2, stm0, stm1, stm2, wA, wA1, wS, wS1, wM, S2, op, ef, cl, sq, reduceIte, Int.reduceLT, Int.reduceLE, Int.reduceBEq, Int.reduceBNe, Int.reduceEq, Nat.reduceAdd, Nat.reduceLeDiff, Nat.reduceLT, Nat.reduceEqDiff, S1, h0, h1, h4, h12, h13, hkk, c1]
          rw [if_pos (and_t (dect hkk) (not_f (lt1.trans (decf c1))))] at hk
          exact ⟨k - 1, by omega, .i ⟨hd, hfr⟩, rfl, by omega, hk⟩
      · simp -implicitDefEqProofs only [op, ef, cl, sq, reduceIte, Int.reduceLT, Int.reduceLE, Int.reduceBEq, Int.reduceBNe, Int.reduceEq, Nat.reduceAdd, Nat.reduceLeDiff, Nat.reduceLT, Nat.reduceEqDiff, S1, h0, h1, h4, h12, h13, hkk]
        rw [if_neg (and_f1 (decf hkk))] at hk
        subst hk
        exact ⟨.i ⟨hd, hfr⟩, rfl, hkj⟩
    · rintro R H3 ⟨⟨hd, hfr⟩, h0, h1, h4, h12, h13, hsjj⟩
      have lc := glt hd
      by_cases hgt : sj < si
      · have e : partition ltM d a b pv = (sj, true, swp (swp d a pv) sj a) := by
          simp -implicitDefEqProofs only [partition, ← hsi, ← hsj, gt_iff_lt, if_pos hgt]
        rw [e]
        simp -implicitDefEqProofs (maxSteps := 1000000) (disch := omega) only [natOf_nat, iadm, ldm1, ldm2, stm0, stm1, stm2, wA, wA1, wS, wS1, wM, S2, op, ef, cl, sq, reduceIte, Int.reduceLT, Int.reduceLE, Int.reduceBEq, Int.reduceBNe, Int.reduceEq, Nat.reduceAdd, Nat.reduceLeDiff, Nat.reduceLT, Nat.reduceEqDiff, S1, h0, h1, h4, h12, h13, hgt, hd, lc]
        exact .swp hd (by rw [swp_size]; exact hs1) rfl hfr
      · obtain ⟨r, hr⟩ : ∃ r, r = partLoop ltM a (si + 1) (sj - 1) (swp (swp d a pv) si sj) := ⟨_, rfl⟩
        have e : partition ltM d a b pv = (r.1, false, swp r.2 r.1 a) := by
          simp -implicitDefEqProofs only [partition, ← hsi, ← hsj, gt_iff_lt, if_neg hgt, ← hr]
        rw [e]
        simp -implicitDefEqProofs (maxSteps := 1000000) (disch := omega) only [natOf_nat, iadm, ldm1, ldm2, stm0, stm1, stm2, wA, wA1, wS, wS1, wM, S2, op, ef, cl, sq, reduceIte, Int.reduceLT, Int.reduceLE, Int.reduceBEq, Int.reduceBNe, Int.reduceEq, Nat.reduceAdd, Nat.reduceLeDiff, Nat.reduceLT, Nat.reduceEqDiff, S1, h0, h1, h4, h12, h13, hgt, hd, lc]
        obtain ⟨d2, hd2, hs2, e2, hf2⟩ := SC.swp (n := n) (P := fun x => x = swp (swp d a pv) si sj) (x := .cells (msC eN ((swp d a pv).toList.set si (swp d a pv)[sj]!))) hd (by rw [swp_size]; exact hs1) rfl hfr
        subst e2
        generalize ((H3.set c (.cells (msC eN ((swp d a pv).toList.set si (swp d a pv)[sj]!)))).set c (.cells (msC eN (swp (swp d a pv) si sj).toList))) = H5 at *
        refine W.loopE 4 (fun (q : Nat × Nat) R H' => At H' (fun H' => SC c n H (fun di => partLoop ltM a q.1 q.2 di = r) H') ∧ R 0 = .msl c 0 n 2 ∧ R 1 = .int .i64 a ∧ R 4 = .fn 36 [] ∧ R 12 = .int .i64 q.1 ∧ R 13 = .int .i64 q.2 ∧ a < q.1 ∧ q.2 < n ∧ q.1 ≤ n) (fun q => q.2 + 1 - q.1) (si + 1, sj - 1)
          (fun R H' => At H' (fun H' => SC c n H (fun di => di = r.2) H') ∧ R 0 = .msl c 0 n 2 ∧ R 1 = .int .i64 a ∧ R 4 = .fn 36 [] ∧ R 13 = .int .i64 r.1 ∧ r.1 < n) ⟨.i ⟨_, hd2, hs2, hr.symm, hf2⟩, ?_, ?_, ?_, ?_, ?_, by simp only; omega, by simp only; omega, by simp only; omega⟩ ?_ ?_
        · simp -implicitDefEqProofs only [op, ef, cl, sq, reduceIte, Int.reduceLT, Int.reduceLE, Int.reduceBEq, Int.reduceBNe, Int.reduceEq, Nat.reduceAdd, Nat.reduceLeDiff, Nat.reduceLT, Nat.reduceEqDiff, S1, h0]
        · simp -implicitDefEqProofs only [op, ef, cl, sq, reduceIte, Int.reduceLT, Int.reduceLE, Int.reduceBEq, Int.reduceBNe, Int.reduceEq, Nat.reduceAdd, Nat.reduceLeDiff, Nat.reduceLT, Nat.reduceEqDiff, S1, h1]
        · simp -implicitDefEqProofs only [op, ef, cl, sq, reduceIte, Int.reduceLT, Int.reduceLE, Int.reduceBEq, Int.reduceBNe, Int.reduceEq, Nat.reduceAdd, Nat.reduceLeDiff, Nat.reduceLT, Nat.reduceEqDiff, S1, h4]
        · simp -implicitDefEqProofs only [op, ef, cl, sq, reduceIte, Int.reduceLT, Int.reduceLE, Int.reduceBEq, Int.reduceBNe, Int.reduceEq, Nat.reduceAdd, Nat.reduceLeDiff, Nat.reduceLT, Nat.reduceEqDiff, S1, h12]
        · simp -implicitDefEqProofs only [op, ef, cl, sq, reduceIte, Int.reduceLT, Int.reduceLE, Int.reduceBEq, Int.reduceBNe, Int.reduceEq, Nat.reduceAdd, Nat.reduceLeDiff, Nat.reduceLT, Nat.reduceEqDiff, S1, h13]
        · rintro ⟨i, j⟩ R H1 ⟨⟨di, hd, hsz, hP, hfr⟩, h0, h1, h4, h12, h13, hai, hjn, hin⟩
          simp only at hP h12 h13 hai hjn hin ⊢
          simp -implicitDefEqProofs only [op, ef, cl, sq, reduceIte, Int.reduceLT, Int.reduceLE, Int.reduceBEq, Int.reduceBNe, Int.reduceEq, Nat.reduceAdd, Nat.reduceLeDiff, Nat.reduceLT, Nat.reduceEqDiff, S1, h0, h1, h4, h12, h13]
          clear hsi hsj
          obtain ⟨si, hsi⟩ : ∃ si, si = scanUp (fun x => ltM x di[a]!) di j i := ⟨_, rfl⟩
          refine W.loopE 6 (fun (k : Nat) R H' => At H' (fun H' => H'[c]? = some (.cells (msC eN di.toList)) ∧ Frm (fun x => x = c) H H') ∧ R 0 = .msl c 0 n 2 ∧ R 1 = .int .i64 a ∧ R 4 = .fn 36 [] ∧ R 12 = .int .i64 k ∧ R 13 = .int .i64 (j : Nat) ∧ i ≤ k ∧ k ≤ n ∧ scanUp (fun x => ltM x di[a]!) di (j) k = si) (fun k => j + 1 - k) (i)
            (fun R H' => At H' (fun H' => H'[c]? = some (.cells (msC eN di.toList)) ∧ Frm (fun x => x = c) H H') ∧ R 0 = .msl c 0 n 2 ∧ R 1 = .int .i64 a ∧ R 4 = .fn 36 [] ∧ R 12 = .int .i64 si ∧ R 13 = .int .i64 (j : Nat) ∧ i ≤ si ∧ si ≤ n) ⟨.i ⟨hd, hfr⟩, h0, h1, h4, h12, h13, Nat.le_refl _, by omega, hsi.symm⟩ ?_ ?_
          · rintro k R H2 ⟨⟨hd, hfr⟩, h0, h1, h4, h12, h13, hik, hkn, hk⟩
            have lc := glt hd
            by_cases hkj : k ≤ j
            · simp -implicitDefEqProofs (maxSteps := 1000000) (disch := omega) only [natOf_nat, iadm, ldm1, ldm2, stm0, stm1, stm2, wA, wA1, wS, wS1, wM, S2, op, ef, cl, sq, reduceIte, Int.reduceLT, Int.reduceLE, Int.reduceBEq, Int.reduceBNe, Int.reduceEq, Nat.reduceAdd, Nat.reduceLeDiff, Nat.reduceLT, Nat.reduceEqDiff, S1, h0, h1, h4, h12, h13, hkj, hd, lc]
              refine b_vg _ _ _ _ _ _ _ (by simp -implicitDefEqProofs (maxSteps := 1000000) (disch := omega) only [natOf_nat, iadm, ldm1, ldm2, stm0, stm1, stm2, wA, wA1, wS, wS1, wM, S2, op, ef, cl, sq, reduceIte, Int.reduceLT, Int.reduceLE, Int.reduceBEq, Int.reduceBNe, Int.reduceEq, Nat.reduceAdd, Nat.reduceLeDiff, Nat.reduceLT, Nat.reduceEqDiff, S1, h0, h1, h4, h12, h13, hkj, hd, lc]) ?_
              simp -implicitDefEqProofs (maxSteps := 1000000) (disch := omega) only [natOf_nat, iadm, ldm1, ldm2, stm0, stm1, stm2, wA, wA1, wS, wS1, wM, S2, op, ef, cl, sq, reduceIte, Int.reduceLT, Int.reduceLE, Int.reduceBEq, Int.reduceBNe, Int.reduceEq, Nat.reduceAdd, Nat.reduceLeDiff, Nat.reduceLT, Nat.reduceEqDiff, S1, callvB, h0, h1, h4, h12, h13, hkj, hd, lc, List.append_nil]
              refine callB_of _ _ _ _ _ _ _ _ (byName36 di[k]! di[a]! _) ?_
              rintro u H3 ⟨hu, hx⟩
              cases hu
              have hx : Ext H2 H3 := hx
              have hd := hx.get hd
              have lc := glt hd
              have hfr := hfr.trans (ext_frm (F := fun _ => False) hx) (fun _ h => h.elim)
              have lt1 : ltM di[k]! di[a]! = decide (cmpM di[k]! di[a]! < 0) := rfl
              by_cases c1 : cmpM di[k]! di[a]! < 0
              · simp -implicitDefEqProofs (maxSteps := 1000000) (disch := omega) only [natOf_nat, iadm, ldm1, ldm2, stm0, stm1, stm2, wA, wA1, wS, wS1, wM, S2, op, ef, cl, sq, reduceIte, Int.reduceLT, Int.reduceLE, Int.reduceBEq, Int.reduceBNe, Int.reduceEq, Nat.reduceAdd, Nat.reduceLeDiff, Nat.reduceLT, Nat.reduceEqDiff, S1, h0, h1, h4, h12, h13, hkj, c1]
                rw [scanUp, if_pos (and_t (dect hkj) (lt1.trans (dect c1)))] at hk
                exact ⟨k + 1, by omega, .i ⟨hd, hfr⟩, rfl, by omega, by omega, hk⟩
              · simp -implicitDefEqProofs (maxSteps := 1000000) (disch := omega) only [natOf_nat, iadm, ldm1, ldm2, stm0, stm1, stm2, wA, wA1, wS, wS1, wM, S2, op, ef, cl, sq, reduceIte, Int.reduceLT, Int.reduceLE, Int.reduceBEq, Int.reduceBNe, Int.reduceEq, Nat.reduceAdd, Nat.reduceLeDiff, Nat.reduceLT, Nat.reduceEqDiff, S1, h0, h1, h4, h12, h13, hkj, c1]
                rw [scanUp, if_neg (and_f2 (lt1.trans (decf c1)))] at hk
                subst hk
                exact ⟨.i ⟨hd, hfr⟩, rfl, hik, hkn⟩
            · simp -implicitDefEqProofs only [op, ef, cl, sq, reduceIte, Int.reduceLT, Int.reduceLE, Int.reduceBEq, Int.reduceBNe, Int.reduceEq, Nat.reduceAdd, Nat.reduceLeDiff, Nat.reduceLT, Nat.reduceEqDiff, S1, h0, h1, h4, h12, h13, hkj]
              rw [scanUp, if_neg (and_f1 (decf hkj))] at hk
              subst hk
              exact ⟨.i ⟨hd, hfr⟩, rfl, hik, hkn⟩
          · rintro R H2 ⟨⟨hd, hfr⟩, h0, h1, h4, h12, h13, hisi, hsin⟩
            simp -implicitDefEqProofs only [op, ef, cl, sq, reduceIte, Int.reduceLT, Int.reduceLE, Int.reduceBEq, Int.reduceBNe, Int.reduceEq, Nat.reduceAdd, Nat.reduceLeDiff, Nat.reduceLT, Nat.reduceEqDiff, S1, h0, h1, h4, h12, h13]
            obtain ⟨sj, hsj⟩ : ∃ sj, sj = scanDown (fun x => !ltM x di[a]!) di si j := ⟨_, rfl⟩
            refine W.loopE 8 (fun (k : Nat) R H' => At H' (fun H' => H'[c]? = some (.cells (msC eN di.toList)) ∧ Frm (fun x => x = c) H H') ∧ R 0 = .msl c 0 n 2 ∧ R 1 = .int .i64 a ∧ R 4 = .fn 36 [] ∧ R 12 = .int .i64 si ∧ R 13 = .int .i64 k ∧ k ≤ j ∧ scanDown (fun x => !ltM x di[a]!) di si k = sj) (fun k => k) (j)
              (fun R H' => At H' (fun H' => H'[c]? = some (.cells (msC eN di.toList)) ∧ Frm (fun x => x = c) H H') ∧ R 0 = .msl c 0 n 2 ∧ R 1 = .int .i64 a ∧ R 4 = .fn 36 [] ∧ R 12 = .int .i64 si ∧ R 13 = .int .i64 sj ∧ sj ≤ j) ⟨.i ⟨hd, hfr⟩, h0, h1, h4, h12, h13, Nat.le_refl _, hsj.symm⟩ ?_ ?_
            · rintro k R H3 ⟨⟨hd, hfr⟩, h0, h1, h4, h12, h13, hkj, hk⟩
              have lc := glt hd
              rw [scanDown_eq (by omega)] at hk
              by_cases hkk : si ≤ k
              · simp -implicitDefEqProofs (maxSteps := 1000000) (disch := omega) only [natOf_nat, iadm, ldm1, ldm2, stm0, stm1, stm2, wA, wA1, wS, wS1, wM, S2, op, ef, cl, sq, reduceIte, Int.reduceLT, Int.reduceLE, Int.reduceBEq, Int.reduceBNe, Int.reduceEq, Nat.reduceAdd, Nat.reduceLeDiff, Nat.reduceLT, Nat.reduceEqDiff, S1, h0, h1, h4, h12, h13, hkk, hd, lc]
                refine b_vg _ _ _ _ _ _ _ (by simp -implicitDefEqProofs (maxSteps := 1000000) (disch := omega) only [natOf_nat, iadm, ldm1, ldm2, stm0, stm1, stm2, wA, wA1, wS, wS1, wM, S2, op, ef, cl, sq, reduceIte, Int.reduceLT, Int.reduceLE, Int.reduceBEq, Int.reduceBNe, Int.reduceEq, Nat.reduceAdd, Nat.reduceLeDiff, Nat.reduceLT, Nat.reduceEqDiff, S1, h0, h1, h4, h12, h13, hkk, hd, lc]) ?_
                simp -implicitDefEqProofs (maxSteps := 1000000) (disch := omega) only [natOf_nat, iadm, ldm1, ldm2, stm0, stm1, stm2, wA, wA1, wS, wS1, wM, S2, op, ef, cl, sq, reduceIte, Int.reduceLT, Int.reduceLE, Int.reduceBEq, Int.reduceBNe, Int.reduceEq, Nat.reduceAdd, Nat.reduceLeDiff, Nat.reduceLT, Nat.reduceEqDiff, S1, callvB, h0, h1, h4, h12, h13, hkk, hd, lc, List.append_nil]
                refine callB_of _ _ _ _ _ _ _ _ (byName36 di[k]! di[a]! _) ?_
                rintro u H4 ⟨hu, hx⟩
                cases hu
                have hx : Ext H3 H4 := hx
                have hd := hx.get hd
                have lc := glt hd
                have hfr := hfr.trans (ext_frm (F := fun _ => False) hx) (fun _ h => h.elim)
                have lt1 : ltM di[k]! di[a]! = decide (cmpM di[k]! di[a]! < 0) := rfl
                by_cases c1 : cmpM di[k]! di[a]! < 0
                · simp -implicitDefEqProofs (maxSteps := 1000000) (disch := omega) only [natOf_nat, iadm, ldm1, ldm2, stm0, stm1, stm2, wA, wA1, wS, wS1, wM, S2, op, ef, cl, sq, reduceIte, Int.reduceLT, Int.reduceLE, Int.reduceBEq, Int.reduceBNe, Int.reduceEq, Nat.reduceAdd, Nat.reduceLeDiff, Nat.reduceLT, Nat.reduceEqDiff, S1, h0, h1, h4, h12, h13, hkk, c1]
                  rw [if_neg (and_f2 (by rw [lt1, dect c1]; rfl))] at hk
                  subst hk
                  exact ⟨.i ⟨hd, hfr⟩, rfl, hkj⟩
                · simp -implicitDefEqProofs (maxSteps := 1000000) (disch := omega) only [natOf_nat, iadm, ldm1, ldm2, stm0, stm1, stm2, wA, wA1, wS, wS1, wM, S2, op, ef, cl, sq, reduceIte, Int.reduceLT, Int.reduceLE, Int.reduceBEq, Int.reduceBNe, Int.reduceEq, Nat.reduceAdd, Nat.reduceLeDiff, Nat.reduceLT, Nat.reduceEqDiff, S1, h0, h1, h4, h12, h13, hkk, c1]
                  rw [if_pos (and_t (dect hkk) (not_f (lt1.trans (decf c1))))] at hk
                  exact ⟨k - 1, by omega, .i ⟨hd, hfr⟩, rfl, by omega, hk⟩
              · simp -implicitDefEqProofs only [op, ef, cl, sq, reduceIte, Int.reduceLT, Int.reduceLE, Int.reduceBEq, Int.reduceBNe, Int.reduceEq, Nat.reduceAdd, Nat.reduceLeDiff, Nat.reduceLT, Nat.reduceEqDiff, S1, h0, h1, h4, h12, h13, hkk]
                rw [if_neg (and_f1 (decf hkk))] at hk
                subst hk
                exact ⟨.i ⟨hd, hfr⟩, rfl, hkj⟩
            · rintro R H3 ⟨⟨hd, hfr⟩, h0, h1, h4, h12, h13, hsjj⟩
              have lc := glt hd
              rw [part_eq hsi hsj] at hP
              by_cases hgt : sj < si
              · rw [if_pos hgt] at hP
                simp -implicitDefEqProofs only [op, ef, cl, sq, reduceIte, Int.reduceLT, Int.reduceLE, Int.reduceBEq, Int.reduceBNe, Int.reduceEq, Nat.reduceAdd, Nat.reduceLeDiff, Nat.reduceLT, Nat.reduceEqDiff, S1, h0, h1, h4, h12, h13, hgt]
                exact ⟨.i ⟨di, hd, hsz, by rw [← hP], hfr⟩, by rw [← hP], by rw [← hP]; simp only; omega⟩
              · rw [if_neg hgt, if_pos (by omega)] at hP
                simp -implicitDefEqProofs (maxSteps := 1000000) (disch := omega) only [natOf_nat, iadm, ldm1, ldm2, stm0, stm1, stm2, wA, wA1, wS, wS1, wM, S2, op, ef, cl, sq, reduceIte, Int.reduceLT, Int.reduceLE, Int.reduceBEq, Int.reduceBNe, Int.reduceEq, Nat.reduceAdd, Nat.reduceLeDiff, Nat.reduceLT, Nat.reduceEqDiff, S1, h0, h1, h4, h12, h13, hgt, hd, lc]
                exact ⟨(si + 1, sj - 1), by simp only; omega, .i (.swp hd (by rw [swp_size]; exact hsz) hP hfr), rfl, rfl, by simp only; omega, by simp only; omega, by simp only; omega⟩
        · rintro R H1 ⟨⟨di, hd, hsz, rfl, hfr⟩, h0, h1, h4, h13, hr1⟩
          have lc := glt hd
          simp -implicitDefEqProofs (maxSteps := 1000000) (disch := omega) only [natOf_nat, iadm, ldm1, ldm2, stm0, stm1, stm2, wA, wA1, wS, wS1, wM, S2, op, ef, cl, sq, reduceIte, Int.reduceLT, Int.reduceLE, Int.reduceBEq, Int.reduceBNe, Int.reduceEq, Nat.reduceAdd, Nat.reduceLeDiff, Nat.reduceLT, Nat.reduceEqDiff, S1, h0, h1, h4, h13, hd, lc]
          exact .swp hd (by rw [swp_size]; exact hsz) rfl hfr
end Go.Proofs.Ytbkgokabcnogdaa.St
end

/-! text StoreXh -/
section
namespace Go.Proofs.Ytbkgokabcnogdaa.St
open Go.Rmp Go.Proofs.Ytbkgokabcnogdaa.Ir
set_option maxRecDepth 10000
set_option maxHeartbeats 8000000
open Go.Sort in
theorem shiftDown_eq {d : Array Nm} {k : Nat} (h : 1 ≤ k) : shiftDown ltM k d = if (!ltM d[k]! d[k - 1]!) = true then d else shiftDown ltM (k - 1) (swp d k (k - 1)) := by
  cases k with
  | zero => omega
  | succ k => rw [shiftDown]; rfl
open Go.Sort in
theorem pins80 (c n : Nat) (d : Array Nm) (a b : Nat) (H : Heap) (hn : d.size = n) (hc : H[c]? = some (.cells (msC eN d.toList))) (hb : b ≤ n) (hab : a < b) (hs : n < 2305843009213693951) :
    W env (.call 80 [.msl c 0 n 2, .int .i64 a, .int .i64 b, .fn 36 []]) H (fun o H' => o = .val (.bool (partialInsertionSort ltM d a b).2) ∧ SC c n H (fun x => x = (partialInsertionSort ltM d a b).1) H') := by
  refine W.fnI rfl rfl rfl ?_
  obtain ⟨r, hr⟩ : ∃ r, r = partialInsertionSort ltM d a b := ⟨_, rfl⟩
  rw [← hr]
  simp -implicitDefEqProofs (maxSteps := 1000000) (disch := omega) only [ir80, natOf_nat, iadm, ldm1, ldm2, stm0, stm1, stm2, wA, wA1, wS, wS1, wM, S2, op, ef, cl, sq, reduceIte, Int.reduceLT, Int.reduceLE, Int.reduceBEq, Int.reduceBNe, Int.reduceEq, Nat.reduceAdd, Nat.reduceLeDiff, Nat.reduceLT, Nat.reduceEqDiff, S1]
  refine W.loopE 0 (fun (j : Nat) R H' => At H' (fun H' => ∃ i, R 9 = .int .i64 (i : Nat) ∧ a < i ∧ i ≤ b ∧ SC c n H (fun di => partialIns ltM a b (5 - j) i di = r) H') ∧ R 0 = .msl c 0 n 2 ∧ R 1 = .int .i64 a ∧ R 2 = .int .i64 b ∧ R 3 = .fn 36 [] ∧ R 10 = .int .i64 j ∧ j ≤ 5) (fun j => 5 - j) 0
    (fun R H' => At H' (fun H' => SC c n H (fun di => (di, false) = r) H')) ⟨.i ⟨a + 1, rfl, by omega, by omega, d, hc, hn, hr.symm, Frm.refl _ _⟩, rfl, rfl, rfl, rfl, rfl, by omega⟩ ?_ ?_
  · rintro j R H1 ⟨⟨i, h9, hai, hib, di, hd, hsz, hP, hfr⟩, h0, h1, h2, h3, h10, hj⟩
    by_cases hj5 : j < 5
    rotate_left
    · have : j = 5 := by omega
      subst this
      simp -implicitDefEqProofs only [op, ef, cl, sq, reduceIte, Int.reduceLT, Int.reduceLE, Int.reduceBEq, Int.reduceBNe, Int.reduceEq, Nat.reduceAdd, Nat.reduceLeDiff, Nat.reduceLT, Nat.reduceEqDiff, S1, h0, h1, h2, h3, h10]
      exact .i ⟨di, hd, hsz, hP, hfr⟩
    obtain ⟨s, hs5⟩ : ∃ s, 5 - j = s + 1 := ⟨4 - j, by omega⟩
    have hs5' : 5 - (j + 1) = s := by omega
    rw [hs5, partialIns] at hP
    simp -implicitDefEqProofs only [op, ef, cl, sq, reduceIte, Int.reduceLT, Int.reduceLE, Int.reduceBEq, Int.reduceBNe, Int.reduceEq, Nat.reduceAdd, Nat.reduceLeDiff, Nat.reduceLT, Nat.reduceEqDiff, S1, h0, h1, h2, h3, h10, hj5]
    obtain ⟨si, hsi⟩ : ∃ si, si = scanSorted ltM di b i := ⟨_, rfl⟩
    rw [← hsi] at hP
    refine W.loopE 2 (fun (k : Nat) R H' => At H' (fun H' => H'[c]? = some (.cells (msC eN di.toList)) ∧ Frm (fun x => x = c) H H') ∧ R 0 = .msl c 0 n 2 ∧ R 1 = .int .i64 a ∧ R 2 = .int .i64 b ∧ R 3 = .fn 36 [] ∧ R 9 = .int .i64 k ∧ R 10 = .int .i64 j ∧ i ≤ k ∧ k ≤ b ∧ scanSorted ltM di b k = si) (fun k => b - k) i
      (fun R H' => At H' (fun H' => H'[c]? = some (.cells (msC eN di.toList)) ∧ Frm (fun x => x = c) H H') ∧ R 0 = .msl c 0 n 2 ∧ R 1 = .int .i64 a ∧ R 2 = .int .i64 b ∧ R 3 = .fn 36 [] ∧ R 9 = .int .i64 si ∧ R 10 = .int .i64 j ∧ i ≤ si ∧ si ≤ b) ⟨.i ⟨hd, hfr⟩, ?_, ?_, ?_, ?_, ?_, ?_, Nat.le_refl _, hib, hsi.symm⟩ ?_ ?_
    · simp -implicitDefEqProofs only [op, ef, cl, sq, reduceIte, Int.reduceLT, Int.reduceLE, Int.reduceBEq, Int.reduceBNe, Int.reduceEq, Nat.reduceAdd, Nat.reduceLeDiff, Nat.reduceLT, Nat.reduceEqDiff, S1, h0]
    · simp -implicitDefEqProofs only [op, ef, cl, sq, reduceIte, Int.reduceLT, Int.reduceLE, Int.reduceBEq, Int.reduceBNe, Int.reduceEq, Nat.reduceAdd, Nat.reduceLeDiff, Nat.reduceLT, Nat.reduceEqDiff, S1, h1]
    · simp -implicitDefEqProofs only [op, ef, cl, sq, reduceIte, Int.reduceLT, Int.reduceLE, Int.reduceBEq, Int.reduceBNe, Int.reduceEq, Nat.reduceAdd, Nat.reduceLeDiff, Nat.reduceLT, Nat.reduceEqDiff, S1, h2]
    · simp -implicitDefEqProofs only [op, ef, cl, sq, reduceIte, Int.reduceLT, Int.reduceLE, Int.reduceBEq, Int.reduceBNe, Int.reduceEq, Nat.reduceAdd, Nat.reduceLeDiff, Nat.reduceLT, Nat.reduceEqDiff, S1, h3]
    · simp -implicitDefEqProofs only [op, ef, cl, sq, reduceIte, Int.reduceLT, Int.reduceLE, Int.reduceBEq, Int.reduceBNe, Int.reduceEq, Nat.reduceAdd, Nat.reduceLeDiff, Nat.reduceLT, Nat.reduceEqDiff, S1, h9]
    · simp -implicitDefEqProofs only [op, ef, cl, sq, reduceIte, Int.reduceLT, Int.reduceLE, Int.reduceBEq, Int.reduceBNe, Int.reduceEq, Nat.reduceAdd, Nat.reduceLeDiff, Nat.reduceLT, Nat.reduceEqDiff, S1, h10]
    · rintro k R H2 ⟨⟨hd, hfr⟩, h0, h1, h2, h3, h9, h10, hik, hkb, hk⟩
      have lc := glt hd
      by_cases hkk : k < b
      · simp -implicitDefEqProofs (maxSteps := 1000000) (disch := omega) only [natOf_nat, iadm, ldm1, ldm2, stm0, stm1, stm2, wA, wA1, wS, wS1, wM, S2, op, ef, cl, sq, reduceIte, Int.reduceLT, Int.reduceLE, Int.reduceBEq, Int.reduceBNe, Int.reduceEq, Nat.reduceAdd, Nat.reduceLeDiff, Nat.reduceLT, Nat.reduceEqDiff, S1, h0, h1, h2, h3, h9, h10, hkk, hd, lc]
        refine b_vg _ _ _ _ _ _ _ (by simp -implicitDefEqProofs (maxSteps := 1000000) (disch := omega) only [natOf_nat, iadm, ldm1, ldm2, stm0, stm1, stm2, wA, wA1, wS, wS1, wM, S2, op, ef, cl, sq, reduceIte, Int.reduceLT, Int.reduceLE, Int.reduceBEq, Int.reduceBNe, Int.reduceEq, Nat.reduceAdd, Nat.reduceLeDiff, Nat.reduceLT, Nat.reduceEqDiff, S1, h0, h1, h2, h3, h9, h10, hkk, hd, lc]) ?_
        simp -implicitDefEqProofs (maxSteps := 1000000) (disch := omega) only [natOf_nat, iadm, ldm1, ldm2, stm0, stm1, stm2, wA, wA1, wS, wS1, wM, S2, op, ef, cl, sq, reduceIte, Int.reduceLT, Int.reduceLE, Int.reduceBEq, Int.reduceBNe, Int.reduceEq, Nat.reduceAdd, Nat.reduceLeDiff, Nat.reduceLT, Nat.reduceEqDiff, S1, callvB, h0, h1, h2, h3, h9, h10, hkk, hd, lc, List.append_nil]
        refine callB_of _ _ _ _ _ _ _ _ (byName36 di[k]! di[k - 1]! _) ?_
        rintro u H3 ⟨hu, hx⟩
        cases hu
        have hx : Ext H2 H3 := hx
        have hd := hx.get hd
        have lc := glt hd
        have hfr := hfr.trans (ext_frm (F := fun _ => False) hx) (fun _ h => h.elim)
        have lt1 : ltM di[k]! di[k - 1]! = decide (cmpM di[k]! di[k - 1]! < 0) := rfl
        by_cases c1 : cmpM di[k]! di[k - 1]! < 0
        · simp -implicitDefEqProofs (maxSteps := 1000000) (disch := omega) only [natOf_nat, iadm, ldm1, ldm2, stm0, stm1, stm2, wA, wA1, wS, wS1, wM, S2, op, ef, cl, sq, reduceIte, Int.reduceLT, Int.reduceLE, Int.reduceBEq, Int.reduceBNe, Int.reduceEq, Nat.reduceAdd, Nat.reduceLeDiff, Nat.reduceLT, Nat.reduceEqDiff, S1, h0, h1, h2, h3, h9, h10, hkk, c1]
          rw [scanSorted, if_neg (and_f2 (by rw [lt1, dect c1]; rfl))] at hk
          subst hk
          exact ⟨.i ⟨hd, hfr⟩, rfl, hik, hkb⟩
        · simp -implicitDefEqProofs (maxSteps := 1000000) (disch := omega) only [natOf_nat, iadm, ldm1, ldm2, stm0, stm1, stm2, wA, wA1, wS, wS1, wM, S2, op, ef, cl, sq, reduceIte, Int.reduceLT, Int.reduceLE, Int.reduceBEq, Int.reduceBNe, Int.reduceEq, Nat.reduceAdd, Nat.reduceLeDiff, Nat.reduceLT, Nat.reduceEqDiff, S1, h0, h1, h2, h3, h9, h10, hkk, c1]
          rw [scanSorted, if_pos (and_t (dect hkk) (not_f (lt1.trans (decf c1))))] at hk
          exact ⟨k + 1, by omega, .i ⟨hd, hfr⟩, rfl, by omega, by omega, hk⟩
      · simp -implicitDefEqProofs only [op, ef, cl, sq, reduceIte, Int.reduceLT, Int.reduceLE, Int.reduceBEq, Int.reduceBNe, Int.reduceEq, Nat.reduceAdd, Nat.reduceLeDiff, Nat.reduceLT, Nat.reduceEqDiff, S1, h0, h1, h2, h3, h9, h10, hkk]
        rw [scanSorted, if_neg (and_f1 (decf hkk))] at hk
        subst hk
        exact ⟨.i ⟨hd, hfr⟩, rfl, hik, hkb⟩
    · rintro R H2 ⟨⟨hd, hfr⟩, h0, h1, h2, h3, h9, h10, hisi, hsib⟩
      have lc := glt hd
      by_cases hb1 : si = b
      · rw [if_pos hb1] at hP
        have e1 : ((si : Int) == (b : Int)) = true := by rw [hb1]; simp
        simp -implicitDefEqProofs (maxSteps := 1000000) (disch := omega) only [natOf_nat, iadm, ldm1, ldm2, stm0, stm1, stm2, wA, wA1, wS, wS1, wM, S2, op, ef, cl, sq, reduceIte, Int.reduceLT, Int.reduceLE, Int.reduceBEq, Int.reduceBNe, Int.reduceEq, Nat.reduceAdd, Nat.reduceLeDiff, Nat.reduceLT, Nat.reduceEqDiff, S1, h0, h1, h2, h3, h9, h10, e1]
        rw [← hP]
        exact ⟨rfl, di, hd, hsz, rfl, hfr⟩
      rw [if_neg hb1] at hP
      have e1 : ((si : Int) == (b : Int)) = false := by simp; omega
      by_cases h50 : b - a < 50
      · rw [if_pos h50] at hP
        simp -implicitDefEqProofs (maxSteps := 1000000) (disch := omega) only [natOf_nat, iadm, ldm1, ldm2, stm0, stm1, stm2, wA, wA1, wS, wS1, wM, S2, op, ef, cl, sq, reduceIte, Int.reduceLT, Int.reduceLE, Int.reduceBEq, Int.reduceBNe, Int.reduceEq, Nat.reduceAdd, Nat.reduceLeDiff, Nat.reduceLT, Nat.reduceEqDiff, S1, h0, h1, h2, h3, h9, h10, e1, h50]
        rw [← hP]
        exact ⟨rfl, di, hd, hsz, rfl, hfr⟩
      rw [if_neg h50] at hP
      simp -implicitDefEqProofs (maxSteps := 1000000) (disch := omega) only [natOf_nat, iadm, ldm1, ldm2, stm0, stm1, stm2, wA, wA1, wS, wS1, wM, S2, op, ef, cl, sq, reduceIte, Int.reduceLT, Int.reduceLE, Int.reduceBEq, Int.reduceBNe, Int.reduceEq, Nat.reduceAdd, Nat.reduceLeDiff, Nat.reduceLT, Nat.reduceEqDiff, S1, h0, h1, h2, h3, h9, h10, e1, h50, hd, lc]
      obtain ⟨d3, hd3⟩ : ∃ d3, d3 = if si - a ≥ 2 then shiftDown ltM (si - 1) (swp di si (si - 1)) else swp di si (si - 1) := ⟨_, rfl⟩
      obtain ⟨d4, hd4⟩ : ∃ d4, d4 = if b - si ≥ 2 then shiftUp ltM b (si + 1) d3 else d3 := ⟨_, rfl⟩
      have hP : partialIns ltM a b s si d4 = r := by rw [hd4, hd3]; exact hP
      obtain ⟨d2, hd2, hs2, e2, hf2⟩ := SC.swp (n := n) (P := fun x => x = swp di si (si - 1)) (x := .cells (msC eN (di.toList.set si di[si - 1]!))) hd (by rw [swp_size]; exact hsz) rfl hfr
      subst e2
      generalize ((H2.set c (.cells (msC eN (di.toList.set si di[si - 1]!)))).set c (.cells (msC eN (swp di si (si - 1)).toList))) = H5 at *
      by_cases hA : 2 ≤ si - a
      · rw [if_pos hA] at hd3
        simp -implicitDefEqProofs (maxSteps := 1000000) (disch := omega) only [natOf_nat, iadm, ldm1, ldm2, stm0, stm1, stm2, wA, wA1, wS, wS1, wM, S2, op, ef, cl, sq, reduceIte, Int.reduceLT, Int.reduceLE, Int.reduceBEq, Int.reduceBNe, Int.reduceEq, Nat.reduceAdd, Nat.reduceLeDiff, Nat.reduceLT, Nat.reduceEqDiff, S1, h0, h1, h2, h3, h9, h10, hA]
        refine W.loopE 4 (fun (k : Nat) R H' => At H' (fun H' => SC c n H (fun dx => shiftDown ltM k dx = d3) H') ∧ R 0 = .msl c 0 n 2 ∧ R 1 = .int .i64 a ∧ R 2 = .int .i64 b ∧ R 3 = .fn 36 [] ∧ R 9 = .int .i64 si ∧ R 10 = .int .i64 j ∧ R 11 = .int .i64 k ∧ k < b) (fun k => k) (si - 1)
          (fun R H' => At H' (fun H' => SC c n H (fun dx => dx = d3) H') ∧ R 0 = .msl c 0 n 2 ∧ R 1 = .int .i64 a ∧ R 2 = .int .i64 b ∧ R 3 = .fn 36 [] ∧ R 9 = .int .i64 si ∧ R 10 = .int .i64 j) ⟨.i ⟨_, hd2, hs2, hd3.symm, hf2⟩, ?_, ?_, ?_, ?_, ?_, ?_, ?_, by omega⟩ ?_ ?_
        · simp -implicitDefEqProofs only [op, ef, cl, sq, reduceIte, Int.reduceLT, Int.reduceLE, Int.reduceBEq, Int.reduceBNe, Int.reduceEq, Nat.reduceAdd, Nat.reduceLeDiff, Nat.reduceLT, Nat.reduceEqDiff, S1, h0]
        · simp -implicitDefEqProofs only [op, ef, cl, sq, reduceIte, Int.reduceLT, Int.reduceLE, Int.reduceBEq, Int.reduceBNe, Int.reduceEq, Nat.reduceAdd, Nat.reduceLeDiff, Nat.reduceLT, Nat.reduceEqDiff, S1, h1]
        · simp -implicitDefEqProofs only [op, ef, cl, sq, reduceIte, Int.reduceLT, Int.reduceLE, Int.reduceBEq, Int.reduceBNe, Int.reduceEq, Nat.reduceAdd, Nat.reduceLeDiff, Nat.reduceLT, Nat.reduceEqDiff, S1, h2]
        · simp -implicitDefEqProofs only [op, ef, cl, sq, reduceIte, Int.reduceLT, Int.reduceLE, Int.reduceBEq, Int.reduceBNe, Int.reduceEq, Nat.reduceAdd, Nat.reduceLeDiff, Nat.reduceLT, Nat.reduceEqDiff, S1, h3]
        · simp -implicitDefEqProofs only [op, ef, cl, sq, reduceIte, Int.reduceLT, Int.reduceLE, Int.reduceBEq, Int.reduceBNe, Int.reduceEq, Nat.reduceAdd, Nat.reduceLeDiff, Nat.reduceLT, Nat.reduceEqDiff, S1, h9]
        · simp -implicitDefEqProofs only [op, ef, cl, sq, reduceIte, Int.reduceLT, Int.reduceLE, Int.reduceBEq, Int.reduceBNe, Int.reduceEq, Nat.reduceAdd, Nat.reduceLeDiff, Nat.reduceLT, Nat.reduceEqDiff, S1, h10]
        · simp -implicitDefEqProofs only [op, ef, cl, sq, reduceIte, Int.reduceLT, Int.reduceLE, Int.reduceBEq, Int.reduceBNe, Int.reduceEq, Nat.reduceAdd, Nat.reduceLeDiff, Nat.reduceLT, Nat.reduceEqDiff, S1]
        · rintro k R H2 ⟨⟨dx, hd, hsz, hk, hfr⟩, h0, h1, h2, h3, h9, h10, h11, hkb⟩
          have lc := glt hd
          by_cases hk1 : 1 ≤ k
          · simp -implicitDefEqProofs (maxSteps := 1000000) (disch := omega) only [natOf_nat, iadm, ldm1, ldm2, stm0, stm1, stm2, wA, wA1, wS, wS1, wM, S2, op, ef, cl, sq, reduceIte, Int.reduceLT, Int.reduceLE, Int.reduceBEq, Int.reduceBNe, Int.reduceEq, Nat.reduceAdd, Nat.reduceLeDiff, Nat.reduceLT, Nat.reduceEqDiff, S1, h0, h1, h2, h3, h9, h10, h11, hk1, hd, lc]
            refine b_vg _ _ _ _ _ _ _ (by simp -implicitDefEqProofs (maxSteps := 1000000) (disch := omega) only [natOf_nat, iadm, ldm1, ldm2, stm0, stm1, stm2, wA, wA1, wS, wS1, wM, S2, op, ef, cl, sq, reduceIte, Int.reduceLT, Int.reduceLE, Int.reduceBEq, Int.reduceBNe, Int.reduceEq, Nat.reduceAdd, Nat.reduceLeDiff, Nat.reduceLT, Nat.reduceEqDiff, S1, h0, h1, h2, h3, h9, h10, h11, hk1, hd, lc]) ?_
            simp -implicitDefEqProofs (maxSteps := 1000000) (disch := omega) only [natOf_nat, iadm, ldm1, ldm2, stm0, stm1, stm2, wA, wA1, wS, wS1, wM, S2, op, ef, cl, sq, reduceIte, Int.reduceLT, Int.reduceLE, Int.reduceBEq, Int.reduceBNe, Int.reduceEq, Nat.reduceAdd, Nat.reduceLeDiff, Nat.reduceLT, Nat.reduceEqDiff, S1, callvB, h0, h1, h2, h3, h9, h10, h11, hk1, hd, lc, List.append_nil]
            refine callB_of _ _ _ _ _ _ _ _ (byName36 dx[k]! dx[k - 1]! _) ?_
            rintro u H3 ⟨hu, hx⟩
            cases hu
            have hx : Ext H2 H3 := hx
            have hd := hx.get hd
            have lc := glt hd
            have hfr := hfr.trans (ext_frm (F := fun _ => False) hx) (fun _ h => h.elim)
            have lt1 : ltM dx[k]! dx[k - 1]! = decide (cmpM dx[k]! dx[k - 1]! < 0) := rfl
            rw [shiftDown_eq hk1] at hk
            by_cases c1 : cmpM dx[k]! dx[k - 1]! < 0
            · simp -implicitDefEqProofs (maxSteps := 1000000) (disch := omega) only [natOf_nat, iadm, ldm1, ldm2, stm0, stm1, stm2, wA, wA1, wS, wS1, wM, S2, op, ef, cl, sq, reduceIte, Int.reduceLT, Int.reduceLE, Int.reduceBEq, Int.reduceBNe, Int.reduceEq, Nat.reduceAdd, Nat.reduceLeDiff, Nat.reduceLT, Nat.reduceEqDiff, S1, h0, h1, h2, h3, h9, h10, h11, hk1, hd, lc, c1]
              rw [if_neg (not_t (lt1.trans (dect c1)))] at hk
              exact ⟨k - 1, by omega, .i (.swp hd (by rw [swp_size]; exact hsz) hk hfr), rfl, by omega⟩
            · simp -implicitDefEqProofs (maxSteps := 1000000) (disch := omega) only [natOf_nat, iadm, ldm1, ldm2, stm0, stm1, stm2, wA, wA1, wS, wS1, wM, S2, op, ef, cl, sq, reduceIte, Int.reduceLT, Int.reduceLE, Int.reduceBEq, Int.reduceBNe, Int.reduceEq, Nat.reduceAdd, Nat.reduceLeDiff, Nat.reduceLT, Nat.reduceEqDiff, S1, h0, h1, h2, h3, h9, h10, h11, hk1, hd, lc, c1]
              rw [if_pos (not_f (lt1.trans (decf c1)))] at hk
              exact .i ⟨dx, hd, hsz, hk, hfr⟩
          · have hk0 : k = 0 := by omega
            subst hk0
            simp -implicitDefEqProofs only [op, ef, cl, sq, reduceIte, Int.reduceLT, Int.reduceLE, Int.reduceBEq, Int.reduceBNe, Int.reduceEq, Nat.reduceAdd, Nat.reduceLeDiff, Nat.reduceLT, Nat.reduceEqDiff, S1, h0, h1, h2, h3, h9, h10, h11, hk1]
            rw [shiftDown] at hk
            exact .i ⟨dx, hd, hsz, hk, hfr⟩
        · rintro R H2 ⟨⟨dx, hd, hsz3, rfl, hfr⟩, h0, h1, h2, h3, h9, h10⟩
          have lc := glt hd
          by_cases hB : 2 ≤ b - si
          · simp -implicitDefEqProofs (maxSteps := 1000000) (disch := omega) only [natOf_nat, iadm, ldm1, ldm2, stm0, stm1, stm2, wA, wA1, wS, wS1, wM, S2, op, ef, cl, sq, reduceIte, Int.reduceLT, Int.reduceLE, Int.reduceBEq, Int.reduceBNe, Int.reduceEq, Nat.reduceAdd, Nat.reduceLeDiff, Nat.reduceLT, Nat.reduceEqDiff, S1, h0, h1, h2, h3, h9, h10, hB]
            rw [if_pos hB] at hd4
            refine W.loopE 6 (fun (k : Nat) R H' => At H' (fun H' => SC c n H (fun dx => shiftUp ltM b k dx = d4) H') ∧ R 0 = .msl c 0 n 2 ∧ R 1 = .int .i64 a ∧ R 2 = .int .i64 b ∧ R 3 = .fn 36 [] ∧ R 9 = .int .i64 si ∧ R 10 = .int .i64 j ∧ R 12 = .int .i64 k ∧ 1 ≤ k ∧ k ≤ b) (fun k => b - k) (si + 1)
              (fun R H' => At H' (fun H' => SC c n H (fun dx => dx = d4) H') ∧ R 0 = .msl c 0 n 2 ∧ R 1 = .int .i64 a ∧ R 2 = .int .i64 b ∧ R 3 = .fn 36 [] ∧ R 9 = .int .i64 si ∧ R 10 = .int .i64 j) ⟨.i ⟨dx, hd, hsz3, hd4.symm, hfr⟩, ?_, ?_, ?_, ?_, ?_, ?_, ?_, by omega, by omega⟩ ?_ ?_
            · simp -implicitDefEqProofs only [op, ef, cl, sq, reduceIte, Int.reduceLT, Int.reduceLE, Int.reduceBEq, Int.reduceBNe, Int.reduceEq, Nat.reduceAdd, Nat.reduceLeDiff, Nat.reduceLT, Nat.reduceEqDiff, S1, h0]
            · simp -implicitDefEqProofs only [op, ef, cl, sq, reduceIte, Int.reduceLT, Int.reduceLE, Int.reduceBEq, Int.reduceBNe, Int.reduceEq, Nat.reduceAdd, Nat.reduceLeDiff, Nat.reduceLT, Nat.reduceEqDiff, S1, h1]
            · simp -implicitDefEqProofs only [op, ef, cl, sq, reduceIte, Int.reduceLT, Int.reduceLE, Int.reduceBEq, Int.reduceBNe, Int.reduceEq, Nat.reduceAdd, Nat.reduceLeDiff, Nat.reduceLT, Nat.reduceEqDiff, S1, h2]
            · simp -implicitDefEqProofs only [op, ef, cl, sq, reduceIte, Int.reduceLT, Int.reduceLE, Int.reduceBEq, Int.reduceBNe, Int.reduceEq, Nat.reduceAdd, Nat.reduceLeDiff, Nat.reduceLT, Nat.reduceEqDiff, S1, h3]
            · simp -implicitDefEqProofs only [op, ef, cl, sq, reduceIte, Int.reduceLT, Int.reduceLE, Int.reduceBEq, Int.reduceBNe, Int.reduceEq, Nat.reduceAdd, Nat.reduceLeDiff, Nat.reduceLT, Nat.reduceEqDiff, S1, h9]
            · simp -implicitDefEqProofs only [op, ef, cl, sq, reduceIte, Int.reduceLT, Int.reduceLE, Int.reduceBEq, Int.reduceBNe, Int.reduceEq, Nat.reduceAdd, Nat.reduceLeDiff, Nat.reduceLT, Nat.reduceEqDiff, S1, h10]
            · simp -implicitDefEqProofs only [op, ef, cl, sq, reduceIte, Int.reduceLT, Int.reduceLE, Int.reduceBEq, Int.reduceBNe, Int.reduceEq, Nat.reduceAdd, Nat.reduceLeDiff, Nat.reduceLT, Nat.reduceEqDiff, S1]
            · rintro k R H2 ⟨⟨dx, hd, hsz, hk, hfr⟩, h0, h1, h2, h3, h9, h10, h12, hk1, hkb⟩
              have lc := glt hd
              by_cases hkk : k < b
              · simp -implicitDefEqProofs (maxSteps := 1000000) (disch := omega) only [natOf_nat, iadm, ldm1, ldm2, stm0, stm1, stm2, wA, wA1, wS, wS1, wM, S2, op, ef, cl, sq, reduceIte, Int.reduceLT, Int.reduceLE, Int.reduceBEq, Int.reduceBNe, Int.reduceEq, Nat.reduceAdd, Nat.reduceLeDiff, Nat.reduceLT, Nat.reduceEqDiff, S1, h0, h1, h2, h3, h9, h10, h12, hkk, hd, lc]
                refine b_vg _ _ _ _ _ _ _ (by simp -implicitDefEqProofs (maxSteps := 1000000) (disch := omega) only [natOf_nat, iadm, ldm1, ldm2, stm0, stm1, stm2, wA, wA1, wS, wS1, wM, S2, op, ef, cl, sq, reduceIte, Int.reduceLT, Int.reduceLE, Int.reduceBEq, Int.reduceBNe, Int.reduceEq, Nat.reduceAdd, Nat.reduceLeDiff, Nat.reduceLT, Nat.reduceEqDiff, S1, h0, h1, h2, h3, h9, h10, h12, hkk, hd, lc]) ?_
                simp -implicitDefEqProofs (maxSteps := 1000000) (disch := omega) only [natOf_nat, iadm, ldm1, ldm2, stm0, stm1, stm2, wA, wA1, wS, wS1, wM, S2, op, ef, cl, sq, reduceIte, Int.reduceLT, Int.reduceLE, Int.reduceBEq, Int.reduceBNe, Int.reduceEq, Nat.reduceAdd, Nat.reduceLeDiff, Nat.reduceLT, Nat.reduceEqDiff, S1, callvB, h0, h1, h2, h3, h9, h10, h12, hkk, hd, lc, List.append_nil]
                refine callB_of _ _ _ _ _ _ _ _ (byName36 dx[k]! dx[k - 1]! _) ?_
                rintro u H3 ⟨hu, hx⟩
                cases hu
                have hx : Ext H2 H3 := hx
                have hd := hx.get hd
                have lc := glt hd
                have hfr := hfr.trans (ext_frm (F := fun _ => False) hx) (fun _ h => h.elim)
                have lt1 : ltM dx[k]! dx[k - 1]! = decide (cmpM dx[k]! dx[k - 1]! < 0) := rfl
                rw [shiftUp, if_pos hkk] at hk
                by_cases c1 : cmpM dx[k]! dx[k - 1]! < 0
                · simp -implicitDefEqProofs (maxSteps := 1000000) (disch := omega) only [natOf_nat, iadm, ldm1, ldm2, stm0, stm1, stm2, wA, wA1, wS, wS1, wM, S2, op, ef, cl, sq, reduceIte, Int.reduceLT, Int.reduceLE, Int.reduceBEq, Int.reduceBNe, Int.reduceEq, Nat.reduceAdd, Nat.reduceLeDiff, Nat.reduceLT, Nat.reduceEqDiff, S1, h0, h1, h2, h3, h9, h10, h12, hkk, hd, lc, c1]
                  rw [if_neg (not_t (lt1.trans (dect c1)))] at hk
                  exact ⟨k + 1, by omega, .i (.swp hd (by rw [swp_size]; exact hsz) hk hfr), rfl, by omega, by omega⟩
                · simp -implicitDefEqProofs (maxSteps := 1000000) (disch := omega) only [natOf_nat, iadm, ldm1, ldm2, stm0, stm1, stm2, wA, wA1, wS, wS1, wM, S2, op, ef, cl, sq, reduceIte, Int.reduceLT, Int.reduceLE, Int.reduceBEq, Int.reduceBNe, Int.reduceEq, Nat.reduceAdd, Nat.reduceLeDiff, Nat.reduceLT, Nat.reduceEqDiff, S1, h0, h1, h2, h3, h9, h10, h12, hkk, hd, lc, c1]
                  rw [if_pos (not_f (lt1.trans (decf c1)))] at hk
                  exact .i ⟨dx, hd, hsz, hk, hfr⟩
              · simp -implicitDefEqProofs only [op, ef, cl, sq, reduceIte, Int.reduceLT, Int.reduceLE, Int.reduceBEq, Int.reduceBNe, Int.reduceEq, Nat.reduceAdd, Nat.reduceLeDiff, Nat.reduceLT, Nat.reduceEqDiff, S1, h0, h1, h2, h3, h9, h10, h12, hkk]
                rw [shiftUp, if_neg hkk] at hk
                exact .i ⟨dx, hd, hsz, hk, hfr⟩
            · rintro R H2 ⟨⟨dx, hd, hsz, rfl, hfr⟩, h0, h1, h2, h3, h9, h10⟩
              simp -implicitDefEqProofs (maxSteps := 1000000) (disch := omega) only [natOf_nat, iadm, ldm1, ldm2, stm0, stm1, stm2, wA, wA1, wS, wS1, wM, S2, op, ef, cl, sq, reduceIte, Int.reduceLT, Int.reduceLE, Int.reduceBEq, Int.reduceBNe, Int.reduceEq, Nat.reduceAdd, Nat.reduceLeDiff, Nat.reduceLT, Nat.reduceEqDiff, S1, h0, h1, h2, h3, h9, h10]
              exact ⟨j + 1, by omega, .i ⟨si, rfl, by omega, by omega, dx, hd, hsz, by rw [hs5']; exact hP, hfr⟩, rfl, by omega⟩
          · rw [if_neg hB] at hd4
            subst hd4
            simp -implicitDefEqProofs (maxSteps := 1000000) (disch := omega) only [natOf_nat, iadm, ldm1, ldm2, stm0, stm1, stm2, wA, wA1, wS, wS1, wM, S2, op, ef, cl, sq, reduceIte, Int.reduceLT, Int.reduceLE, Int.reduceBEq, Int.reduceBNe, Int.reduceEq, Nat.reduceAdd, Nat.reduceLeDiff, Nat.reduceLT, Nat.reduceEqDiff, S1, h0, h1, h2, h3, h9, h10, hB]
            exact ⟨j + 1, by omega, .i ⟨si, rfl, by omega, by omega, d4, hd, hsz3, by rw [hs5']; exact hP, hfr⟩, rfl, by omega⟩
      · rw [if_neg hA] at hd3
        simp -implicitDefEqProofs (maxSteps := 1000000) (disch := omega) only [natOf_nat, iadm, ldm1, ldm2, stm0, stm1, stm2, wA, wA1, wS, wS1, wM, S2, op, ef, cl, sq, reduceIte, Int.reduceLT, Int.reduceLE, Int.reduceBEq, Int.reduceBNe, Int.reduceEq, Nat.reduceAdd, Nat.reduceLeDiff, Nat.reduceLT, Nat.reduceEqDiff, S1, h0, h1, h2, h3, h9, h10, hA]
        have hd := hd2
        have hsz3 := hs2
        have hfr := hf2
        rw [← hd3] at hd hsz3
        by_cases hB : 2 ≤ b - si
        · simp -implicitDefEqProofs (maxSteps := 1000000) (disch := omega) only [natOf_nat, iadm, ldm1, ldm2, stm0, stm1, stm2, wA, wA1, wS, wS1, wM, S2, op, ef, cl, sq, reduceIte, Int.reduceLT, Int.reduceLE, Int.reduceBEq, Int.reduceBNe, Int.reduceEq, Nat.reduceAdd, Nat.reduceLeDiff, Nat.reduceLT, Nat.reduceEqDiff, S1, h0, h1, h2, h3, h9, h10, hB]
          rw [if_pos hB] at hd4
          refine W.loopE 6 (fun (k : Nat) R H' => At H' (fun H' => SC c n H (fun dx => shiftUp ltM b k dx = d4) H') ∧ R 0 = .msl c 0 n 2 ∧ R 1 = .int .i64 a ∧ R 2 = .int .i64 b ∧ R 3 = .fn 36 [] ∧ R 9 = .int .i64 si ∧ R 10 = .int .i64 j ∧ R 12 = .int .i64 k ∧ 1 ≤ k ∧ k ≤ b) (fun k => b - k) (si + 1)
            (fun R H' => At H' (fun H' => SC c n H (fun dx => dx = d4) H') ∧ R 0 = .msl c 0 n 2 ∧ R 1 = .int .i64 a ∧ R 2 = .int .i64 b ∧ R 3 = .fn 36 [] ∧ R 9 = .int .i64 si ∧ R 10 = .int .i64 j) ⟨.i ⟨d3, hd, hsz3, hd4.symm, hfr⟩, ?_, ?_, ?_, ?_, ?_, ?_, ?_, by omega, by omega⟩ ?_ ?_
          · simp -implicitDefEqProofs only [op, ef, cl, sq, reduceIte, Int.reduceLT, Int.reduceLE, Int.reduceBEq, Int.reduceBNe, Int.reduceEq, Nat.reduceAdd, Nat.reduceLeDiff, Nat.reduceLT, Nat.reduceEqDiff, S1, h0]
          · simp -implicitDefEqProofs only [op, ef, cl, sq, reduceIte, Int.reduceLT, Int.reduceLE, Int.reduceBEq, Int.reduceBNe, Int.reduceEq, Nat.reduceAdd, Nat.reduceLeDiff, Nat.reduceLT, Nat.reduceEqDiff, S1, h1]
          · simp -implicitDefEqProofs only [op, ef, cl, sq, reduceIte, Int.reduceLT, Int.reduceLE, Int.reduceBEq, Int.reduceBNe, Int.reduceEq, Nat.reduceAdd, Nat.reduceLeDiff, Nat.reduceLT, Nat.reduceEqDiff, S1, h2]
          · simp -implicitDefEqProofs only [op, ef, cl, sq, reduceIte, Int.reduceLT, Int.reduceLE, Int.reduceBEq, Int.reduceBNe, Int.reduceEq, Nat.reduceAdd, Nat.reduceLeDiff, Nat.reduceLT, Nat.reduceEqDiff, S1, h3]
          · simp -implicitDefEqProofs only [op, ef, cl, sq, reduceIte, Int.reduceLT, Int.reduceLE, Int.reduceBEq, Int.reduceBNe, Int.reduceEq, Nat.reduceAdd, Nat.reduceLeDiff, Nat.reduceLT, Nat.reduceEqDiff, S1, h9]
          · simp -implicitDefEqProofs only [op, ef, cl, sq, reduceIte, Int.reduceLT, Int.reduceLE, Int.reduceBEq, Int.reduceBNe, Int.reduceEq, Nat.reduceAdd, Nat.reduceLeDiff, Nat.reduceLT, Nat.reduceEqDiff, S1, h10]
          · simp -implicitDefEqProofs only [op, ef, cl, sq, reduceIte, Int.reduceLT, Int.reduceLE, Int.reduceBEq, Int.reduceBNe, Int.reduceEq, Nat.reduceAdd, Nat.reduceLeDiff, Nat.reduceLT, Nat.reduceEqDiff, S1]
          · rintro k R H2 ⟨⟨dx, hd, hsz, hk, hfr⟩, h0, h1, h2, h3, h9, h10, h12, hk1, hkb⟩
            have lc := glt hd
            by_cases hkk : k < b
            · simp -implicitDefEqProofs (maxSteps := 1000000) (disch := omega) only [natOf_nat, iadm, ldm1, ldm2, stm0, stm1, stm2, wA, wA1, wS, wS1, wM, S2, op, ef, cl, sq, reduceIte, Int.reduceLT, Int.reduceLE, Int.reduceBEq, Int.reduceBNe, Int.reduceEq, Nat.reduceAdd, Nat.reduceLeDiff, Nat.reduceLT, Nat.reduceEqDiff, S1, h0, h1, h2, h3, h9, h10, h12, hkk, hd, lc]
              refine b_vg _ _ _ _ _ _ _ (by simp -implicitDefEqProofs (maxSteps := 1000000) (disch := omega) only [natOf_nat, iadm, ldm1, ldm2, stm0, stm1, stm2, wA, wA1, wS, wS1, wM, S2, op, ef, cl, sq, reduceIte, Int.reduceLT, Int.reduceLE, Int.reduceBEq, Int.reduceBNe, Int.reduceEq, Nat.reduceAdd, Nat.reduceLeDiff, Nat.reduceLT, Nat.reduceEqDiff, S1, h0, h1, h2, h3, h9, h10, h12, hkk, hd, lc]) ?_
              simp -implicitDefEqProofs (maxSteps := 1000000) (disch := omega) only [natOf_nat, iadm, ldm1, ldm2, stm0, stm1, stm2, wA, wA1, wS, wS1, wM, S2, op, ef, cl, sq, reduceIte, Int.reduceLT, Int.reduceLE, Int.reduceBEq, Int.reduceBNe, Int.reduceEq, Nat.reduceAdd, Nat.reduceLeDiff, Nat.reduceLT, Nat.reduceEqDiff, S1, callvB, h0, h1, h2, h3, h9, h10, h12, hkk, hd, lc, List.append_nil]
              refine callB_of _ _ _ _ _ _ _ _ (byName36 dx[k]! dx[k - 1]! _) ?_
              rintro u H3 ⟨hu, hx⟩
              cases hu
              have hx : Ext H2 H3 := hx
              have hd := hx.get hd
              have lc := glt hd
              have hfr := hfr.trans (ext_frm (F := fun _ => False) hx) (fun _ h => h.elim)
              have lt1 : ltM dx[k]! dx[k - 1]! = decide (cmpM dx[k]! dx[k - 1]! < 0) := rfl
              rw [shiftUp, if_pos hkk] at hk
              by_cases c1 : cmpM dx[k]! dx[k - 1]! < 0
              · simp -implicitDefEqProofs (maxSteps := 1000000) (disch := omega) only [natOf_nat, iadm, ldm1, ldm2, stm0, stm1, stm2, wA, wA1, wS, wS1, wM, S2, op, ef, cl, sq, reduceIte, Int.reduceLT, Int.reduceLE, Int.reduceBEq, Int.reduceBNe, Int.reduceEq, Nat.reduceAdd, Nat.reduceLeDiff, Nat.reduceLT, Nat.reduceEqDiff, S1, h0, h1, h2, h3, h9, h10, h12, hkk, hd, lc, c1]
                rw [if_neg (not_t (lt1.trans (dect c1)))] at hk
                exact ⟨k + 1, by omega, .i (.swp hd (by rw [swp_size]; exact hsz) hk hfr), rfl, by omega, by omega⟩
              · simp -implicitDefEqProofs (maxSteps := 1000000) (disch := omega) only [natOf_nat, iadm, ldm1, ldm2, stm0, stm1, stm2, wA, wA1, wS, wS1, wM, S2, op, ef, cl, sq, reduceIte, Int.reduceLT, Int.reduceLE, Int.reduceBEq, Int.reduceBNe, Int.reduceEq, Nat.reduceAdd, Nat.reduceLeDiff, Nat.reduceLT, Nat.reduceEqDiff, S1, h0, h1, h2, h3, h9, h10, h12, hkk, hd, lc, c1]
                rw [if_pos (not_f (lt1.trans (decf c1)))] at hk
                exact .i ⟨dx, hd, hsz, hk, hfr⟩
            · simp -implicitDefEqProofs only [op, ef, cl, sq, reduceIte, Int.reduceLT, Int.reduceLE, Int.reduceBEq, Int.reduceBNe, Int.reduceEq, Nat.reduceAdd, Nat.reduceLeDiff, Nat.reduceLT, Nat.reduceEqDiff, S1, h0, h1, h2, h3, h9, h10, h12, hkk]
              rw [shiftUp, if_neg hkk] at hk
              exact .i ⟨dx, hd, hsz, hk, hfr⟩
          · rintro R H2 ⟨⟨dx, hd, hsz, rfl, hfr⟩, h0, h1, h2, h3, h9, h10⟩
            simp -implicitDefEqProofs (maxSteps := 1000000) (disch := omega) only [natOf_nat, iadm, ldm1, ldm2, stm0, stm1, stm2, wA, wA1, wS, wS1, wM, S2, op, ef, cl, sq, reduceIte, Int.reduceLT, Int.reduceLE, Int.reduceBEq, Int.reduceBNe, Int.reduceEq, Nat.reduceAdd, Nat.reduceLeDiff, Nat.reduceLT, Nat.reduceEqDiff, S1, h0, h1, h2, h3, h9, h10]
            exact ⟨j + 1, by omega, .i ⟨si, rfl, by omega, by omega, dx, hd, hsz, by rw [hs5']; exact hP, hfr⟩, rfl, by omega⟩
        · rw [if_neg hB] at hd4
          subst hd4
          simp -implicitDefEqProofs (maxSteps := 1000000) (disch := omega) only [natOf_nat, iadm, ldm1, ldm2, stm0, stm1, stm2, wA, wA1, wS, wS1, wM, S2, op, ef, cl, sq, reduceIte, Int.reduceLT, Int.reduceLE, Int.reduceBEq, Int.reduceBNe, Int.reduceEq, Nat.reduceAdd, Nat.reduceLeDiff, Nat.reduceLT, Nat.reduceEqDiff, S1, h0, h1, h2, h3, h9, h10, hB]
          exact ⟨j + 1, by omega, .i ⟨si, rfl, by omega, by omega, d4, hd, hsz3, by rw [hs5']; exact hP, hfr⟩, rfl, by omega⟩
  · rintro R H1 ⟨di, hd, hsz, hP, hfr⟩
    simp -implicitDefEqProofs only [op, ef, cl, sq, reduceIte, Int.reduceLT, Int.reduceLE, Int.reduceBEq, Int.reduceBNe, Int.reduceEq, Nat.reduceAdd, Nat.reduceLeDiff, Nat.reduceLT, Nat.reduceEqDiff, S1]
    rw [← hP]
    exact ⟨rfl, di, hd, hsz, rfl, hfr⟩
end Go.Proofs.Ytbkgokabcnogdaa.St
end

/-! text StoreQ -/
section
namespace Go.Proofs.Ytbkgokabcnogdaa.St
open Go.Rmp Go.Proofs.Ytbkgokabcnogdaa.Ir
set_option maxRecDepth 10000
theorem ltM_iff (a b : Nm) : ltM a b = true ↔ strLt a.1 b.1 = true ∨ (a.1 = b.1 ∧ a.2 < b.2) := by
  unfold ltM cmpM or2 cmpS cmpN
  rw [decide_eq_true_eq]
  cases h1 : strLt a.1 b.1
  · cases h2 : strLt b.1 a.1
    · have e := lt_tri h1 h2
      simp -implicitDefEqProofs only [Bool.false_eq_true, if_false, if_true, false_or, e, true_and]
      split
      · simp [*]
      · split <;> simp [*]
    · have hne : a.1 ≠ b.1 := by intro e; rw [e, lt_irr] at h2; cases h2
      simp [hne]
  · simp
theorem ltM_irr (a : Nm) : ltM a a = false := by
  cases h : ltM a a with
  | false => rfl
  | true => rcases (ltM_iff a a).1 h with h | h; rw [lt_irr] at h; cases h; omega
theorem ltM_trans {a b c : Nm} (h1 : ltM a b = true) (h2 : ltM b c = true) : ltM a c = true := by
  rw [ltM_iff] at h1 h2 ⊢
  rcases h1 with h1 | ⟨e1, h1⟩ <;> rcases h2 with h2 | ⟨e2, h2⟩
  · exact .inl (lt_trans' h1 h2)
  · exact .inl (e2 ▸ h1)
  · exact .inl (e1 ▸ h2)
  · exact .inr ⟨e1.trans e2, by omega⟩
theorem ltM_tri {a b : Nm} (h1 : ltM a b = false) (h2 : ltM b a = false) : a = b := by
  have n1 : ¬ (strLt a.1 b.1 = true ∨ (a.1 = b.1 ∧ a.2 < b.2)) := fun h => by rw [(ltM_iff a b).2 h] at h1; cases h1
  have n2 : ¬ (strLt b.1 a.1 = true ∨ (b.1 = a.1 ∧ b.2 < a.2)) := fun h => by rw [(ltM_iff b a).2 h] at h2; cases h2
  have e1 : a.1 = b.1 := lt_tri (by cases h : strLt a.1 b.1 with | false => rfl | true => exact absurd (.inl h) n1) (by cases h : strLt b.1 a.1 with | false => rfl | true => exact absurd (.inl h) n2)
  have q1 : ¬ a.2 < b.2 := fun h => n1 (.inr ⟨e1, h⟩)
  have q2 : ¬ b.2 < a.2 := fun h => n2 (.inr ⟨e1.symm, h⟩)
  exact Prod.ext e1 (by omega)
theorem ltM_swo : Go.Sort.SWO ltM where
  irrefl := ltM_irr
  trans _ _ _ h1 h2 := ltM_trans h1 h2
  ntrans x y z h1 h2 := by
    cases h : ltM x z with
    | false => rfl
    | true =>
      cases h3 : ltM y x with
      | true => rw [ltM_trans h3 h] at h2; cases h2
      | false => have := ltM_tri h1 h3; subst this; rw [h] at h2; cases h2
/-- a sorted list of names -/
theorem sorted_list {d : Array Nm} (hn : d.toList.Nodup) : (Go.Sort.insertionSort ltM d 0 d.size).toList.Perm d.toList ∧ (Go.Sort.insertionSort ltM d 0 d.size).toList.Pairwise (fun a b => ltM a b = true) := by
  obtain ⟨⟨hs, _, hp⟩, hsort⟩ := Go.Sort.insertionSort_holds (lt := ltM) ltM_swo d 0 d.size (Nat.zero_le _) (Nat.le_refl _)
  have e1 : (Go.Sort.insertionSort ltM d 0 d.size).extract 0 d.size = Go.Sort.insertionSort ltM d 0 d.size := by
    conv => lhs; arg 3; rw [← hs]
    simp
  have hperm : (Go.Sort.insertionSort ltM d 0 d.size).toList.Perm d.toList := by
    rw [e1] at hp
    simpa using hp
  refine ⟨hperm, ?_⟩
  have hn2 : (Go.Sort.insertionSort ltM d 0 d.size).toList.Nodup := hperm.nodup_iff.2 hn
  rw [List.pairwise_iff_getElem]
  intro i j hi hj hij
  have h1 := hsort i j (Nat.zero_le _) hij (by rw [← hs]; simpa using hj)
  have gi := arr_get (d := Go.Sort.insertionSort ltM d 0 d.size) (i := i) (by simpa using hi)
  have gj := arr_get (d := Go.Sort.insertionSort ltM d 0 d.size) (i := j) (by simpa using hj)
  rw [List.getElem?_eq_getElem hi] at gi
  rw [List.getElem?_eq_getElem hj] at gj
  rw [Option.some.inj gi, Option.some.inj gj]
  cases h : ltM (Go.Sort.insertionSort ltM d 0 d.size)[i]! (Go.Sort.insertionSort ltM d 0 d.size)[j]! with
  | true => rfl
  | false =>
    have e := ltM_tri h h1
    rw [← Option.some.inj gi, ← Option.some.inj gj] at e
    have := (List.getElem_inj hn2).1 e
    omega
/-! nothing to sort -/
theorem ins75e (H : Heap) : W env (.call 75 [.sl .nil [], .int .i64 0, .int .i64 0, .fn 36 []]) H (Ret (.tup []) H) := by
  refine W.fnI rfl rfl rfl ?_
  have wa : IntKind.i64.wrap ((0 : Int) + 1) = 1 := by decide
  simp -implicitDefEqProofs only [ir75, op, ef, cl, sq, reduceIte, Int.reduceLT, Int.reduceLE, Int.reduceBEq, Int.reduceBNe, Int.reduceEq, Nat.reduceAdd, Nat.reduceLeDiff, Nat.reduceLT, Nat.reduceEqDiff, S1, wa]
  refine W.loopI (fun (_ : Nat) R H' => H' = H ∧ R 2 = .int .i64 0 ∧ R 8 = .int .i64 1) (fun _ => 0) 0 ⟨rfl, rfl, rfl⟩ ?_
  rintro _ R _ ⟨rfl, h2, h8⟩
  have l0 : ¬ ((1 : Int) < 0) := by decide
  simp -implicitDefEqProofs only [op, ef, cl, sq, reduceIte, Int.reduceLT, Int.reduceLE, Int.reduceBEq, Int.reduceBNe, Int.reduceEq, Nat.reduceAdd, Nat.reduceLeDiff, Nat.reduceLT, Nat.reduceEqDiff, S1, h2, h8, l0]
  trivial
theorem pdqE (m : Nat) (H : Heap) : W env (.call 64 [.sl .nil [], .int .i64 0, .int .i64 0, .int .i64 m, .fn 36 []]) H (Ret (.tup []) H) := by
  refine W.fnI rfl rfl rfl ?_
  have w1 : IntKind.i64.wrap ((0 : Int) - 0) = 0 := by decide
  simp -implicitDefEqProofs only [ir64, op, ef, cl, sq, reduceIte, Int.reduceLT, Int.reduceLE, Int.reduceBEq, Int.reduceBNe, Int.reduceEq, Nat.reduceAdd, Nat.reduceLeDiff, Nat.reduceLT, Nat.reduceEqDiff, S1]
  refine W.loopI (fun (_ : Nat) R H' => H' = H ∧ R 0 = .sl .nil [] ∧ R 1 = .int .i64 0 ∧ R 2 = .int .i64 0 ∧ R 4 = .fn 36 []) (fun _ => 0) 0 ⟨rfl, rfl, rfl, rfl, rfl⟩ ?_
  rintro _ R _ ⟨rfl, h0, h1, h2, h4⟩
  have l0 : (0 : Int) ≤ 12 := by decide
  simp -implicitDefEqProofs only [op, ef, cl, sq, reduceIte, Int.reduceLT, Int.reduceLE, Int.reduceBEq, Int.reduceBNe, Int.reduceEq, Nat.reduceAdd, Nat.reduceLeDiff, Nat.reduceLT, Nat.reduceEqDiff, S1, h0, h1, h2, h4, w1, l0]
  refine callB_of _ _ _ _ _ _ _ _ (ins75e _) ?_
  rintro u H2 ⟨hu, rfl⟩
  cases hu
  simp -implicitDefEqProofs only [op, ef, cl, sq, reduceIte, Int.reduceLT, Int.reduceLE, Int.reduceBEq, Int.reduceBNe, Int.reduceEq, Nat.reduceAdd, Nat.reduceLeDiff, Nat.reduceLT, Nat.reduceEqDiff, S1]
  trivial
theorem sortE (H : Heap) : W env (.call 49 [.sl .nil [], .fn 36 []]) H (Ret (.tup []) H) := by
  refine W.fnI rfl rfl rfl ?_
  have w1 : IntKind.u64.wrap ((0 : Nat) : Int) = ((0 : Nat) : Int) := by decide
  have e0 : ((0 : Nat) : Int) = 0 := rfl
  simp -implicitDefEqProofs only [ir49, op, ef, cl, sq, reduceIte, Int.reduceLT, Int.reduceLE, Int.reduceBEq, Int.reduceBNe, Int.reduceEq, Nat.reduceAdd, Nat.reduceLeDiff, Nat.reduceLT, Nat.reduceEqDiff, S1, w1]
  refine callB_of _ _ _ _ _ _ _ _ (lenN 0 (by omega) _) ?_
  rintro u H1 ⟨rfl, m, hu⟩
  cases hu
  simp -implicitDefEqProofs only [op, ef, cl, sq, reduceIte, Int.reduceLT, Int.reduceLE, Int.reduceBEq, Int.reduceBNe, Int.reduceEq, Nat.reduceAdd, Nat.reduceLeDiff, Nat.reduceLT, Nat.reduceEqDiff, S1, e0]
  refine callB_of _ _ _ _ _ _ _ _ (pdqE m _) ?_
  rintro u H2 ⟨hu, rfl⟩
  cases hu
  simp -implicitDefEqProofs only [op, ef, cl, sq, reduceIte, Int.reduceLT, Int.reduceLE, Int.reduceBEq, Int.reduceBNe, Int.reduceEq, Nat.reduceAdd, Nat.reduceLeDiff, Nat.reduceLT, Nat.reduceEqDiff, S1]
  trivial
def SortQ (es : List (Nm × T)) (H : Heap) : Out → Heap → Prop := fun o H' => Ext H H' ∧ ∃ t l, o = .val t ∧ Mut eN 2 H.length H' t l ∧ l.Perm (es.map (·.1)) ∧ l.Pairwise (fun a b => ltM a b = true)
theorem sorted34 (es : List (Nm × T)) (c mb : Nat) (H : Heap) (hnd : (es.map (·.1)).Nodup) (hes : es.length ≤ 12) (hc : H[c]? = some (.cells [.map mb])) (hm : H[mb]? = some (.map (encK kN es))) :
    W env (.call 34 [.fn 50 [.ptr c 0], .fn 36 []]) H (SortQ es H) := by
  refine W.fnI rfl rfl rfl ?_
  simp -implicitDefEqProofs only [ir34, op, ef, cl, sq, reduceIte, Int.reduceLT, Int.reduceLE, Int.reduceBEq, Int.reduceBNe, Int.reduceEq, Nat.reduceAdd, Nat.reduceLeDiff, Nat.reduceLT, Nat.reduceEqDiff, S1]
  refine callB_of _ _ _ _ _ _ _ _ (coll48 es c mb H hnd (by omega) hc hm) ?_
  rintro u H1 ⟨hx, t, vis, hu, hmt, hri⟩
  cases hu
  have hperm : vis.Perm (es.map (·.1)) := (List.perm_ext_iff_of_nodup hri.nvis hnd).2 fun k => hri.end' k
  have hvl : vis.length = es.length := by have := hri.len; simpa using this
  rcases hmt with ⟨rfl, rfl⟩ | ⟨d, rfl, hd, hdn⟩
  · simp -implicitDefEqProofs only [op, ef, cl, sq, reduceIte, Int.reduceLT, Int.reduceLE, Int.reduceBEq, Int.reduceBNe, Int.reduceEq, Nat.reduceAdd, Nat.reduceLeDiff, Nat.reduceLT, Nat.reduceEqDiff, S1]
    refine callB_of _ _ _ _ _ _ _ _ (sortE _) ?_
    rintro u H2 ⟨hu, rfl⟩
    cases hu
    simp -implicitDefEqProofs only [op, ef, cl, sq, reduceIte, Int.reduceLT, Int.reduceLE, Int.reduceBEq, Int.reduceBNe, Int.reduceEq, Nat.reduceAdd, Nat.reduceLeDiff, Nat.reduceLT, Nat.reduceEqDiff, S1]
    exact ⟨hx, _, [], rfl, mut_nil _ _ _ _, hperm, List.Pairwise.nil⟩
  · simp -implicitDefEqProofs only [op, ef, cl, sq, reduceIte, Int.reduceLT, Int.reduceLE, Int.reduceBEq, Int.reduceBNe, Int.reduceEq, Nat.reduceAdd, Nat.reduceLeDiff, Nat.reduceLT, Nat.reduceEqDiff, S1]
    have := sortS d vis.toArray H1 (by simpa using hd) (by simpa using (by omega : vis.length ≤ 12))
    simp -implicitDefEqProofs only [List.size_toArray] at this
    refine callB_of _ _ _ _ _ _ _ _ this ?_
    rintro u H2 ⟨hu, h2, hfr⟩
    cases hu
    simp -implicitDefEqProofs only [op, ef, cl, sq, reduceIte, Int.reduceLT, Int.reduceLE, Int.reduceBEq, Int.reduceBNe, Int.reduceEq, Nat.reduceAdd, Nat.reduceLeDiff, Nat.reduceLT, Nat.reduceEqDiff, S1]
    have hs := sorted_list (d := vis.toArray) (by simpa using hri.nvis)
    simp -implicitDefEqProofs only [List.size_toArray] at hs
    refine ⟨ext_of fun a x hax => hfr.get (hx.get hax) (by have := glt hax; omega), _, _, rfl, .inr ⟨d, ?_, h2, hdn⟩, hs.1.trans hperm, hs.2⟩
    rw [hs.1.length_eq]
end Go.Proofs.Ytbkgokabcnogdaa.St
end

/-! text StoreXi -/
section
namespace Go.Proofs.Ytbkgokabcnogdaa.St
open Go.Rmp Go.Proofs.Ytbkgokabcnogdaa.Ir
set_option maxRecDepth 10000
set_option maxHeartbeats 8000000
def bkOf : C → Nat → Option C
  | .block id a, n => if id = n then some a else bkOf a n
  | .seq a b, n => match bkOf a n with | some c => some c | .none => bkOf b n
  | .cond _ a b, n => match bkOf a n with | some c => some c | .none => bkOf b n
  | .loop a, n => bkOf a n
  | _, _ => .none
def seqN : C → Nat → C
  | .seq a _, 0 => a
  | .seq _ b, k + 1 => seqN b k
  | c, _ => c
/-- the registers of pdqsort's loop -/
structure PR (R : Regs) (c n a b lim : Nat) (wb wp : Bool) : Prop where
  r0 : R 0 = .msl c 0 n 2
  r1 : R 1 = .int .i64 a
  r2 : R 2 = .int .i64 b
  r3 : R 3 = .int .i64 lim
  r4 : R 4 = .fn 36 []
  r10 : R 10 = .bool wb
  r11 : R 11 = .bool wp
  r12 : R 12 = .int .i64 (b - a : Nat)
open Go.Sort in
theorem seg3 (A : C) (hA : (bkOf ir64.body 1).map (seqN · 3) = some A) (c n a b lim : Nat) (wb wp : Bool) (d : Array Nm) (R : Regs) (H0 H : Heap) (K : Out → Heap → Prop) (hp : PR R c n a b lim wb wp) (hd : SC c n H0 (fun x => x = d) H) (hb : b ≤ n) (hab : a + 12 < b) (hs : n < 16777216) (hl : 1 ≤ lim ∧ lim < 1000)
    (rest : ∀ R' H', PR R' c n a b (if (!wb) = true then lim - 1 else lim) wb wp → SC c n H0 (fun x => x = if (!wb) = true then breakPatterns d a b else d) H' → K (.ex .normal R') H') : wpC env A R H K := by
  simp [ir64, bkOf, seqN, sq] at hA
  subst hA
  obtain ⟨h0, h1, h2, h3, h4, h10, h11, h12⟩ := hp
  obtain ⟨di, hc, hn, rfl, hfr⟩ := hd
  cases wb with
  | true =>
    simp -implicitDefEqProofs (maxSteps := 1000000) (disch := omega) only [op, ef, cl, sq, reduceIte, Int.reduceLT, Int.reduceLE, Int.reduceBEq, Int.reduceBNe, Int.reduceEq, Nat.reduceAdd, Nat.reduceLeDiff, Nat.reduceLT, Nat.reduceEqDiff, S1, h0, h1, h2, h3, h4, h10, h11, h12]
    exact rest _ _ ⟨by simp -implicitDefEqProofs only [op, ef, cl, sq, reduceIte, Int.reduceLT, Int.reduceLE, Int.reduceBEq, Int.reduceBNe, Int.reduceEq, Nat.reduceAdd, Nat.reduceLeDiff, Nat.reduceLT, Nat.reduceEqDiff, S1, h0], by simp -implicitDefEqProofs only [op, ef, cl, sq, reduceIte, Int.reduceLT, Int.reduceLE, Int.reduceBEq, Int.reduceBNe, Int.reduceEq, Nat.reduceAdd, Nat.reduceLeDiff, Nat.reduceLT, Nat.reduceEqDiff, S1, h1], by simp -implicitDefEqProofs only [op, ef, cl, sq, reduceIte, Int.reduceLT, Int.reduceLE, Int.reduceBEq, Int.reduceBNe, Int.reduceEq, Nat.reduceAdd, Nat.reduceLeDiff, Nat.reduceLT, Nat.reduceEqDiff, S1, h2], by simp -implicitDefEqProofs only [op, ef, cl, sq, reduceIte, Int.reduceLT, Int.reduceLE, Int.reduceBEq, Int.reduceBNe, Int.reduceEq, Nat.reduceAdd, Nat.reduceLeDiff, Nat.reduceLT, Nat.reduceEqDiff, S1, h3], by simp -implicitDefEqProofs only [op, ef, cl, sq, reduceIte, Int.reduceLT, Int.reduceLE, Int.reduceBEq, Int.reduceBNe, Int.reduceEq, Nat.reduceAdd, Nat.reduceLeDiff, Nat.reduceLT, Nat.reduceEqDiff, S1, h4], by simp -implicitDefEqProofs only [op, ef, cl, sq, reduceIte, Int.reduceLT, Int.reduceLE, Int.reduceBEq, Int.reduceBNe, Int.reduceEq, Nat.reduceAdd, Nat.reduceLeDiff, Nat.reduceLT, Nat.reduceEqDiff, S1, h10], by simp -implicitDefEqProofs only [op, ef, cl, sq, reduceIte, Int.reduceLT, Int.reduceLE, Int.reduceBEq, Int.reduceBNe, Int.reduceEq, Nat.reduceAdd, Nat.reduceLeDiff, Nat.reduceLT, Nat.reduceEqDiff, S1, h11], by simp -implicitDefEqProofs only [op, ef, cl, sq, reduceIte, Int.reduceLT, Int.reduceLE, Int.reduceBEq, Int.reduceBNe, Int.reduceEq, Nat.reduceAdd, Nat.reduceLeDiff, Nat.reduceLT, Nat.reduceEqDiff, S1, h12]⟩ ⟨di, hc, hn, rfl, hfr⟩
  | false =>
    simp -implicitDefEqProofs (maxSteps := 1000000) (disch := omega) only [op, ef, cl, sq, reduceIte, Int.reduceLT, Int.reduceLE, Int.reduceBEq, Int.reduceBNe, Int.reduceEq, Nat.reduceAdd, Nat.reduceLeDiff, Nat.reduceLT, Nat.reduceEqDiff, S1, h0, h1, h2, h3, h4, h10, h11, h12]
    refine callB_of _ _ _ _ _ _ _ _ (break77 c n di a b _ hn hc hb hab hs) ?_
    rintro u H2 ⟨hu, d2, hd2, hs2, e2, hf2⟩
    cases hu
    simp -implicitDefEqProofs (maxSteps := 1000000) (disch := omega) only [natOf_nat, iadm, ldm1, ldm2, stm0, stm1, stm2, wA, wA1, wS, wS1, wM, S2, op, ef, cl, sq, reduceIte, Int.reduceLT, Int.reduceLE, Int.reduceBEq, Int.reduceBNe, Int.reduceEq, Nat.reduceAdd, Nat.reduceLeDiff, Nat.reduceLT, Nat.reduceEqDiff, S1, h0, h1, h2, h3, h4, h10, h11, h12]
    exact rest _ _ ⟨by simp -implicitDefEqProofs only [op, ef, cl, sq, reduceIte, Int.reduceLT, Int.reduceLE, Int.reduceBEq, Int.reduceBNe, Int.reduceEq, Nat.reduceAdd, Nat.reduceLeDiff, Nat.reduceLT, Nat.reduceEqDiff, S1, h0], by simp -implicitDefEqProofs only [op, ef, cl, sq, reduceIte, Int.reduceLT, Int.reduceLE, Int.reduceBEq, Int.reduceBNe, Int.reduceEq, Nat.reduceAdd, Nat.reduceLeDiff, Nat.reduceLT, Nat.reduceEqDiff, S1, h1], by simp -implicitDefEqProofs only [op, ef, cl, sq, reduceIte, Int.reduceLT, Int.reduceLE, Int.reduceBEq, Int.reduceBNe, Int.reduceEq, Nat.reduceAdd, Nat.reduceLeDiff, Nat.reduceLT, Nat.reduceEqDiff, S1, h2], by simp -implicitDefEqProofs only [op, ef, cl, sq, reduceIte, Int.reduceLT, Int.reduceLE, Int.reduceBEq, Int.reduceBNe, Int.reduceEq, Nat.reduceAdd, Nat.reduceLeDiff, Nat.reduceLT, Nat.reduceEqDiff, S1], by simp -implicitDefEqProofs only [op, ef, cl, sq, reduceIte, Int.reduceLT, Int.reduceLE, Int.reduceBEq, Int.reduceBNe, Int.reduceEq, Nat.reduceAdd, Nat.reduceLeDiff, Nat.reduceLT, Nat.reduceEqDiff, S1, h4], by simp -implicitDefEqProofs only [op, ef, cl, sq, reduceIte, Int.reduceLT, Int.reduceLE, Int.reduceBEq, Int.reduceBNe, Int.reduceEq, Nat.reduceAdd, Nat.reduceLeDiff, Nat.reduceLT, Nat.reduceEqDiff, S1, h10], by simp -implicitDefEqProofs only [op, ef, cl, sq, reduceIte, Int.reduceLT, Int.reduceLE, Int.reduceBEq, Int.reduceBNe, Int.reduceEq, Nat.reduceAdd, Nat.reduceLeDiff, Nat.reduceLT, Nat.reduceEqDiff, S1, h11], by simp -implicitDefEqProofs only [op, ef, cl, sq, reduceIte, Int.reduceLT, Int.reduceLE, Int.reduceBEq, Int.reduceBNe, Int.reduceEq, Nat.reduceAdd, Nat.reduceLeDiff, Nat.reduceLT, Nat.reduceEqDiff, S1, h12]⟩ ⟨d2, hd2, hs2, e2, hfr.trans hf2 fun _ h => .inl h⟩
open Go.Sort in
theorem seg5 (A : C) (hA : (bkOf ir64.body 1).map (seqN · 5) = some A) (c n a b lim : Nat) (wb wp : Bool) (d : Array Nm) (pv : Nat) (hi : Hint) (R : Regs) (H0 H : Heap) (K : Out → Heap → Prop) (hp : PR R c n a b lim wb wp) (h13 : R 13 = .int .i64 pv) (h14 : R 14 = .int .i64 (hintN hi)) (hd : SC c n H0 (fun x => x = d) H) (hb : b ≤ n) (hab : a + 12 < b) (hs : n < 16777216) (hpv : a ≤ pv ∧ pv < b)
    (rest : ∀ R' H', PR R' c n a b lim wb wp → R' 13 = .int .i64 (if hi = .decreasing then (b - 1) - (pv - a) else pv : Nat) → R' 14 = .int .i64 (hintN (if hi = .decreasing then Hint.increasing else hi)) → SC c n H0 (fun x => x = if hi = .decreasing then reverseRange d a b else d) H' → K (.ex .normal R') H') : wpC env A R H K := by
  simp [ir64, bkOf, seqN, sq] at hA
  subst hA
  obtain ⟨h0, h1, h2, h3, h4, h10, h11, h12⟩ := hp
  obtain ⟨di, hc, hn, rfl, hfr⟩ := hd
  have e : ((hintN hi) == 2) = decide (hi = .decreasing) := by cases hi <;> decide
  by_cases hh : hi = .decreasing
  · rw [decide_eq_true hh] at e
    simp -implicitDefEqProofs (maxSteps := 1000000) (disch := omega) only [op, ef, cl, sq, reduceIte, Int.reduceLT, Int.reduceLE, Int.reduceBEq, Int.reduceBNe, Int.reduceEq, Nat.reduceAdd, Nat.reduceLeDiff, Nat.reduceLT, Nat.reduceEqDiff, S1, h0, h1, h2, h3, h4, h10, h11, h12, h13, h14, e]
    refine callB_of _ _ _ _ _ _ _ _ (rev79 c n di a b _ hn hc hb (by omega) (by omega)) ?_
    rintro u H2 ⟨hu, d2, hd2, hs2, e2, hf2⟩
    cases hu
    simp -implicitDefEqProofs (maxSteps := 1000000) (disch := omega) only [natOf_nat, iadm, ldm1, ldm2, stm0, stm1, stm2, wA, wA1, wS, wS1, wM, S2, op, ef, cl, sq, reduceIte, Int.reduceLT, Int.reduceLE, Int.reduceBEq, Int.reduceBNe, Int.reduceEq, Nat.reduceAdd, Nat.reduceLeDiff, Nat.reduceLT, Nat.reduceEqDiff, S1, h0, h1, h2, h3, h4, h10, h11, h12, h13, h14]
    refine rest _ _ ⟨?_, ?_, ?_, ?_, ?_, ?_, ?_, ?_⟩ ?_ ?_ ⟨d2, hd2, hs2, ?_, hfr.trans hf2 fun _ h => .inl h⟩
    all_goals simp -implicitDefEqProofs only [op, ef, cl, sq, reduceIte, Int.reduceLT, Int.reduceLE, Int.reduceBEq, Int.reduceBNe, Int.reduceEq, Nat.reduceAdd, Nat.reduceLeDiff, Nat.reduceLT, Nat.reduceEqDiff, S1, h0, h1, h2, h3, h4, h10, h11, h12, if_pos hh, hintN]
    exact e2
  · rw [decide_eq_false hh] at e
    simp -implicitDefEqProofs (maxSteps := 1000000) (disch := omega) only [op, ef, cl, sq, reduceIte, Int.reduceLT, Int.reduceLE, Int.reduceBEq, Int.reduceBNe, Int.reduceEq, Nat.reduceAdd, Nat.reduceLeDiff, Nat.reduceLT, Nat.reduceEqDiff, S1, h0, h1, h2, h3, h4, h10, h11, h12, h13, h14, e]
    refine rest _ _ ⟨?_, ?_, ?_, ?_, ?_, ?_, ?_, ?_⟩ ?_ ?_ ⟨di, hc, hn, ?_, hfr⟩
    all_goals simp -implicitDefEqProofs only [op, ef, cl, sq, reduceIte, Int.reduceLT, Int.reduceLE, Int.reduceBEq, Int.reduceBNe, Int.reduceEq, Nat.reduceAdd, Nat.reduceLeDiff, Nat.reduceLT, Nat.reduceEqDiff, S1, h0, h1, h2, h3, h4, h10, h11, h12, h13, h14, if_neg hh]
open Go.Sort in
theorem seg6 (A : C) (hA : (bkOf ir64.body 1).map (seqN · 6) = some A) (c n a b lim : Nat) (wb wp : Bool) (d : Array Nm) (pv : Nat) (hi : Hint) (R : Regs) (H0 H : Heap) (K : Out → Heap → Prop) (hp : PR R c n a b lim wb wp) (h13 : R 13 = .int .i64 pv) (h14 : R 14 = .int .i64 (hintN hi)) (hd : SC c n H0 (fun x => x = d) H) (hb : b ≤ n) (hab : a + 12 < b) (hs : n < 16777216)
    (pi : Array Nm × Bool) (hpi : pi = if (wb && wp && hi = .increasing) = true then partialInsertionSort ltM d a b else (d, false))
    (rest1 : ∀ R' H', pi.2 = true → SC c n H0 (fun x => x = pi.1) H' → K (.ex .ret R') H')
    (rest2 : ∀ R' H', pi.2 = false → PR R' c n a b lim wb wp → R' 13 = .int .i64 pv → SC c n H0 (fun x => x = pi.1) H' → K (.ex .normal R') H') : wpC env A R H K := by
  simp [ir64, bkOf, seqN, sq] at hA
  subst hA
  obtain ⟨h0, h1, h2, h3, h4, h10, h11, h12⟩ := hp
  obtain ⟨di, hc, hn, rfl, hfr⟩ := hd
  have e : ((hintN hi) == 1) = decide (hi = .increasing) := by cases hi <;> decide
  have no : (wb && wp && decide (hi = .increasing)) = false → ∀ R', PR R' c n a b lim wb wp → R' 13 = .int .i64 pv → K (.ex .normal R') H := fun h R' q q' => rest2 R' H (by rw [hpi, h]; rfl) q q' ⟨di, hc, hn, by rw [hpi, h]; rfl, hfr⟩
  cases wb with
  | false =>
    simp -implicitDefEqProofs only [op, ef, cl, sq, reduceIte, Int.reduceLT, Int.reduceLE, Int.reduceBEq, Int.reduceBNe, Int.reduceEq, Nat.reduceAdd, Nat.reduceLeDiff, Nat.reduceLT, Nat.reduceEqDiff, S1, h0, h1, h2, h3, h4, h10, h11, h12, h13, h14]
    refine no rfl _ ⟨?_, ?_, ?_, ?_, ?_, ?_, ?_, ?_⟩ ?_
    all_goals simp -implicitDefEqProofs only [op, ef, cl, sq, reduceIte, Int.reduceLT, Int.reduceLE, Int.reduceBEq, Int.reduceBNe, Int.reduceEq, Nat.reduceAdd, Nat.reduceLeDiff, Nat.reduceLT, Nat.reduceEqDiff, S1, h0, h1, h2, h3, h4, h10, h11, h12, h13]
  | true =>
    cases wp with
    | false =>
      simp -implicitDefEqProofs only [op, ef, cl, sq, reduceIte, Int.reduceLT, Int.reduceLE, Int.reduceBEq, Int.reduceBNe, Int.reduceEq, Nat.reduceAdd, Nat.reduceLeDiff, Nat.reduceLT, Nat.reduceEqDiff, S1, h0, h1, h2, h3, h4, h10, h11, h12, h13, h14]
      refine no rfl _ ⟨?_, ?_, ?_, ?_, ?_, ?_, ?_, ?_⟩ ?_
      all_goals simp -implicitDefEqProofs only [op, ef, cl, sq, reduceIte, Int.reduceLT, Int.reduceLE, Int.reduceBEq, Int.reduceBNe, Int.reduceEq, Nat.reduceAdd, Nat.reduceLeDiff, Nat.reduceLT, Nat.reduceEqDiff, S1, h0, h1, h2, h3, h4, h10, h11, h12, h13]
    | true =>
      by_cases hh : hi = .increasing
      · rw [decide_eq_true hh] at e
        rw [decide_eq_true hh] at hpi
        simp -implicitDefEqProofs only [op, ef, cl, sq, reduceIte, Int.reduceLT, Int.reduceLE, Int.reduceBEq, Int.reduceBNe, Int.reduceEq, Nat.reduceAdd, Nat.reduceLeDiff, Nat.reduceLT, Nat.reduceEqDiff, S1, h0, h1, h2, h3, h4, h10, h11, h12, h13, h14, e]
        refine callB_of _ _ _ _ _ _ _ _ (pins80 c n di a b _ hn hc hb (by omega) (by omega)) ?_
        rintro u H2 ⟨hu, d2, hd2, hs2, e2, hf2⟩
        cases hu
        rw [if_pos (show (true && true && true) = true from rfl)] at hpi
        rw [← hpi] at e2 ⊢
        cases hb2 : pi.2 with
        | true =>
          simp -implicitDefEqProofs only [op, ef, cl, sq, reduceIte, Int.reduceLT, Int.reduceLE, Int.reduceBEq, Int.reduceBNe, Int.reduceEq, Nat.reduceAdd, Nat.reduceLeDiff, Nat.reduceLT, Nat.reduceEqDiff, S1]
          exact rest1 _ _ hb2 ⟨d2, hd2, hs2, e2, hfr.trans hf2 fun _ h => .inl h⟩
        | false =>
          simp -implicitDefEqProofs only [op, ef, cl, sq, reduceIte, Int.reduceLT, Int.reduceLE, Int.reduceBEq, Int.reduceBNe, Int.reduceEq, Nat.reduceAdd, Nat.reduceLeDiff, Nat.reduceLT, Nat.reduceEqDiff, S1]
          refine rest2 _ _ hb2 ⟨?_, ?_, ?_, ?_, ?_, ?_, ?_, ?_⟩ ?_ ⟨d2, hd2, hs2, e2, hfr.trans hf2 fun _ h => .inl h⟩
          all_goals simp -implicitDefEqProofs only [op, ef, cl, sq, reduceIte, Int.reduceLT, Int.reduceLE, Int.reduceBEq, Int.reduceBNe, Int.reduceEq, Nat.reduceAdd, Nat.reduceLeDiff, Nat.reduceLT, Nat.reduceEqDiff, S1, h0, h1, h2, h3, h4, h10, h11, h12, h13]
      · rw [decide_eq_false hh] at e
        simp -implicitDefEqProofs only [op, ef, cl, sq, reduceIte, Int.reduceLT, Int.reduceLE, Int.reduceBEq, Int.reduceBNe, Int.reduceEq, Nat.reduceAdd, Nat.reduceLeDiff, Nat.reduceLT, Nat.reduceEqDiff, S1, h0, h1, h2, h3, h4, h10, h11, h12, h13, h14, e]
        refine no (by rw [decide_eq_false hh]; rfl) _ ⟨?_, ?_, ?_, ?_, ?_, ?_, ?_, ?_⟩ ?_
        all_goals simp -implicitDefEqProofs only [op, ef, cl, sq, reduceIte, Int.reduceLT, Int.reduceLE, Int.reduceBEq, Int.reduceBNe, Int.reduceEq, Nat.reduceAdd, Nat.reduceLeDiff, Nat.reduceLT, Nat.reduceEqDiff, S1, h0, h1, h2, h3, h4, h10, h11, h12, h13]
open Go.Sort in
theorem seg7 (A : C) (hA : (bkOf ir64.body 1).map (seqN · 7) = some A) (c n a b lim : Nat) (wb wp : Bool) (d : Array Nm) (pv : Nat) (R : Regs) (H0 H : Heap) (K : Out → Heap → Prop) (hp : PR R c n a b lim wb wp) (h13 : R 13 = .int .i64 pv) (hd : SC c n H0 (fun x => x = d) H) (hb : b ≤ n) (hab : a + 12 < b) (hs : n < 16777216) (hpv : a ≤ pv ∧ pv < b)
    (rest1 : ∀ R' H', (a > 0 && !ltM d[a - 1]! d[pv]!) = true → R' 0 = .msl c 0 n 2 → R' 1 = .int .i64 (partitionEqual ltM d a b pv).1 → R' 2 = .int .i64 b → R' 3 = .int .i64 lim → R' 4 = .fn 36 [] → R' 10 = .bool wb → R' 11 = .bool wp → SC c n H0 (fun x => x = (partitionEqual ltM d a b pv).2) H' → K (.ex (.exit 1) R') H')
    (rest2 : ∀ R' H', (a > 0 && !ltM d[a - 1]! d[pv]!) = false → PR R' c n a b lim wb wp → R' 13 = .int .i64 pv → SC c n H0 (fun x => x = d) H' → K (.ex .normal R') H') : wpC env A R H K := by
  simp [ir64, bkOf, seqN, sq] at hA
  subst hA
  obtain ⟨h0, h1, h2, h3, h4, h10, h11, h12⟩ := hp
  obtain ⟨di, hd, hn, rfl, hfr⟩ := hd
  have lc := glt hd
  by_cases ha : 0 < a
  · simp -implicitDefEqProofs (maxSteps := 1000000) (disch := omega) only [natOf_nat, iadm, ldm1, ldm2, stm0, stm1, stm2, wA, wA1, wS, wS1, wM, S2, op, ef, cl, sq, reduceIte, Int.reduceLT, Int.reduceLE, Int.reduceBEq, Int.reduceBNe, Int.reduceEq, Nat.reduceAdd, Nat.reduceLeDiff, Nat.reduceLT, Nat.reduceEqDiff, S1, h0, h1, h2, h3, h4, h10, h11, h12, h13, ha, hd, lc]
    refine b_vg _ _ _ _ _ _ _ (by simp -implicitDefEqProofs (maxSteps := 1000000) (disch := omega) only [natOf_nat, iadm, ldm1, ldm2, stm0, stm1, stm2, wA, wA1, wS, wS1, wM, S2, op, ef, cl, sq, reduceIte, Int.reduceLT, Int.reduceLE, Int.reduceBEq, Int.reduceBNe, Int.reduceEq, Nat.reduceAdd, Nat.reduceLeDiff, Nat.reduceLT, Nat.reduceEqDiff, S1, h0, h1, h2, h3, h4, h10, h11, h12, h13, ha, hd, lc]) ?_
    simp -implicitDefEqProofs (maxSteps := 1000000) (disch := omega) only [natOf_nat, iadm, ldm1, ldm2, stm0, stm1, stm2, wA, wA1, wS, wS1, wM, S2, op, ef, cl, sq, reduceIte, Int.reduceLT, Int.reduceLE, Int.reduceBEq, Int.reduceBNe, Int.reduceEq, Nat.reduceAdd, Nat.reduceLeDiff, Nat.reduceLT, Nat.reduceEqDiff, S1, callvB, h0, h1, h2, h3, h4, h10, h11, h12, h13, ha, hd, lc, List.append_nil]
    refine callB_of _ _ _ _ _ _ _ _ (byName36 di[a - 1]! di[pv]! _) ?_
    rintro u H3 ⟨hu, hx⟩
    cases hu
    have hx : Ext H H3 := hx
    have hd := hx.get hd
    have lc := glt hd
    have hfr := hfr.trans (ext_frm (F := fun _ => False) hx) (fun _ h => h.elim)
    have lt1 : ltM di[a - 1]! di[pv]! = decide (cmpM di[a - 1]! di[pv]! < 0) := rfl
    by_cases c1 : cmpM di[a - 1]! di[pv]! < 0
    · simp -implicitDefEqProofs (maxSteps := 1000000) (disch := omega) only [natOf_nat, iadm, ldm1, ldm2, stm0, stm1, stm2, wA, wA1, wS, wS1, wM, S2, op, ef, cl, sq, reduceIte, Int.reduceLT, Int.reduceLE, Int.reduceBEq, Int.reduceBNe, Int.reduceEq, Nat.reduceAdd, Nat.reduceLeDiff, Nat.reduceLT, Nat.reduceEqDiff, S1, h0, h1, h2, h3, h4, h10, h11, h12, h13, ha, hd, lc, c1]
      refine rest2 _ _ (by rw [lt1, dect c1]; simp) ⟨?_, ?_, ?_, ?_, ?_, ?_, ?_, ?_⟩ ?_ ⟨di, hd, hn, rfl, hfr⟩
      all_goals simp -implicitDefEqProofs only [op, ef, cl, sq, reduceIte, Int.reduceLT, Int.reduceLE, Int.reduceBEq, Int.reduceBNe, Int.reduceEq, Nat.reduceAdd, Nat.reduceLeDiff, Nat.reduceLT, Nat.reduceEqDiff, S1, h0, h1, h2, h3, h4, h10, h11, h12, h13]
    · simp -implicitDefEqProofs (maxSteps := 1000000) (disch := omega) only [natOf_nat, iadm, ldm1, ldm2, stm0, stm1, stm2, wA, wA1, wS, wS1, wM, S2, op, ef, cl, sq, reduceIte, Int.reduceLT, Int.reduceLE, Int.reduceBEq, Int.reduceBNe, Int.reduceEq, Nat.reduceAdd, Nat.reduceLeDiff, Nat.reduceLT, Nat.reduceEqDiff, S1, h0, h1, h2, h3, h4, h10, h11, h12, h13, ha, hd, lc, c1]
      refine callB_of _ _ _ _ _ _ _ _ (peq81 c n di a b pv _ hn hd hb (by omega) (by omega) (by omega)) ?_
      rintro u H4 ⟨hu, d2, hd2, hs2, e2, hf2⟩
      cases hu
      simp -implicitDefEqProofs only [op, ef, cl, sq, reduceIte, Int.reduceLT, Int.reduceLE, Int.reduceBEq, Int.reduceBNe, Int.reduceEq, Nat.reduceAdd, Nat.reduceLeDiff, Nat.reduceLT, Nat.reduceEqDiff, S1]
      refine rest1 _ _ (by rw [lt1, decf c1]; simp; exact ha) ?_ ?_ ?_ ?_ ?_ ?_ ?_ ⟨d2, hd2, hs2, e2, hfr.trans hf2 fun _ h => .inl h⟩
      all_goals simp -implicitDefEqProofs only [op, ef, cl, sq, reduceIte, Int.reduceLT, Int.reduceLE, Int.reduceBEq, Int.reduceBNe, Int.reduceEq, Nat.reduceAdd, Nat.reduceLeDiff, Nat.reduceLT, Nat.reduceEqDiff, S1, h0, h1, h2, h3, h4, h10, h11, h12, h13]
  · simp -implicitDefEqProofs only [op, ef, cl, sq, reduceIte, Int.reduceLT, Int.reduceLE, Int.reduceBEq, Int.reduceBNe, Int.reduceEq, Nat.reduceAdd, Nat.reduceLeDiff, Nat.reduceLT, Nat.reduceEqDiff, S1, h0, h1, h2, h3, h4, h10, h11, h12, h13, ha]
    refine rest2 _ _ (by rw [decide_eq_false ha]; rfl) ⟨?_, ?_, ?_, ?_, ?_, ?_, ?_, ?_⟩ ?_ ⟨di, hd, hn, rfl, hfr⟩
    all_goals simp -implicitDefEqProofs only [op, ef, cl, sq, reduceIte, Int.reduceLT, Int.reduceLE, Int.reduceBEq, Int.reduceBNe, Int.reduceEq, Nat.reduceAdd, Nat.reduceLeDiff, Nat.reduceLT, Nat.reduceEqDiff, S1, h0, h1, h2, h3, h4, h10, h11, h12, h13]
end Go.Proofs.Ytbkgokabcnogdaa.St
end

/-! text StoreXj -/
section
namespace Go.Proofs.Ytbkgokabcnogdaa.St
open Go.Rmp Go.Proofs.Ytbkgokabcnogdaa.Ir
set_option maxRecDepth 10000
set_option maxHeartbeats 8000000
def seqT : C → Nat → C
  | c, 0 => c
  | .seq _ b, k + 1 => seqT b k
  | c, _ => c
open Go.Sort in
theorem pdq_step {d d1 d2 : Array Nm} {a b lim lim1 pv : Nat} {wb wp : Bool} {cp : Nat × Hint} {hi : Hint} {pi : Array Nm × Bool} (h12 : ¬ b - a ≤ 12) (hl : ¬ lim = 0)
    (e1 : d1 = if (!wb) = true then breakPatterns d a b else d) (el : lim1 = if (!wb) = true then lim - 1 else lim) (ec : cp = choosePivot ltM d1 a b) (e2 : d2 = if cp.2 = .decreasing then reverseRange d1 a b else d1)
    (ep : pv = if cp.2 = .decreasing then (b - 1) - (cp.1 - a) else cp.1) (eh : hi = if cp.2 = .decreasing then .increasing else cp.2) (epi : pi = if (wb && wp && hi = .increasing) = true then partialInsertionSort ltM d2 a b else (d2, false)) :
    pdq ltM d a b lim wb wp = if pi.2 = true then pi.1 else if (a > 0 && !ltM pi.1[a - 1]! pi.1[pv]!) = true then (if a < (partitionEqual ltM pi.1 a b pv).1 ∧ (partitionEqual ltM pi.1 a b pv).1 ≤ b then pdq ltM (partitionEqual ltM pi.1 a b pv).2 (partitionEqual ltM pi.1 a b pv).1 b lim1 wb wp else (partitionEqual ltM pi.1 a b pv).2)
      else (if a ≤ (partition ltM pi.1 a b pv).1 ∧ (partition ltM pi.1 a b pv).1 < b then if (partition ltM pi.1 a b pv).1 - a < b - (partition ltM pi.1 a b pv).1 then pdq ltM (pdq ltM (partition ltM pi.1 a b pv).2.2 a (partition ltM pi.1 a b pv).1 lim1 true true) ((partition ltM pi.1 a b pv).1 + 1) b lim1 (decide ((partition ltM pi.1 a b pv).1 - a ≥ (b - a) / 8)) (partition ltM pi.1 a b pv).2.1
        else pdq ltM (pdq ltM (partition ltM pi.1 a b pv).2.2 ((partition ltM pi.1 a b pv).1 + 1) b lim1 true true) a (partition ltM pi.1 a b pv).1 lim1 (decide (b - (partition ltM pi.1 a b pv).1 ≥ (b - a) / 8)) (partition ltM pi.1 a b pv).2.1 else (partition ltM pi.1 a b pv).2.2) := by
  subst epi eh ep e2 ec el e1
  rw [pdq, if_neg h12, if_neg hl]
  rfl
open Go.Sort in
theorem peq_range (d : Array Nm) {a b pv : Nat} (h1 : a ≤ pv) (h2 : pv < b) (hb : b ≤ d.size) : a < (partitionEqual ltM d a b pv).1 ∧ (partitionEqual ltM d a b pv).1 ≤ b := by
  have := partEqLoop_spec (lt := ltM) a b b (a + 1) (b - 1) (swp d a pv) (by omega) (by omega) (by omega) (by omega) (by rw [swp_size]; exact hb) (fun t h h' => by omega) (fun t h h' => by omega)
  exact ⟨this.1, this.2.1⟩
theorem seg0 (A : C) (hA : (bkOf ir64.body 1).map (seqN · 0) = some A) (c n a b lim : Nat) (wb wp : Bool) (R : Regs) (H : Heap) (K : Out → Heap → Prop) (h0 : R 0 = .msl c 0 n 2) (h1 : R 1 = .int .i64 a) (h2 : R 2 = .int .i64 b) (h3 : R 3 = .int .i64 lim) (h4 : R 4 = .fn 36 []) (h10 : R 10 = .bool wb) (h11 : R 11 = .bool wp) (hab : a ≤ b) (hb : b < 16777216)
    (rest : ∀ R', PR R' c n a b lim wb wp → K (.ex .normal R') H) : wpC env A R H K := by
  simp [ir64, bkOf, seqN, sq] at hA
  subst hA
  simp -implicitDefEqProofs (maxSteps := 1000000) (disch := omega) only [natOf_nat, iadm, ldm1, ldm2, stm0, stm1, stm2, wA, wA1, wS, wS1, wM, S2, op, ef, cl, sq, reduceIte, Int.reduceLT, Int.reduceLE, Int.reduceBEq, Int.reduceBNe, Int.reduceEq, Nat.reduceAdd, Nat.reduceLeDiff, Nat.reduceLT, Nat.reduceEqDiff, S1, h0, h1, h2, h3, h4, h10, h11]
  refine rest _ ⟨?_, ?_, ?_, ?_, ?_, ?_, ?_, ?_⟩
  all_goals simp -implicitDefEqProofs only [op, ef, cl, sq, reduceIte, Int.reduceLT, Int.reduceLE, Int.reduceBEq, Int.reduceBNe, Int.reduceEq, Nat.reduceAdd, Nat.reduceLeDiff, Nat.reduceLT, Nat.reduceEqDiff, S1, h0, h1, h2, h3, h4, h10, h11]
open Go.Sort in
theorem seg1 (A : C) (hA : (bkOf ir64.body 1).map (seqN · 1) = some A) (c n a b lim : Nat) (wb wp : Bool) (d : Array Nm) (R : Regs) (H0 H : Heap) (K : Out → Heap → Prop) (hp : PR R c n a b lim wb wp) (hd : SC c n H0 (fun x => x = d) H) (hb : b ≤ n) (hab : a ≤ b) (hs : n < 16777216)
    (rest1 : ∀ R' H', b - a ≤ 12 → SC c n H0 (fun x => x = insertionSort ltM d a b) H' → K (.ex .ret R') H')
    (rest2 : ∀ R', ¬ b - a ≤ 12 → PR R' c n a b lim wb wp → K (.ex .normal R') H) : wpC env A R H K := by
  simp [ir64, bkOf, seqN, sq] at hA
  subst hA
  obtain ⟨h0, h1, h2, h3, h4, h10, h11, h12⟩ := hp
  obtain ⟨di, hc, hn, rfl, hfr⟩ := hd
  by_cases hle : b - a ≤ 12
  · simp -implicitDefEqProofs only [op, ef, cl, sq, reduceIte, Int.reduceLT, Int.reduceLE, Int.reduceBEq, Int.reduceBNe, Int.reduceEq, Nat.reduceAdd, Nat.reduceLeDiff, Nat.reduceLT, Nat.reduceEqDiff, S1, h0, h1, h2, h3, h4, h10, h11, h12, hle]
    have hi := ins75 c di a b H hc (by omega) hab (by omega)
    rw [hn] at hi
    refine callB_of _ _ _ _ _ _ _ _ hi ?_
    rintro u H2 ⟨hu, hd2, hf2⟩
    cases hu
    simp -implicitDefEqProofs only [op, ef, cl, sq, reduceIte, Int.reduceLT, Int.reduceLE, Int.reduceBEq, Int.reduceBNe, Int.reduceEq, Nat.reduceAdd, Nat.reduceLeDiff, Nat.reduceLT, Nat.reduceEqDiff, S1]
    exact rest1 _ _ hle ⟨_, hd2, by rw [(insertionSort_holds ltM_swo di a b hab (by omega)).1.1]; exact hn, rfl, hfr.trans hf2 fun _ h => .inl h⟩
  · simp -implicitDefEqProofs only [op, ef, cl, sq, reduceIte, Int.reduceLT, Int.reduceLE, Int.reduceBEq, Int.reduceBNe, Int.reduceEq, Nat.reduceAdd, Nat.reduceLeDiff, Nat.reduceLT, Nat.reduceEqDiff, S1, h0, h1, h2, h3, h4, h10, h11, h12, hle]
    refine rest2 _ hle ⟨?_, ?_, ?_, ?_, ?_, ?_, ?_, ?_⟩
    all_goals simp -implicitDefEqProofs only [op, ef, cl, sq, reduceIte, Int.reduceLT, Int.reduceLE, Int.reduceBEq, Int.reduceBNe, Int.reduceEq, Nat.reduceAdd, Nat.reduceLeDiff, Nat.reduceLT, Nat.reduceEqDiff, S1, h0, h1, h2, h3, h4, h10, h11, h12]
open Go.Sort in
theorem seg2 (A : C) (hA : (bkOf ir64.body 1).map (seqN · 2) = some A) (c n a b lim : Nat) (wb wp : Bool) (d : Array Nm) (R : Regs) (H0 H : Heap) (K : Out → Heap → Prop) (hp : PR R c n a b lim wb wp) (hd : SC c n H0 (fun x => x = d) H) (hb : b ≤ n) (hab : a + 12 < b) (hs : n < 16777216)
    (rest1 : ∀ R' H', lim = 0 → SC c n H0 (fun x => x = heapSort ltM d a b) H' → K (.ex .ret R') H')
    (rest2 : ∀ R', ¬ lim = 0 → PR R' c n a b lim wb wp → K (.ex .normal R') H) : wpC env A R H K := by
  simp [ir64, bkOf, seqN, sq] at hA
  subst hA
  obtain ⟨h0, h1, h2, h3, h4, h10, h11, h12⟩ := hp
  obtain ⟨di, hc, hn, rfl, hfr⟩ := hd
  by_cases hl : lim = 0
  · subst hl
    have e : (((0 : Nat) : Int) == 0) = true := rfl
    simp -implicitDefEqProofs only [op, ef, cl, sq, reduceIte, Int.reduceLT, Int.reduceLE, Int.reduceBEq, Int.reduceBNe, Int.reduceEq, Nat.reduceAdd, Nat.reduceLeDiff, Nat.reduceLT, Nat.reduceEqDiff, S1, h0, h1, h2, h3, h4, h10, h11, h12, e]
    refine callB_of _ _ _ _ _ _ _ _ (heap76 c n di a b _ hn hc hb (by omega) (by omega)) ?_
    rintro u H2 ⟨hu, d2, hd2, hs2, e2, hf2⟩
    cases hu
    simp -implicitDefEqProofs only [op, ef, cl, sq, reduceIte, Int.reduceLT, Int.reduceLE, Int.reduceBEq, Int.reduceBNe, Int.reduceEq, Nat.reduceAdd, Nat.reduceLeDiff, Nat.reduceLT, Nat.reduceEqDiff, S1]
    exact rest1 _ _ rfl ⟨_, hd2, hs2, e2, hfr.trans hf2 fun _ h => .inl h⟩
  · have e : ((lim : Int) == 0) = false := by simp; omega
    simp -implicitDefEqProofs only [op, ef, cl, sq, reduceIte, Int.reduceLT, Int.reduceLE, Int.reduceBEq, Int.reduceBNe, Int.reduceEq, Nat.reduceAdd, Nat.reduceLeDiff, Nat.reduceLT, Nat.reduceEqDiff, S1, h0, h1, h2, h3, h4, h10, h11, h12, e]
    refine rest2 _ hl ⟨?_, ?_, ?_, ?_, ?_, ?_, ?_, ?_⟩
    all_goals simp -implicitDefEqProofs only [op, ef, cl, sq, reduceIte, Int.reduceLT, Int.reduceLE, Int.reduceBEq, Int.reduceBNe, Int.reduceEq, Nat.reduceAdd, Nat.reduceLeDiff, Nat.reduceLT, Nat.reduceEqDiff, S1, h0, h1, h2, h3, h4, h10, h11, h12]
open Go.Sort in
theorem seg4 (A : C) (hA : (bkOf ir64.body 1).map (seqN · 4) = some A) (c n a b lim : Nat) (wb wp : Bool) (d : Array Nm) (R : Regs) (H0 H : Heap) (K : Out → Heap → Prop) (hp : PR R c n a b lim wb wp) (hd : SC c n H0 (fun x => x = d) H) (hb : b ≤ n) (hab : a + 12 < b) (hs : n < 16777216)
    (rest : ∀ R' H', PR R' c n a b lim wb wp → R' 13 = .int .i64 (choosePivot ltM d a b).1 → R' 14 = .int .i64 (hintN (choosePivot ltM d a b).2) → SC c n H0 (fun x => x = d) H' → K (.ex .normal R') H') : wpC env A R H K := by
  simp [ir64, bkOf, seqN, sq] at hA
  subst hA
  obtain ⟨h0, h1, h2, h3, h4, h10, h11, h12⟩ := hp
  obtain ⟨di, hc, hn, rfl, hfr⟩ := hd
  simp -implicitDefEqProofs only [op, ef, cl, sq, reduceIte, Int.reduceLT, Int.reduceLE, Int.reduceBEq, Int.reduceBNe, Int.reduceEq, Nat.reduceAdd, Nat.reduceLeDiff, Nat.reduceLT, Nat.reduceEqDiff, S1, h0, h1, h2, h3, h4, h10, h11, h12]
  refine callB_of _ _ _ _ _ _ _ _ (choose78 c n di a b _ hn hc hb hab (by omega)) ?_
  rintro u H2 ⟨hu, hx⟩
  cases hu
  simp -implicitDefEqProofs only [op, ef, cl, sq, reduceIte, Int.reduceLT, Int.reduceLE, Int.reduceBEq, Int.reduceBNe, Int.reduceEq, Nat.reduceAdd, Nat.reduceLeDiff, Nat.reduceLT, Nat.reduceEqDiff, S1]
  refine rest _ _ ⟨?_, ?_, ?_, ?_, ?_, ?_, ?_, ?_⟩ ?_ ?_ ⟨di, hx.get hc, hn, rfl, hfr.trans (ext_frm (F := fun _ => False) hx) (fun _ h => h.elim)⟩
  all_goals simp -implicitDefEqProofs only [op, ef, cl, sq, reduceIte, Int.reduceLT, Int.reduceLE, Int.reduceBEq, Int.reduceBNe, Int.reduceEq, Nat.reduceAdd, Nat.reduceLeDiff, Nat.reduceLT, Nat.reduceEqDiff, S1, h0, h1, h2, h3, h4, h10, h11, h12]
theorem wQ8 {a : Nat} (h : a < 9223372036854775808) : IntKind.i64.wrap ((a : Int).tdiv 8) = ((a / 8 : Nat) : Int) := by rw [Int.tdiv_eq_ediv_of_nonneg (by omega), wrap64 (by omega)]; omega
open Go.Sort in
theorem seg8 (A : C) (hA : (bkOf ir64.body 1).map (seqT · 8) = some A) (c n a b lim : Nat) (wb wp : Bool) (d : Array Nm) (pv : Nat) (R : Regs) (H0 H : Heap) (K : Out → Heap → Prop) (hp : PR R c n a b lim wb wp) (h13 : R 13 = .int .i64 pv) (hd : SC c n H0 (fun x => x = d) H) (hb : b ≤ n) (hab : a + 12 < b) (hs : n < 16777216) (hpv : a ≤ pv ∧ pv < b)
    (ih : ∀ a' b' (d' : Array Nm) H', b' - a' < b - a → a' ≤ b' → b' ≤ n → d'.size = n → H'[c]? = some (.cells (msC eN d'.toList)) → W env (.call 64 [.msl c 0 n 2, .int .i64 a', .int .i64 b', .int .i64 lim, .fn 36 []]) H' (SrtN c n (pdq ltM d' a' b' lim true true) H'))
    (rest : ∀ R' H' a' b' (d' : Array Nm) (wb' : Bool), a ≤ a' → a' ≤ b' → b' ≤ b → b' - a' < b - a → R' 0 = .msl c 0 n 2 → R' 1 = .int .i64 (a' : Nat) → R' 2 = .int .i64 (b' : Nat) → R' 3 = .int .i64 lim → R' 4 = .fn 36 [] → R' 10 = .bool wb' → R' 11 = .bool (partition ltM d a b pv).2.1 →
      pdq ltM d' a' b' lim wb' (partition ltM d a b pv).2.1 = (if (partition ltM d a b pv).1 - a < b - (partition ltM d a b pv).1 then pdq ltM (pdq ltM (partition ltM d a b pv).2.2 a (partition ltM d a b pv).1 lim true true) ((partition ltM d a b pv).1 + 1) b lim (decide ((partition ltM d a b pv).1 - a ≥ (b - a) / 8)) (partition ltM d a b pv).2.1
        else pdq ltM (pdq ltM (partition ltM d a b pv).2.2 ((partition ltM d a b pv).1 + 1) b lim true true) a (partition ltM d a b pv).1 lim (decide (b - (partition ltM d a b pv).1 ≥ (b - a) / 8)) (partition ltM d a b pv).2.1) →
      SC c n H0 (fun x => x = d') H' → K (.ex .normal R') H') : wpC env A R H K := by
  simp [ir64, bkOf, seqT, sq] at hA
  subst hA
  obtain ⟨h0, h1, h2, h3, h4, h10, h11, h12⟩ := hp
  obtain ⟨di, hc, hn, rfl, hfr⟩ := hd
  have hrg := partition_holds ltM ltM_swo di a b pv hpv.1 hpv.2 (by omega)
  simp -implicitDefEqProofs only [op, ef, cl, sq, reduceIte, Int.reduceLT, Int.reduceLE, Int.reduceBEq, Int.reduceBNe, Int.reduceEq, Nat.reduceAdd, Nat.reduceLeDiff, Nat.reduceLT, Nat.reduceEqDiff, S1, h0, h1, h2, h3, h4, h10, h11, h12, h13]
  refine callB_of _ _ _ _ _ _ _ _ (part82 c n di a b pv _ hn hc hb (by omega) (by omega) (by omega)) ?_
  rintro u H2 ⟨hu, d2, hd2, hs2, e2, hf2⟩
  cases hu
  generalize partition ltM di a b pv = r at *
  obtain ⟨mid, ap, d4⟩ := r
  simp only at hrg e2 rest ⊢
  subst e2
  obtain ⟨m1, m2, _⟩ := hrg
  have hfr2 := hfr.trans hf2 fun _ h => .inl h
  by_cases hlt : mid - a < b - mid
  · rw [if_pos hlt] at rest
    simp -implicitDefEqProofs (maxSteps := 1000000) (disch := omega) only [natOf_nat, iadm, ldm1, ldm2, stm0, stm1, stm2, wA, wA1, wS, wS1, wM, S2, op, ef, cl, sq, reduceIte, Int.reduceLT, Int.reduceLE, Int.reduceBEq, Int.reduceBNe, Int.reduceEq, Nat.reduceAdd, Nat.reduceLeDiff, Nat.reduceLT, Nat.reduceEqDiff, S1, wQ8, h0, h1, h2, h3, h4, h10, h11, h12, h13, hlt]
    refine callB_of _ _ _ _ _ _ _ _ (ih a mid d2 _ (by omega) m1 (by omega) hs2 hd2) ?_
    rintro u H3 ⟨hu, d3, hd3, hs3, e3, hf3⟩
    cases hu
    simp -implicitDefEqProofs (maxSteps := 1000000) (disch := omega) only [natOf_nat, iadm, ldm1, ldm2, stm0, stm1, stm2, wA, wA1, wS, wS1, wM, S2, op, ef, cl, sq, reduceIte, Int.reduceLT, Int.reduceLE, Int.reduceBEq, Int.reduceBNe, Int.reduceEq, Nat.reduceAdd, Nat.reduceLeDiff, Nat.reduceLT, Nat.reduceEqDiff, S1, h0, h1, h2, h3, h4, h10, h11, h12, h13]
    refine rest _ _ (mid + 1) b d3 (decide ((b - a) / 8 ≤ mid - a)) (by omega) (by omega) (Nat.le_refl _) (by omega) ?_ ?_ ?_ ?_ ?_ ?_ ?_ (by rw [e3]) ⟨d3, hd3, hs3, rfl, hfr2.trans hf3 fun _ h => .inl h⟩
    all_goals simp -implicitDefEqProofs only [op, ef, cl, sq, reduceIte, Int.reduceLT, Int.reduceLE, Int.reduceBEq, Int.reduceBNe, Int.reduceEq, Nat.reduceAdd, Nat.reduceLeDiff, Nat.reduceLT, Nat.reduceEqDiff, S1, h0, h1, h2, h3, h4, h10, h11, h12]
  · rw [if_neg hlt] at rest
    simp -implicitDefEqProofs (maxSteps := 1000000) (disch := omega) only [natOf_nat, iadm, ldm1, ldm2, stm0, stm1, stm2, wA, wA1, wS, wS1, wM, S2, op, ef, cl, sq, reduceIte, Int.reduceLT, Int.reduceLE, Int.reduceBEq, Int.reduceBNe, Int.reduceEq, Nat.reduceAdd, Nat.reduceLeDiff, Nat.reduceLT, Nat.reduceEqDiff, S1, wQ8, h0, h1, h2, h3, h4, h10, h11, h12, h13, hlt]
    refine callB_of _ _ _ _ _ _ _ _ (ih (mid + 1) b d2 _ (by omega) m2 (by omega) hs2 hd2) ?_
    rintro u H3 ⟨hu, d3, hd3, hs3, e3, hf3⟩
    cases hu
    simp -implicitDefEqProofs (maxSteps := 1000000) (disch := omega) only [natOf_nat, iadm, ldm1, ldm2, stm0, stm1, stm2, wA, wA1, wS, wS1, wM, S2, op, ef, cl, sq, reduceIte, Int.reduceLT, Int.reduceLE, Int.reduceBEq, Int.reduceBNe, Int.reduceEq, Nat.reduceAdd, Nat.reduceLeDiff, Nat.reduceLT, Nat.reduceEqDiff, S1, h0, h1, h2, h3, h4, h10, h11, h12, h13]
    refine rest _ _ a mid d3 (decide ((b - a) / 8 ≤ b - mid)) (by omega) (by omega) (by omega) (by omega) ?_ ?_ ?_ ?_ ?_ ?_ ?_ (by rw [e3]) ⟨d3, hd3, hs3, rfl, hfr2.trans hf3 fun _ h => .inl h⟩
    all_goals simp -implicitDefEqProofs only [op, ef, cl, sq, reduceIte, Int.reduceLT, Int.reduceLE, Int.reduceBEq, Int.reduceBNe, Int.reduceEq, Nat.reduceAdd, Nat.reduceLeDiff, Nat.reduceLT, Nat.reduceEqDiff, S1, h0, h1, h2, h3, h4, h10, h11, h12]
end Go.Proofs.Ytbkgokabcnogdaa.St
end

/-! text StoreXk -/
section
namespace Go.Proofs.Ytbkgokabcnogdaa.St
open Go.Rmp Go.Proofs.Ytbkgokabcnogdaa.Ir
set_option maxRecDepth 10000
set_option maxHeartbeats 8000000
open Go.Sort in
theorem pdq64 (c n : Nat) (hs : n < 16777216) : ∀ m a b lim (d : Array Nm) H, b - a = m → a ≤ b → b ≤ n → lim < 1000 → d.size = n → H[c]? = some (.cells (msC eN d.toList)) →
    W env (.call 64 [.msl c 0 n 2, .int .i64 (a : Nat), .int .i64 (b : Nat), .int .i64 (lim : Nat), .fn 36 []]) H (SrtN c n (pdq ltM d a b lim true true) H) := by
  intro m
  induction m using Nat.strongRecOn with
  | _ m ih =>
  intro a b lim d H hm hab hb hlim hn hc
  subst hm
  refine W.fnI rfl rfl rfl ?_
  simp -implicitDefEqProofs only [ir64, op, ef, cl, sq, reduceIte, Int.reduceLT, Int.reduceLE, Int.reduceBEq, Int.reduceBNe, Int.reduceEq, Nat.reduceAdd, Nat.reduceLeDiff, Nat.reduceLT, Nat.reduceEqDiff, S1]
  refine W.loopI (fun (q : Nat × Nat × Nat × Bool × Bool) R H' => At H' (fun H' => SC c n H (fun di => pdq ltM di q.1 q.2.1 q.2.2.1 q.2.2.2.1 q.2.2.2.2 = pdq ltM d a b lim true true) H') ∧ R 0 = .msl c 0 n 2 ∧ R 1 = .int .i64 q.1 ∧ R 2 = .int .i64 q.2.1 ∧ R 3 = .int .i64 q.2.2.1 ∧ R 4 = .fn 36 [] ∧ R 10 = .bool q.2.2.2.1 ∧ R 11 = .bool q.2.2.2.2 ∧ a ≤ q.1 ∧ q.1 ≤ q.2.1 ∧ q.2.1 ≤ b ∧ q.2.2.1 ≤ lim) (fun q => q.2.1 - q.1) (a, b, lim, true, true) ⟨.i ⟨d, hc, hn, rfl, Frm.refl _ _⟩, rfl, rfl, rfl, rfl, rfl, rfl, rfl, Nat.le_refl _, hab, Nat.le_refl _, Nat.le_refl _⟩ ?_
  rintro ⟨a1, b1, l1, wb, wp⟩ R H1 ⟨⟨di, hd, hsz, hP, hfr⟩, h0, h1, h2, h3, h4, h10, h11, q1, q2, q3, q4⟩
  simp only at hP h1 h2 h3 h10 h11 q1 q2 q3 q4 ⊢
  rw [c_block, c_seq]
  refine seg0 _ rfl c n a1 b1 l1 wb wp R H1 _ h0 h1 h2 h3 h4 h10 h11 q2 (by omega) ?_
  intro R1 p1
  rw [then_n, cont_ap, c_seq]
  refine seg1 _ rfl c n a1 b1 l1 wb wp di R1 H H1 _ p1 ⟨di, hd, hsz, rfl, hfr⟩ (by omega) q2 hs ?_ ?_
  · rintro R' H' hle ⟨d', hd', hs', rfl, hf'⟩
    rw [pdq, if_pos hle] at hP
    simp -implicitDefEqProofs only [op, ef, cl, sq, reduceIte, Int.reduceLT, Int.reduceLE, Int.reduceBEq, Int.reduceBNe, Int.reduceEq, Nat.reduceAdd, Nat.reduceLeDiff, Nat.reduceLT, Nat.reduceEqDiff, S1]
    exact ⟨rfl, _, hd', hs', hP, hf'⟩
  intro R2 h12 p2
  rw [then_n, cont_ap, c_seq]
  refine seg2 _ rfl c n a1 b1 l1 wb wp di R2 H H1 _ p2 ⟨di, hd, hsz, rfl, hfr⟩ (by omega) (by omega) hs ?_ ?_
  · rintro R' H' hl0 ⟨d', hd', hs', rfl, hf'⟩
    rw [pdq, if_neg h12, if_pos hl0] at hP
    simp -implicitDefEqProofs only [op, ef, cl, sq, reduceIte, Int.reduceLT, Int.reduceLE, Int.reduceBEq, Int.reduceBNe, Int.reduceEq, Nat.reduceAdd, Nat.reduceLeDiff, Nat.reduceLT, Nat.reduceEqDiff, S1]
    exact ⟨rfl, _, hd', hs', hP, hf'⟩
  intro R3 hl0 p3
  rw [then_n, cont_ap, c_seq]
  refine seg3 _ rfl c n a1 b1 l1 wb wp di R3 H H1 _ p3 ⟨di, hd, hsz, rfl, hfr⟩ (by omega) (by omega) hs (by omega) ?_
  rintro R4 H4 p4 ⟨d1, hd4, hs4, e1, hf4⟩
  obtain ⟨lim1, el⟩ : ∃ l, l = if (!wb) = true then l1 - 1 else l1 := ⟨_, rfl⟩
  have hll : lim1 ≤ l1 := by rw [el]; split <;> omega
  rw [← el] at p4
  rw [then_n, cont_ap, c_seq]
  refine seg4 _ rfl c n a1 b1 lim1 wb wp d1 R4 H H4 _ p4 ⟨d1, hd4, hs4, rfl, hf4⟩ (by omega) (by omega) hs ?_
  rintro R5 H5 p5 h13 h14 ⟨d1', hd5, hs5, e1', hf5⟩
  subst e1'
  have hcr := choosePivot_holds ltM d1' a1 b1 (by omega)
  obtain ⟨cp, ec⟩ : ∃ x, x = choosePivot ltM d1' a1 b1 := ⟨_, rfl⟩
  rw [← ec] at h13 h14 hcr
  rw [then_n, cont_ap, c_seq]
  refine seg5 _ rfl c n a1 b1 lim1 wb wp d1' cp.1 cp.2 R5 H H5 _ p5 h13 h14 ⟨d1', hd5, hs5, rfl, hf5⟩ (by omega) (by omega) hs hcr ?_
  rintro R6 H6 p6 h13 h14 ⟨d2, hd6, hs6, e2, hf6⟩
  obtain ⟨pv, ep⟩ : ∃ x, x = if cp.2 = .decreasing then (b1 - 1) - (cp.1 - a1) else cp.1 := ⟨_, rfl⟩
  obtain ⟨hi, eh⟩ : ∃ x, x = if cp.2 = .decreasing then Hint.increasing else cp.2 := ⟨_, rfl⟩
  rw [← ep] at h13
  rw [← eh] at h14
  have hpv : a1 ≤ pv ∧ pv < b1 := by rw [ep]; split <;> omega
  rw [then_n, cont_ap, c_seq]
  obtain ⟨pi, epi⟩ : ∃ x, x = if (wb && wp && hi = .increasing) = true then partialInsertionSort ltM d2 a1 b1 else (d2, false) := ⟨_, rfl⟩
  rw [pdq_step h12 hl0 e1 el ec e2 ep eh epi] at hP
  refine seg6 _ rfl c n a1 b1 lim1 wb wp d2 pv hi R6 H H6 _ p6 h13 h14 ⟨d2, hd6, hs6, rfl, hf6⟩ (by omega) (by omega) hs pi epi ?_ ?_
  · rintro R' H' hpt ⟨d', hd', hs', rfl, hf'⟩
    rw [if_pos hpt] at hP
    simp -implicitDefEqProofs only [op, ef, cl, sq, reduceIte, Int.reduceLT, Int.reduceLE, Int.reduceBEq, Int.reduceBNe, Int.reduceEq, Nat.reduceAdd, Nat.reduceLeDiff, Nat.reduceLT, Nat.reduceEqDiff, S1]
    exact ⟨rfl, _, hd', hs', hP, hf'⟩
  rintro R7 H7 hpf p7 h13 ⟨d3, hd7, hs7, e3, hf7⟩
  rw [if_neg (by rw [hpf]; simp), ← e3] at hP
  rw [then_n, cont_ap, c_seq]
  refine seg7 _ rfl c n a1 b1 lim1 wb wp d3 pv R7 H H7 _ p7 h13 ⟨d3, hd7, hs7, rfl, hf7⟩ (by omega) (by omega) hs hpv ?_ ?_
  · rintro R' H' hgt g0 g1 g2 g3 g4 g10 g11 ⟨d', hd', hs', e', hf'⟩
    have hr := peq_range d3 hpv.1 hpv.2 (by omega)
    rw [if_pos hgt, if_pos hr, ← e'] at hP
    simp -implicitDefEqProofs only [op, ef, cl, sq, reduceIte, Int.reduceLT, Int.reduceLE, Int.reduceBEq, Int.reduceBNe, Int.reduceEq, Nat.reduceAdd, Nat.reduceLeDiff, Nat.reduceLT, Nat.reduceEqDiff, S1]
    exact ⟨((partitionEqual ltM d3 a1 b1 pv).1, b1, lim1, wb, wp), by simp only; omega, .i ⟨_, hd', hs', hP, hf'⟩, g0, g1, g2, g3, g4, g10, g11, by simp only; omega, by simp only; omega, by simp only; omega, by simp only; omega⟩
  rintro R8 H8 hgt p8 h13 ⟨d3', hd8, hs8, e3', hf8⟩
  subst e3'
  have hr := partition_holds ltM ltM_swo d3' a1 b1 pv hpv.1 hpv.2 (by omega)
  rw [if_neg (by rw [hgt]; simp), if_pos ⟨hr.1, hr.2.1⟩] at hP
  rw [then_n, cont_ap]
  refine seg8 _ rfl c n a1 b1 lim1 wb wp d3' pv R8 H H8 _ p8 h13 ⟨d3', hd8, hs8, rfl, hf8⟩ (by omega) (by omega) hs hpv (fun a' b' d' H' hlt ha' hb' hs' hc' => ih _ (by omega) a' b' lim1 d' H' rfl ha' hb' (by omega) hs' hc') ?_
  rintro R' H' a' b' d' wb' ha' hab' hb' hlt g0 g1 g2 g3 g4 g10 g11 e' ⟨d'', hd', hs', rfl, hf'⟩
  simp -implicitDefEqProofs only [op, ef, cl, sq, reduceIte, Int.reduceLT, Int.reduceLE, Int.reduceBEq, Int.reduceBNe, Int.reduceEq, Nat.reduceAdd, Nat.reduceLeDiff, Nat.reduceLT, Nat.reduceEqDiff, S1]
  exact ⟨(a', b', lim1, wb', (partition ltM d3' a1 b1 pv).2.1), by simp only; omega, .i ⟨_, hd', hs', by simp only; rw [e']; exact hP, hf'⟩, g0, g1, g2, g3, g4, g10, g11, by simp only; omega, hab', by simp only; omega, by simp only; omega⟩
open Go.Sort in
theorem sortF49 (c : Nat) (d : Array Nm) (H : Heap) (hc : H[c]? = some (.cells (msC eN d.toList))) (hs : d.size < 16777216) :
    W env (.call 49 [.msl c 0 d.size 2, .fn 36 []]) H (SrtN c d.size (sort ltM d) H) := by
  refine W.fnI rfl rfl rfl ?_
  have w1 : IntKind.u64.wrap (d.size : Int) = (d.size : Int) := wrapu (by omega)
  simp -implicitDefEqProofs only [ir49, op, ef, cl, sq, reduceIte, Int.reduceLT, Int.reduceLE, Int.reduceBEq, Int.reduceBNe, Int.reduceEq, Nat.reduceAdd, Nat.reduceLeDiff, Nat.reduceLT, Nat.reduceEqDiff, S1, w1]
  refine callB_of _ _ _ _ _ _ _ _ (len65 d.size hs _) ?_
  rintro u H1 ⟨hu, rfl⟩
  cases hu
  have hb := bits_lt (n := d.size) (k := 24) hs
  simp -implicitDefEqProofs only [op, ef, cl, sq, reduceIte, Int.reduceLT, Int.reduceLE, Int.reduceBEq, Int.reduceBNe, Int.reduceEq, Nat.reduceAdd, Nat.reduceLeDiff, Nat.reduceLT, Nat.reduceEqDiff, S1]
  refine callB_of _ _ _ _ _ _ _ _ (pdq64 c d.size hs _ 0 d.size (bitsLen d.size) d _ rfl (Nat.zero_le _) (Nat.le_refl _) (by omega) rfl hc) ?_
  rintro u H2 ⟨hu, h2⟩
  cases hu
  simp -implicitDefEqProofs only [op, ef, cl, sq, reduceIte, Int.reduceLT, Int.reduceLE, Int.reduceBEq, Int.reduceBNe, Int.reduceEq, Nat.reduceAdd, Nat.reduceLeDiff, Nat.reduceLT, Nat.reduceEqDiff, S1]
  exact ⟨rfl, h2⟩
end Go.Proofs.Ytbkgokabcnogdaa.St
end

/-! text StoreQa -/
section
namespace Go.Proofs.Ytbkgokabcnogdaa.St
open Go.Rmp Go.Proofs.Ytbkgokabcnogdaa.Ir
set_option maxRecDepth 10000
theorem sorted_listF {d : Array Nm} (hn : d.toList.Nodup) : (Go.Sort.sort ltM d).toList.Perm d.toList ∧ (Go.Sort.sort ltM d).toList.Pairwise (fun a b => ltM a b = true) := by
  obtain ⟨⟨hs, _, hp⟩, hsort⟩ := Go.Sort.sort_sorts ltM ltM_swo d
  have e1 : (Go.Sort.sort ltM d).extract 0 d.size = Go.Sort.sort ltM d := by
    conv => lhs; arg 3; rw [← hs]
    simp
  have hperm : (Go.Sort.sort ltM d).toList.Perm d.toList := by
    rw [e1] at hp
    simpa using hp
  refine ⟨hperm, ?_⟩
  have hn2 : (Go.Sort.sort ltM d).toList.Nodup := hperm.nodup_iff.2 hn
  rw [List.pairwise_iff_getElem]
  intro i j hi hj hij
  have h1 := hsort i j (Nat.zero_le _) hij (by rw [← hs]; simpa using hj)
  have gi := arr_get (d := Go.Sort.sort ltM d) (i := i) (by simpa using hi)
  have gj := arr_get (d := Go.Sort.sort ltM d) (i := j) (by simpa using hj)
  rw [List.getElem?_eq_getElem hi] at gi
  rw [List.getElem?_eq_getElem hj] at gj
  rw [Option.some.inj gi, Option.some.inj gj]
  cases h : ltM (Go.Sort.sort ltM d)[i]! (Go.Sort.sort ltM d)[j]! with
  | true => rfl
  | false =>
    have e := ltM_tri h h1
    rw [← Option.some.inj gi, ← Option.some.inj gj] at e
    have := (List.getElem_inj hn2).1 e
    omega
/-! nothing to sort -/
theorem sortedF34 (es : List (Nm × T)) (c mb : Nat) (H : Heap) (hnd : (es.map (·.1)).Nodup) (hes : es.length ≤ 1000000) (hc : H[c]? = some (.cells [.map mb])) (hm : H[mb]? = some (.map (encK kN es))) :
    W env (.call 34 [.fn 50 [.ptr c 0], .fn 36 []]) H (SortQ es H) := by
  refine W.fnI rfl rfl rfl ?_
  simp -implicitDefEqProofs only [ir34, op, ef, cl, sq, reduceIte, Int.reduceLT, Int.reduceLE, Int.reduceBEq, Int.reduceBNe, Int.reduceEq, Nat.reduceAdd, Nat.reduceLeDiff, Nat.reduceLT, Nat.reduceEqDiff, S1]
  refine callB_of _ _ _ _ _ _ _ _ (coll48 es c mb H hnd (by omega) hc hm) ?_
  rintro u H1 ⟨hx, t, vis, hu, hmt, hri⟩
  cases hu
  have hperm : vis.Perm (es.map (·.1)) := (List.perm_ext_iff_of_nodup hri.nvis hnd).2 fun k => hri.end' k
  have hvl : vis.length = es.length := by have := hri.len; simpa using this
  rcases hmt with ⟨rfl, rfl⟩ | ⟨d, rfl, hd, hdn⟩
  · simp -implicitDefEqProofs only [op, ef, cl, sq, reduceIte, Int.reduceLT, Int.reduceLE, Int.reduceBEq, Int.reduceBNe, Int.reduceEq, Nat.reduceAdd, Nat.reduceLeDiff, Nat.reduceLT, Nat.reduceEqDiff, S1]
    refine callB_of _ _ _ _ _ _ _ _ (sortE _) ?_
    rintro u H2 ⟨hu, rfl⟩
    cases hu
    simp -implicitDefEqProofs only [op, ef, cl, sq, reduceIte, Int.reduceLT, Int.reduceLE, Int.reduceBEq, Int.reduceBNe, Int.reduceEq, Nat.reduceAdd, Nat.reduceLeDiff, Nat.reduceLT, Nat.reduceEqDiff, S1]
    exact ⟨hx, _, [], rfl, mut_nil _ _ _ _, hperm, List.Pairwise.nil⟩
  · simp -implicitDefEqProofs only [op, ef, cl, sq, reduceIte, Int.reduceLT, Int.reduceLE, Int.reduceBEq, Int.reduceBNe, Int.reduceEq, Nat.reduceAdd, Nat.reduceLeDiff, Nat.reduceLT, Nat.reduceEqDiff, S1]
    have := sortF49 d vis.toArray H1 (by simpa using hd) (by simpa using (by omega : vis.length < 16777216))
    simp -implicitDefEqProofs only [List.size_toArray] at this
    refine callB_of _ _ _ _ _ _ _ _ this ?_
    rintro u H2 ⟨hu, d2, h2, hsz2, rfl, hfr⟩
    cases hu
    simp -implicitDefEqProofs only [op, ef, cl, sq, reduceIte, Int.reduceLT, Int.reduceLE, Int.reduceBEq, Int.reduceBNe, Int.reduceEq, Nat.reduceAdd, Nat.reduceLeDiff, Nat.reduceLT, Nat.reduceEqDiff, S1]
    have hs := sorted_listF (d := vis.toArray) (by simpa using hri.nvis)
    simp -implicitDefEqProofs only [List.size_toArray] at hs
    refine ⟨ext_of fun a x hax => hfr.get (hx.get hax) (by have := glt hax; omega), _, _, rfl, .inr ⟨d, ?_, h2, hdn⟩, hs.1.trans hperm, hs.2⟩
    rw [hs.1.length_eq]
end Go.Proofs.Ytbkgokabcnogdaa.St
end

/-! text StoreR -/
section
namespace Go.Proofs.Ytbkgokabcnogdaa.St
open Go.Rmp Go.Proofs.Ytbkgokabcnogdaa.Ir
set_option maxRecDepth 10000
theorem mut_n {α : Type} {enc : α → List T} {n : Nat} (hn : ∀ x, (enc x).length = n) (h0 : n ≠ 0) {n0 : Nat} {H : Heap} {t : T} {l : List α} (hm : Mut enc n n0 H t l) {i : Nat} {x : α} (hx : l[i]? = some x) : ∃ b, H[b]? = some (.cells (msC enc l)) ∧ iadT n i t = some (.ptr b (i * n)) ∧ ldcB n (i * n) (some (.cells (msC enc l))) = some (enc x) := by
  have hi := (List.getElem?_eq_some_iff.1 hx).1
  rcases hm with ⟨rfl, _⟩ | ⟨b, rfl, hb, _⟩
  · simp at hi
  · refine ⟨b, hb, by rw [iad_m]; simp [hi, h0], ?_⟩
    have := msC_get hn hx 0 n (by omega)
    simp -implicitDefEqProofs only [Nat.add_zero, List.drop_zero] at this
    rw [this, List.take_of_length_le (by rw [hn]; omega)]
/-- a version as Kept tells it -/
def eK (x : Nm × Hd) : List T := [.str x.1.1, .int .u64 x.1.2, .str x.2.value, .sl .arg (x.2.keys.map eS), .int .i64 x.2.stamp]
def keptL (s : Sto) (l : List Nm) : List (Nm × Hd) := l.map fun n => (n, hdOf (mlook s.vs n))
def KeptQ (s : Sto) (H : Heap) : Out → Heap → Prop := fun o H' => Ext H H' ∧ ∃ k l, KOk k l ∧ o = .val (.sl k ((keptL s l).map eK)) ∧ l.Perm (s.vs.map (·.1)) ∧ l.Pairwise (fun a b => ltM a b = true)
theorem kept20 (b : Bk) (s : Sto) (F : Nat → Prop) (H : Heap) (hs : SH H b s F) (hi : SInv s) (hn : s.vs.length ≤ 1000000) : W env (.call 20 [.ptr b.s 0]) H (KeptQ s H) := by
  obtain ⟨im, pm, sa⟩ := hs
  refine W.fnI rfl rfl rfl ?_
  simp -implicitDefEqProofs only [ir20, op, ef, cl, sq, reduceIte, Int.reduceLT, Int.reduceLE, Int.reduceBEq, Int.reduceBNe, Int.reduceEq, Nat.reduceAdd, Nat.reduceLeDiff, Nat.reduceLT, Nat.reduceEqDiff, S1, sa.hs]
  refine callB_of _ _ _ _ _ _ _ (fun o H' => o = .val (.fn 50 [.ptr H.length 0]) ∧ H' = H ++ [.cells [.map b.v]]) ?_ ?_
  · refine W.fnI rfl rfl rfl ?_
    simp -implicitDefEqProofs only [ir35, op, ef, cl, sq, reduceIte, Int.reduceLT, Int.reduceLE, Int.reduceBEq, Int.reduceBNe, Int.reduceEq, Nat.reduceAdd, Nat.reduceLeDiff, Nat.reduceLT, Nat.reduceEqDiff, S1]
    exact rfl
  rintro u H1 ⟨hu, rfl⟩
  cases hu
  have lv := glt sa.hv
  have hkeys : (encV s.vs).map (·.1) = s.vs.map (·.1) := by simp [encV]
  simp -implicitDefEqProofs only [op, ef, cl, sq, reduceIte, Int.reduceLT, Int.reduceLE, Int.reduceBEq, Int.reduceBNe, Int.reduceEq, Nat.reduceAdd, Nat.reduceLeDiff, Nat.reduceLT, Nat.reduceEqDiff, S1]
  refine callB_of _ _ _ _ _ _ _ _ (sortedF34 (encV s.vs) H.length b.v _ (by rw [hkeys]; exact hi.nd) (by simpa [encV] using hn) (g_tail rfl) (by rw [g_app lv]; exact sa.hv)) ?_
  rintro t H2 ⟨hx2, _, l, hu, hmt, hperm, hpw⟩
  cases hu
  rw [hkeys] at hperm
  have hll : l.length ≤ 1000000 := by rw [hperm.length_eq]; simpa using hn
  have hlen := hmt.len
  have hx0 : Ext H H2 := (Ext.rfl'.app _).trans hx2
  simp -implicitDefEqProofs only [op, ef, cl, sq, reduceIte, Int.reduceLT, Int.reduceLE, Int.reduceBEq, Int.reduceBNe, Int.reduceEq, Nat.reduceAdd, Nat.reduceLeDiff, Nat.reduceLT, Nat.reduceEqDiff, S1, hlen]
  have hlenH : ∀ Hx, lenT Hx .sl t = some l.length := fun Hx => by
    rcases hmt with ⟨e, rfl⟩ | ⟨c, rfl, _, _⟩
    · rw [e]; rfl
    · rfl
  refine W.loopI (fun (i : Nat) R H' => At H' (fun H' => ∃ kw, R 3 = .sl kw ((keptL s (l.take i)).map eK) ∧ Ext H H' ∧ Ext H2 H' ∧ Apd H2.length H' kw ∧ KOk kw (l.take i)) ∧ R 0 = .ptr b.s 0 ∧ R 11 = t ∧ R 12 = .int .i64 l.length ∧ R 13 = .int .i64 i ∧ i ≤ l.length) (fun i => l.length - i) 0 ⟨.i ⟨.nil, rfl, hx0, Ext.rfl', apd_nil _ _, fun _ => rfl⟩, rfl, rfl, rfl, rfl, Nat.zero_le _⟩ ?_
  rintro i R H3 ⟨⟨kw, h3, hx3, hx23, hap, hko⟩, h0, h11, h12, h13, hil⟩
  by_cases hlt : i < l.length
  · obtain ⟨m, hm⟩ := getP hlt
    have ws := wrap_succ (show i < 9223372036854775807 by omega)
    obtain ⟨c, g1, g2, g3⟩ := mut_n (enc := eN) (n := 2) (fun _ => rfl) (by decide) (hmt.ext hx23) hm
    have sa3 := sa.frm (ext_frm (F := fun _ => False) hx3) (fun _ _ _ h => h)
    have l0 := glt sa3.hs
    have lv3 := glt sa3.hv
    have hlk := fun Hx z ok => lkpB_K kNok z ok Hx (encV s.vs) m
    simp -implicitDefEqProofs only [kN, eN] at hlk
    have hh := lkp_hd s.vs m
    simp -implicitDefEqProofs only [op, ef, cl, sq, reduceIte, Int.reduceLT, Int.reduceLE, Int.reduceBEq, Int.reduceBNe, Int.reduceEq, Nat.reduceAdd, Nat.reduceLeDiff, Nat.reduceLT, Nat.reduceEqDiff, S1, S2, S3, List.length_set, h0, h11, h12, h13, hlt, natOf_nat, g1, g2, g3, eN, sa3.hs, sa3.hv, l0, lv3, hlk, hh, encHd]
    refine callB_of _ _ _ _ _ _ _ _ (version30 b s F m.1 m.2 _ ⟨im, pm, sa3.frm (ext_frm (F := fun _ => False) (Ext.rfl'.app _)) (fun _ _ _ h => h)⟩ hi) ?_
    rintro u H4 ⟨hx4, kk, hkk, hu⟩
    cases hu
    have c0 : H4[H3.length]? = some (.cells [.str m.1, .int .u64 m.2]) := hx4.get (by rw [g_tail rfl])
    have hx34 : Ext H3 H4 := (Ext.rfl'.app _).trans hx4
    have s4 := hx34.get sa3.hs
    have v4 := hx34.get sa3.hv
    obtain ⟨hd, hhd⟩ : ∃ hd, hd = hdOf (mlook s.vs m) := ⟨_, rfl⟩
    rw [← hhd] at hh hkk
    have hall := all_map (enc := eK) (n := 5) (fun _ => rfl) (keptL s (l.take i))
    have hkl : ((keptL s (l.take i)).map eK).length ≤ 1000000 := by simp -implicitDefEqProofs only [keptL, List.length_map, List.length_take]; omega
    obtain ⟨k', H5, ha, hap', hst⟩ := app_ok (bytes := 72) ((keptL s (l.take i)).map eK) [[T.str m.1, .int .u64 m.2, .str hd.value, .sl .arg (hd.keys.map eS), .int .i64 hd.stamp]] (hap.ext hx34) (Nat.le_trans hx23.len hx34.len) (by simp) (roomT (by simp -implicitDefEqProofs only [List.length_cons, List.length_nil]; omega))
    have hnn := app_nn ha (by simp)
    simp -implicitDefEqProofs only [op, ef, cl, sq, reduceIte, Int.reduceLT, Int.reduceLE, Int.reduceBEq, Int.reduceBNe, Int.reduceEq, Nat.reduceAdd, Nat.reduceLeDiff, Nat.reduceLT, Nat.reduceEqDiff, S1] at ha
    simp -implicitDefEqProofs only [op, ef, cl, sq, reduceIte, Int.reduceLT, Int.reduceLE, Int.reduceBEq, Int.reduceBNe, Int.reduceEq, Nat.reduceAdd, Nat.reduceLeDiff, Nat.reduceLT, Nat.reduceEqDiff, S1, eVer, h3, c0, s4, v4, hlk, hh, encHd, ← hhd, hall, ha, h0, h11, h12, h13, ws]
    refine ⟨i + 1, by omega, .i ⟨k', ?_, hst.ext H (by have := hx0.len; omega) (hx3.trans hx34), hst.ext H2 (Nat.le_refl _) (hx23.trans hx34), hap', fun h => absurd h hnn⟩, rfl, by omega⟩
    rw [take_sn hm]
    simp -implicitDefEqProofs only [keptL, List.map_append, List.map_cons, List.map_nil, eK, ← hhd]
  · have hil' : i = l.length := by omega
    subst hil'
    rw [List.take_length] at h3 hko
    simp -implicitDefEqProofs only [op, ef, cl, sq, reduceIte, Int.reduceLT, Int.reduceLE, Int.reduceBEq, Int.reduceBNe, Int.reduceEq, Nat.reduceAdd, Nat.reduceLeDiff, Nat.reduceLT, Nat.reduceEqDiff, S1, h3, h12, h13, hlt]
    exact ⟨hx3, kw, l, hko, rfl, hperm, hpw⟩
end Go.Proofs.Ytbkgokabcnogdaa.St
end

/-! text StoreS -/
section
namespace Go.Proofs.Ytbkgokabcnogdaa.St
open Go.Rmp Go.Proofs.Ytbkgokabcnogdaa.Ir
set_option maxRecDepth 10000
def flatP (ps : List (ByteArray × ByteArray)) : List ByteArray := ps.flatMap fun p => [p.1, p.2]
theorem flatP_len (ps : List (ByteArray × ByteArray)) : (flatP ps).length = 2 * ps.length := by
  induction ps with
  | nil => rfl
  | cons p ps ih => simp -implicitDefEqProofs only [flatP, List.flatMap_cons, List.length_append, List.length_cons, List.length_nil] at ih ⊢; omega
theorem flatP_get : ∀ (ps : List (ByteArray × ByteArray)) (j : Nat) (p : ByteArray × ByteArray), ps[j]? = some p → (flatP ps)[2 * j]? = some p.1 ∧ (flatP ps)[2 * j + 1]? = some p.2
  | [], j, p, h => by simp at h
  | q :: ps, 0, p, h => by simp at h; subst h; exact ⟨rfl, rfl⟩
  | q :: ps, j + 1, p, h => by
    have := flatP_get ps j p (by simpa using h)
    have e : flatP (q :: ps) = q.1 :: q.2 :: flatP ps := rfl
    rw [e, show 2 * (j + 1) = 2 * j + 1 + 1 by omega]
    exact this
theorem pairs29 (k : SK) (ps : List (ByteArray × ByteArray)) (H : Heap) (hl : ps.length ≤ 1000) : W env (.call 29 [.sl k ((flatP ps).map eS)]) H (fun o H' => Ext H H' ∧ ∃ kw, o = .val (.sl kw (ps.map eP))) := by
  refine W.fnI rfl rfl rfl ?_
  simp -implicitDefEqProofs only [ir29, op, ef, cl, sq, reduceIte, Int.reduceLT, Int.reduceLE, Int.reduceBEq, Int.reduceBNe, Int.reduceEq, Nat.reduceAdd, Nat.reduceLeDiff, Nat.reduceLT, Nat.reduceEqDiff, S1]
  refine W.loopI (fun (j : Nat) R H' => At H' (fun H' => ∃ kw, R 3 = .sl kw ((ps.take j).map eP) ∧ Ext H H' ∧ Apd H.length H' kw) ∧ R 0 = .sl k ((flatP ps).map eS) ∧ R 4 = .int .i64 ((2 * j : Nat) : Int) ∧ j ≤ ps.length) (fun j => ps.length - j) 0 ⟨.i ⟨.nil, rfl, Ext.rfl', apd_nil _ _⟩, rfl, rfl, Nat.zero_le _⟩ ?_
  rintro j R H1 ⟨⟨kw, h3, hx, hap⟩, h0, h4, hj⟩
  have w1 : IntKind.i64.wrap (((2 * j : Nat) : Int) + 1) = ((2 * j + 1 : Nat) : Int) := wrap_succ (by omega)
  have w2 : IntKind.i64.wrap (((2 * j : Nat) : Int) + 2) = ((2 * (j + 1) : Nat) : Int) := by rw [wrap64 (by omega)]; omega
  have hfl := flatP_len ps
  by_cases hlt : j < ps.length
  · obtain ⟨p, hp⟩ := getP hlt
    obtain ⟨g1, g2⟩ := flatP_get ps j p hp
    have i1 := iadX (e := eS) (n := 1) (fun _ => rfl) (by decide) (k := k) g1
    have i2 := iadX (e := eS) (n := 1) (fun _ => rfl) (by decide) (k := k) g2
    have hc : 2 * j + 1 < (flatP ps).length := by omega
    have hall := all_map (enc := eP) (n := 2) (fun _ => rfl) (ps.take j)
    obtain ⟨k', H', ha, hap', hst⟩ := app_ok (bytes := 32) ((ps.take j).map eP) [[T.str p.1, .str p.2]] hap hx.len (by simp) (roomS (by simp; omega) (by omega))
    simp -implicitDefEqProofs only [op, ef, cl, sq, reduceIte, Int.reduceLT, Int.reduceLE, Int.reduceBEq, Int.reduceBNe, Int.reduceEq, Nat.reduceAdd, Nat.reduceLeDiff, Nat.reduceLT, Nat.reduceEqDiff, S1] at ha
    simp -implicitDefEqProofs only [op, ef, cl, sq, reduceIte, Int.reduceLT, Int.reduceLE, Int.reduceBEq, Int.reduceBNe, Int.reduceEq, Nat.reduceAdd, Nat.reduceLeDiff, Nat.reduceLT, Nat.reduceEqDiff, S1, h0, h3, h4, List.length_map, w1, hc, natOf_nat, i1, i2, eS, hall, ha, w2]
    refine ⟨j + 1, by omega, .i ⟨k', ?_, hst.ext H (Nat.le_refl _) hx, hap'⟩, rfl, by omega⟩
    simp [take_sn hp, eP]
  · have hil : j = ps.length := by omega
    subst hil
    have hc : ¬ (2 * ps.length + 1 < (flatP ps).length) := by omega
    rw [List.take_length] at h3
    simp -implicitDefEqProofs only [op, ef, cl, sq, reduceIte, Int.reduceLT, Int.reduceLE, Int.reduceBEq, Int.reduceBNe, Int.reduceEq, Nat.reduceAdd, Nat.reduceLeDiff, Nat.reduceLT, Nat.reduceEqDiff, S1, h0, h3, h4, List.length_map, w1, hc]
    exact ⟨hx, kw, rfl⟩
/-! sorted lists of names are told by what is in them -/
theorem sorted_eq : ∀ (l l' : List Nm), l.Pairwise (fun a b => ltM a b = true) → l'.Pairwise (fun a b => ltM a b = true) → (∀ x, x ∈ l ↔ x ∈ l') → l = l'
  | [], [], _, _, _ => rfl
  | [], b :: l', _, _, h => by have := (h b).2 (by simp); simp at this
  | a :: l, [], _, _, h => by have := (h a).1 (by simp); simp at this
  | a :: l, b :: l', h1, h2, h => by
    rw [List.pairwise_cons] at h1 h2
    have e : a = b := by
      rcases List.mem_cons.1 ((h a).1 (by simp)) with e | e
      · exact e
      · rcases List.mem_cons.1 ((h b).2 (by simp)) with e2 | e2
        · exact e2.symm
        · have q1 := h2.1 a e
          have q2 := h1.1 b e2
          have := ltM_trans q1 q2
          rw [ltM_irr] at this; cases this
    subst e
    rw [sorted_eq l l' h1.2 h2.2 fun x => ?_]
    have hx := h x
    simp -implicitDefEqProofs only [List.mem_cons] at hx
    constructor
    · intro hm
      rcases hx.1 (.inr hm) with e | e
      · subst e; have := h1.1 x hm; rw [ltM_irr] at this; cases this
      · exact e
    · intro hm
      rcases hx.2 (.inr hm) with e | e
      · subst e; have := h2.1 x hm; rw [ltM_irr] at this; cases this
      · exact e
theorem mem_keys {α β : Type} [DecidableEq α] {es : List (α × β)} {k : α} : k ∈ es.map (·.1) ↔ (mlook es k).isSome = true := by
  cases h : mlook es k with
  | none => simp [mlook_none.1 h]
  | some v =>
    simp -implicitDefEqProofs only [Option.isSome_some, iff_true]
    exact List.mem_map.2 ⟨_, mlook_mem h, rfl⟩
/-- lists without repeats, with the same in them, are as long -/
theorem len_eq {α : Type} {l l' : List α} (h1 : l.Nodup) (h2 : l'.Nodup) (h : ∀ x, x ∈ l ↔ x ∈ l') : l.length = l'.length := ((List.perm_ext_iff_of_nodup h1 h2).2 h).length_eq
def tA : ByteArray := ⟨#[97]⟩
def tB : ByteArray := ⟨#[98]⟩
def tC : ByteArray := ⟨#[99]⟩
def tX : ByteArray := ⟨#[120]⟩
def tY : ByteArray := ⟨#[121]⟩
def tZ : ByteArray := ⟨#[122]⟩
theorem nAB : tA ≠ tB := by decide
theorem nAC : tA ≠ tC := by decide
theorem nBC : tB ≠ tC := by decide
theorem lAB : strLt tA tB = true := by decide +kernel
theorem lAC : strLt tA tC = true := by decide +kernel
theorem mayKnown1 : MayP 65536 [(tA, tX), (tB, tY)] [tA, tB] := by
  refine ⟨by decide, ⟨fun i hi => ?_, by decide, by decide⟩, by decide, fun i hi => ?_⟩
  · match i, hi with
    | 0, _ => intro x hx; cases hx; exact ⟨by decide, fun h => by omega⟩
    | 1, _ => intro x hx; cases hx; exact ⟨by decide, fun _ y hy => by cases hy; exact lAB⟩
  · match i, hi with
    | 0, _ => intro x hx; cases hx; exact ⟨fun h => by omega, by simp, by decide⟩
    | 1, _ => intro x hx; cases hx; exact ⟨fun _ y hy => by cases hy; exact lAB, by simp, by decide⟩
theorem mayKnown2 : MayP 131072 [(tA, tZ)] [tA, tC] := by
  refine ⟨by decide, ⟨fun i hi => ?_, by decide, by decide⟩, by decide, fun i hi => ?_⟩
  · match i, hi with
    | 0, _ => intro x hx; cases hx; exact ⟨by decide, fun h => by omega⟩
    | 1, _ => intro x hx; cases hx; exact ⟨by decide, fun _ y hy => by cases hy; exact lAC⟩
  · match i, hi with
    | 0, _ => intro x hx; cases hx; exact ⟨fun h => by omega, by simp, by decide⟩
end Go.Proofs.Ytbkgokabcnogdaa.St
end

/-! text StoreT -/
section
namespace Go.Proofs.Ytbkgokabcnogdaa.St
open Go.Rmp Go.Proofs.Ytbkgokabcnogdaa.Ir
set_option maxRecDepth 10000
abbrev l1 : List (ByteArray × ByteArray) := [(tA, tX), (tB, tY)]
abbrev l2 : List (ByteArray × ByteArray) := [(tA, tZ)]
structure KnownL (s2 s4 s5 : Sto) (fr1 fr2 : Bool) : Prop where
  f1 : fr1 = true
  f2 : fr2 = false
  bot : lastOf s2 tA = 0
  n1 : (s2.pls 65536).length = 2
  n2 : (s4.pls 131072).length = 1
  kept : ∀ l : List Nm, l.Perm (s5.vs.map (·.1)) → l.Pairwise (fun a b => ltM a b = true) → l = [(tA, 65536), (tA, 131072), (tB, 65536)]
  len : s5.vs.length ≤ 12
  st0 : (hdOf (mlook s5.vs (tA, 65536))).stamp = 9
  st1 : (hdOf (mlook s5.vs (tA, 131072))).stamp = -1
  st2 : (hdOf (mlook s5.vs (tB, 65536))).stamp = -1
  lat : (latest s5 tA).value = tZ
  las : lastOf s5 tB = 65536
  dr1 : ∃ h, mlook s5.vs (tA, 131072) = some h ∧ h.stamp = -1
  dr2 : mlook s5.vs (tC, 131072) = none
theorem known_law {s1 s2 s3 s4 s5 : Sto} {fr1 fr2 fr4 : Bool} (p1 : PutV Sto.emp s1 65536 l1 [tA, tB] 5 fr1) (p2 : PutV s1 s2 65536 l1 [tA, tB] 5 fr2) (i2 : SInv s2) (c3 : ComV s2 s3 65536 6 (s2.pls 65536))
    (p4 : PutV s3 s4 131072 l2 [tA, tC] 7 fr4) (i4 : SInv s4) (c5 : ComV s4 s5 131072 9 (s4.pls 131072)) (i5 : SInv s5) : KnownL s2 s4 s5 fr1 fr2 := by
  have emp : ∀ m, mlook Sto.emp.vs m = none := fun m => rfl
  have mA : (tA, tX) ∈ l1 := by simp [l1]
  have mB : (tB, tY) ∈ l1 := by simp [l1]
  have neg : ∀ k, ¬ (65536 < lastOf Sto.emp k) := fun k => by simp [lastOf, Sto.emp, mlook_nil]
  -- after the first Put
  obtain ⟨k1, _, a1⟩ := p1.new _ mA (emp _)
  obtain ⟨k2, _, b1⟩ := p1.new _ mB (emp _)
  rw [if_neg (neg _)] at a1 b1
  have o1 : ∀ m : Nm, (m.2 ≠ 65536 ∨ m.1 ∉ [tA, tB]) → mlook s1.vs m = none := fun m h => (p1.other m (by simpa using h)).trans (emp m)
  -- the second changes nothing
  have e2 : ∀ m, mlook s2.vs m = mlook s1.vs m := fun m => by
    by_cases h : m.2 = 65536 ∧ m.1 ∈ l1.map (·.1)
    rotate_left
    · exact p2.other m (if h1 : m.2 = 65536 then .inr (fun h2 => h ⟨h1, h2⟩) else .inl h1)
    · obtain ⟨h1, h2⟩ := h
      simp -implicitDefEqProofs only [l1, List.map_cons, List.map_nil, List.mem_cons, List.not_mem_nil, or_false] at h2
      obtain ⟨k, n⟩ := m
      simp only at h1 h2
      subst h1
      rcases h2 with rfl | rfl
      · rw [a1]; exact p2.old _ mA _ a1
      · rw [b1]; exact p2.old _ mB _ b1
  have ls2 : s2.ls = [] := p2.ls.trans p1.ls
  have last2 : ∀ k, lastOf s2 k = 0 := fun k => by simp [lastOf, ls2, mlook_nil]
  have some1 : ∀ m, (mlook s1.vs m).isSome = true ↔ m = (tA, 65536) ∨ m = (tB, 65536) := fun m => by
    constructor
    · intro h
      have h1 : m.2 = 65536 ∧ m.1 ∈ [tA, tB] := Classical.byContradiction fun hh => by
        rw [o1 m (if h1 : m.2 = 65536 then .inr (fun h2 => hh ⟨h1, h2⟩) else .inl h1)] at h; cases h
      simp -implicitDefEqProofs only [List.mem_cons, List.not_mem_nil, or_false] at h1
      obtain ⟨h1, h2 | h2⟩ := h1
      · exact .inl (Prod.ext h2 h1)
      · exact .inr (Prod.ext h2 h1)
    · rintro (rfl | rfl)
      · rw [a1]; rfl
      · rw [b1]; rfl
  have pl2 : ∀ k, k ∈ s2.pls 65536 ↔ k ∈ [tA, tB] := fun k => by
    rw [i2.plm, e2, some1]; simp
  -- the first Commit stamps nothing
  have e3 : ∀ m, mlook s3.vs m = mlook s1.vs m := fun m => by
    rw [← e2]
    obtain ⟨h1, h2⟩ := c3.vs.2 m
    cases e : mlook s2.vs m with
    | none => exact h1 e
    | some x =>
      refine (h2 x e).2 fun hh => ?_
      have h3 := (some1 m).1 (by rw [← e2, e]; rfl)
      rcases h3 with rfl | rfl
      · exact absurd hh.1.2.2 (by simp)
      · exact absurd hh.1.2.2 (by simp)
  have ls3A : mlook s3.ls tA = some 65536 := c3.on tA ((pl2 _).2 (by simp)) (by rw [last2]; decide)
  have ls3B : mlook s3.ls tB = some 65536 := c3.on tB ((pl2 _).2 (by simp)) (by rw [last2]; decide)
  -- the third Put
  have a4n : mlook s3.vs (tA, 131072) = none := by rw [e3]; exact o1 _ (.inl (by simp))
  obtain ⟨k4, _, a4⟩ := p4.new (tA, tZ) (by simp [l2]) a4n
  have neg4 : ¬ (131072 < lastOf s3 tA) := by simp [lastOf, ls3A]
  rw [if_neg neg4] at a4
  have o4 : ∀ m : Nm, m ≠ (tA, 131072) → mlook s4.vs m = mlook s1.vs m := fun m h => by
    rw [← e3]
    refine p4.other m ?_
    by_cases h1 : m.2 = 131072
    · right
      simp -implicitDefEqProofs only [l2, List.map_cons, List.map_nil, List.mem_singleton]
      exact fun h2 => h (Prod.ext h2 h1)
    · exact .inl h1
  have last4A : lastOf s4 tA = 65536 := by simp [lastOf, p4.ls, ls3A]
  have some4 : ∀ m, (mlook s4.vs m).isSome = true ↔ m = (tA, 65536) ∨ m = (tB, 65536) ∨ m = (tA, 131072) := fun m => by
    by_cases h : m = (tA, 131072)
    · subst h; rw [a4]; simp
    · rw [o4 m h, some1]; simp [h]
  have pl4 : ∀ k, k ∈ s4.pls 131072 ↔ k ∈ [tA] := fun k => by
    rw [i4.plm, some4]; simp
  -- the second Commit
  have a4' : mlook s4.vs (tA, 65536) = some ⟨tX, k1, [tA, tB], -1⟩ := by rw [o4 _ (by simp)]; exact a1
  have b4' : mlook s4.vs (tB, 65536) = some ⟨tY, k2, [tA, tB], -1⟩ := by rw [o4 _ (by simp)]; exact b1
  have a5 := ((c5.vs.2 (tA, 65536)).2 _ a4').1 ⟨⟨(pl4 _).2 (by simp), by rw [last4A]; decide, by decide⟩, rfl⟩
  have z5 := ((c5.vs.2 (tA, 131072)).2 _ a4).2 fun hh => absurd hh.1.2.2 (by simp)
  have b5 := ((c5.vs.2 (tB, 65536)).2 _ b4').2 fun hh => by
    have := (pl4 tB).1 hh.1.1
    simp -implicitDefEqProofs only [List.mem_singleton] at this
    exact nAB this.symm
  have some5 : ∀ m, m ∈ s5.vs.map (·.1) ↔ m ∈ [((tA, 65536) : Nm), (tA, 131072), (tB, 65536)] := fun m => by
    rw [mem_keys, c5.vs.some, some4]
    simp -implicitDefEqProofs only [List.mem_cons, List.not_mem_nil, or_false]
    exact ⟨fun h => by rcases h with h | h | h <;> simp [h], fun h => by rcases h with h | h | h <;> simp [h]⟩
  have lt01 : ltM (tA, 65536) (tA, 131072) = true := (ltM_iff _ _).2 (.inr ⟨rfl, by decide⟩)
  have lt12 : ltM (tA, 131072) (tB, 65536) = true := (ltM_iff _ _).2 (.inl lAB)
  have srt : [((tA, 65536) : Nm), (tA, 131072), (tB, 65536)].Pairwise (fun a b => ltM a b = true) := by
    simp [lt01, lt12, ltM_trans lt01 lt12]
  have ls5A : mlook s5.ls tA = some 131072 := c5.on tA ((pl4 _).2 (by simp)) (by rw [last4A]; decide)
  have ls5B : mlook s5.ls tB = some 65536 := by
    rw [c5.off tB fun hh => by
      have := (pl4 tB).1 hh.1
      simp -implicitDefEqProofs only [List.mem_singleton] at this
      exact nAB this.symm, p4.ls]
    exact ls3B
  refine ⟨p1.fresh.2 ⟨_, mA, emp _⟩, ?_, last2 _, ?_, ?_, fun l hp hs => sorted_eq l _ hs srt fun x => by rw [hp.mem_iff, some5], ?_, by rw [a5]; rfl, by rw [z5]; rfl, by rw [b5]; rfl, ?_, by simp [lastOf, ls5B], ⟨_, z5, rfl⟩, ?_⟩
  · cases e : fr2 with
    | false => rfl
    | true =>
      obtain ⟨p, hp, hn⟩ := p2.fresh.1 e
      simp -implicitDefEqProofs only [l1, List.mem_cons, List.not_mem_nil, or_false] at hp
      rcases hp with rfl | rfl
      · rw [a1] at hn; cases hn
      · rw [b1] at hn; cases hn
  · exact len_eq (i2.pnd _) (by simp [nAB]) pl2
  · exact len_eq (i4.pnd _) (by simp) pl4
  · have := len_eq i5.nd (l' := [((tA, 65536) : Nm), (tA, 131072), (tB, 65536)]) (by simp [nAB]) some5
    simp -implicitDefEqProofs only [List.length_map, List.length_cons, List.length_nil] at this
    omega
  · simp [latest, ls5A, z5, hdOf]
  · have h := (some5 (tC, 131072))
    rw [mem_keys] at h
    cases e : mlook s5.vs (tC, 131072) with
    | none => rfl
    | some x =>
      rw [e] at h
      have := h.1 rfl
      simp [nAC.symm, nBC.symm] at this
end Go.Proofs.Ytbkgokabcnogdaa.St
end

/-! text StoreU -/
section
namespace Go.Proofs.Ytbkgokabcnogdaa.St
open Go.Rmp Go.Proofs.Ytbkgokabcnogdaa.Ir
set_option maxRecDepth 10000
theorem SH.ext {H H' : Heap} {b : Bk} {s : Sto} {F : Nat → Prop} (h : SH H b s F) (hx : Ext H H') : SH H' b s F := by
  obtain ⟨im, pm, sa⟩ := h
  exact ⟨im, pm, sa.frm (ext_frm (F := fun _ => False) hx) (fun _ _ _ h => h)⟩
theorem Frm.more {H H' H'' : Heap} {G : Nat → Prop} (h : Frm (fun _ => False) H H') (h' : Frm G H' H'') (hg : ∀ c, G c → H.length ≤ c) : Frm (fun _ => False) H H'' := h.trans h' fun c hc => .inr (hg c hc)
theorem Frm.ext {H H' H'' : Heap} {F : Nat → Prop} (h : Frm F H H') (h' : Ext H' H'') : Frm F H H'' := h.trans (ext_frm (F := fun _ => False) h') fun c hc => hc.elim
theorem frm_ext {H H' : Heap} (h : Frm (fun _ => False) H H') : Ext H H' := ext_of fun c x hx => h.get hx id
theorem li0 {k : SK} {a b c : List T} (h : a.length = 5) : iadT 5 0 (.sl k [a, b, c]) = some (.iptr a) := by simp [iadT, h]
theorem li1 {k : SK} {a b c : List T} (h : b.length = 5) : iadT 5 1 (.sl k [a, b, c]) = some (.iptr b) := by simp [iadT, h]
theorem li2 {k : SK} {a b c : List T} (h : c.length = 5) : iadT 5 2 (.sl k [a, b, c]) = some (.iptr c) := by simp [iadT, h]
theorem known8 (H : Heap) : W env (.call 8 []) H (RetG (.bool true) H) := by
  refine W.fnI rfl rfl rfl ?_
  simp -implicitDefEqProofs only [ir8, op, ef, cl, sq, reduceIte, Int.reduceLT, Int.reduceLE, Int.reduceBEq, Int.reduceBNe, Int.reduceEq, Nat.reduceAdd, Nat.reduceLeDiff, Nat.reduceLT, Nat.reduceEqDiff, S1]
  refine callB_of _ _ _ _ _ _ _ _ (new7 _) ?_
  rintro u H0 ⟨hx0, b, F0, hu, sh0, hF0⟩
  cases hu
  simp -implicitDefEqProofs only [op, ef, cl, sq, reduceIte, Int.reduceLT, Int.reduceLE, Int.reduceBEq, Int.reduceBNe, Int.reduceEq, Nat.reduceAdd, Nat.reduceLeDiff, Nat.reduceLT, Nat.reduceEqDiff, S1, eqRef, nilOf]
  have hp1 : ((flatP l1).map eS) = [[T.str ⟨#[97]⟩], [T.str ⟨#[120]⟩], [T.str ⟨#[98]⟩], [T.str ⟨#[121]⟩]] := rfl
  have hp2 : ((flatP l2).map eS) = [[T.str ⟨#[97]⟩], [T.str ⟨#[122]⟩]] := rfl
  refine callB_of _ _ _ _ _ _ _ _ (pairs29 .full l1 _ (by decide)) ?_
  rintro u H1 ⟨hx1, kw1, hu⟩
  cases hu
  simp -implicitDefEqProofs only [op, ef, cl, sq, reduceIte, Int.reduceLT, Int.reduceLE, Int.reduceBEq, Int.reduceBNe, Int.reduceEq, Nat.reduceAdd, Nat.reduceLeDiff, Nat.reduceLT, Nat.reduceEqDiff, S1]
  refine callB_of _ _ _ _ _ _ _ _ (put28 b Sto.emp F0 65536 kw1 .full l1 [tA, tB] 5 _ (sh0.ext hx1) SInv.emp (by decide) (fun h => by cases h) mayKnown1 ⟨by decide, by decide⟩) ?_
  rintro u H2 ⟨s1, F1, fr1, hu, sh1, i1, p1, n1, g1, hF1⟩
  cases hu
  simp -implicitDefEqProofs only [op, ef, cl, sq, reduceIte, Int.reduceLT, Int.reduceLE, Int.reduceBEq, Int.reduceBNe, Int.reduceEq, Nat.reduceAdd, Nat.reduceLeDiff, Nat.reduceLT, Nat.reduceEqDiff, S1]
  refine callB_of _ _ _ _ _ _ _ _ (pairs29 .full l1 _ (by decide)) ?_
  rintro u H3 ⟨hx3, kw3, hu⟩
  cases hu
  simp -implicitDefEqProofs only [op, ef, cl, sq, reduceIte, Int.reduceLT, Int.reduceLE, Int.reduceBEq, Int.reduceBNe, Int.reduceEq, Nat.reduceAdd, Nat.reduceLeDiff, Nat.reduceLT, Nat.reduceEqDiff, S1]
  refine callB_of _ _ _ _ _ _ _ _ (put28 b s1 F1 65536 kw3 .full l1 [tA, tB] 5 _ (sh1.ext hx3) i1 (by simp [Sto.emp] at n1; simp; omega) (fun h => by cases h) mayKnown1 ⟨by decide, by decide⟩) ?_
  rintro u H4 ⟨s2, F2, fr2, hu, sh2, i2, p2, n2, g2, hF2⟩
  cases hu
  simp -implicitDefEqProofs only [op, ef, cl, sq, reduceIte, Int.reduceLT, Int.reduceLE, Int.reduceBEq, Int.reduceBNe, Int.reduceEq, Nat.reduceAdd, Nat.reduceLeDiff, Nat.reduceLT, Nat.reduceEqDiff, S1]
  have f0 : Frm (fun _ => False) H H0 := ext_frm hx0
  have len0 := hx0.len
  have len1 := hx1.len
  have len2 := g1.1
  have len3 := hx3.len
  have len4 := g2.1
  have b1 : ∀ c, F1 c → H.length ≤ c ∧ c < H2.length := fun c h => by
    rcases hF1 c h with h | h
    · have := hF0 c h; omega
    · omega
  have b2 : ∀ c, F2 c → H.length ≤ c ∧ c < H4.length := fun c h => by
    rcases hF2 c h with h | h
    · have := b1 c h; omega
    · omega
  have f4 : Frm (fun _ => False) H H4 := (((f0.ext hx1).more g1 fun c h => (hF0 c h).1).ext hx3).more g2 fun c h => (b1 c h).1
  refine callB_of _ _ _ _ _ _ _ _ (latest16 b s2 F2 tA _ sh2 i2) ?_
  rintro u H5 ⟨hx5, kk5, _, hu⟩
  cases hu
  have len5 := hx5.len
  simp -implicitDefEqProofs only [op, ef, cl, sq, reduceIte, Int.reduceLT, Int.reduceLE, Int.reduceBEq, Int.reduceBNe, Int.reduceEq, Nat.reduceAdd, Nat.reduceLeDiff, Nat.reduceLT, Nat.reduceEqDiff, S1, S2, eVer]
  refine callB_of _ _ _ _ _ _ _ _ (commit14 b s2 F2 65536 6 _ ((sh2.ext hx5).ext ⟨_, rfl⟩) i2 (by simp [Sto.emp] at n1 n2; omega) (by decide) ⟨by decide, by decide⟩) ?_
  rintro u H6 ⟨s3, hu, sh3, i3, c3, n3, _, _, g3⟩
  cases hu
  have len6 := g3.1
  rw [List.length_append, List.length_singleton] at len6
  have c6 : H6[H5.length]? = some (.cells [.str tA, .int .u64 (lastOf s2 tA : Nat), .str (latest s2 tA).value, .sl kk5 ((latest s2 tA).keys.map eS)]) := g3.get (by rw [g_tail rfl]) fun h => by have := (b2 _ h).2; omega
  have f6 : Frm (fun _ => False) H H6 := ((f4.ext hx5).app _).more g3 fun c h => (b2 c h).1
  simp -implicitDefEqProofs only [op, ef, cl, sq, reduceIte, Int.reduceLT, Int.reduceLE, Int.reduceBEq, Int.reduceBNe, Int.reduceEq, Nat.reduceAdd, Nat.reduceLeDiff, Nat.reduceLT, Nat.reduceEqDiff, S1]
  refine callB_of _ _ _ _ _ _ _ _ (pairs29 .full l2 _ (by decide)) ?_
  rintro u H7 ⟨hx7, kw7, hu⟩
  cases hu
  have len7 := hx7.len
  simp -implicitDefEqProofs only [op, ef, cl, sq, reduceIte, Int.reduceLT, Int.reduceLE, Int.reduceBEq, Int.reduceBNe, Int.reduceEq, Nat.reduceAdd, Nat.reduceLeDiff, Nat.reduceLT, Nat.reduceEqDiff, S1]
  refine callB_of _ _ _ _ _ _ _ _ (put28 b s3 F2 131072 kw7 .full l2 [tA, tC] 7 _ (sh3.ext hx7) i3 (by simp [Sto.emp] at n1 n2; simp; omega) (fun h => by cases h) mayKnown2 ⟨by decide, by decide⟩) ?_
  rintro u H8 ⟨s4, F4, fr4, hu, sh4, i4, p4, n4, g4, hF4⟩
  cases hu
  have len8 := g4.1
  have b4 : ∀ c, F4 c → H.length ≤ c ∧ c ≠ H5.length := fun c h => by
    rcases hF4 c h with h | h
    · have := b2 c h; omega
    · omega
  have c8 := g4.get (hx7.get c6) fun h => by have := (b2 _ h).2; omega
  have f8 : Frm (fun _ => False) H H8 := (f6.ext hx7).more g4 fun c h => (b2 c h).1
  simp -implicitDefEqProofs only [op, ef, cl, sq, reduceIte, Int.reduceLT, Int.reduceLE, Int.reduceBEq, Int.reduceBNe, Int.reduceEq, Nat.reduceAdd, Nat.reduceLeDiff, Nat.reduceLT, Nat.reduceEqDiff, S1]
  refine callB_of _ _ _ _ _ _ _ _ (commit14 b s4 F4 131072 9 _ sh4 i4 (by simp [Sto.emp] at n1 n2 n4; omega) (by decide) ⟨by decide, by decide⟩) ?_
  rintro u H9 ⟨s5, hu, sh5, i5, c5, n5, _, _, g5⟩
  cases hu
  have kl := known_law p1 p2 i2 c3 p4 i4 c5 i5
  have c9 := g5.get c8 fun h => (b4 _ h).2 rfl
  have f9 : Frm (fun _ => False) H H9 := f8.more g5 fun c h => (b4 c h).1
  simp -implicitDefEqProofs only [op, ef, cl, sq, reduceIte, Int.reduceLT, Int.reduceLE, Int.reduceBEq, Int.reduceBNe, Int.reduceEq, Nat.reduceAdd, Nat.reduceLeDiff, Nat.reduceLT, Nat.reduceEqDiff, S1]
  refine callB_of _ _ _ _ _ _ _ _ (kept20 b s5 F4 _ sh5 i5 (Nat.le_trans kl.len (by decide))) ?_
  rintro u H10 ⟨hx10, kw, l, _, hu, hperm, hpw⟩
  cases hu
  have hl := kl.kept l hperm hpw
  subst hl
  have c10 := hx10.get c9
  have hz : (0 : Nat) = 0 := rfl
  obtain ⟨h5, hh5, hst5⟩ := kl.dr1
  rw [kl.n1, kl.n2, kl.f1, kl.f2]
  rw [kl.bot] at c10
  have z0 : natOf (.int .i64 0) = some 0 := rfl
  have z1 : natOf (.int .i64 1) = some 1 := rfl
  have z2 : natOf (.int .i64 2) = some 2 := rfl
  simp -implicitDefEqProofs only [op, ef, cl, sq, reduceIte, Int.reduceLT, Int.reduceLE, Int.reduceBEq, Int.reduceBNe, Int.reduceEq, Nat.reduceAdd, Nat.reduceLeDiff, Nat.reduceLT, Nat.reduceEqDiff, S1, c10, keptL, kl.st0, kl.st1, kl.st2, eK, li0, li1, li2, z0, z1, z2]
  refine callB_of _ _ _ _ _ _ _ _ (latest16 b s5 F4 tA _ (sh5.ext hx10) i5) ?_
  rintro u H11 ⟨hx11, kk11, _, hu⟩
  cases hu
  rw [kl.lat]
  have eZ : (tZ = (⟨#[122]⟩ : ByteArray)) = True := eq_true rfl
  simp -implicitDefEqProofs only [op, ef, cl, sq, reduceIte, Int.reduceLT, Int.reduceLE, Int.reduceBEq, Int.reduceBNe, Int.reduceEq, Nat.reduceAdd, Nat.reduceLeDiff, Nat.reduceLT, Nat.reduceEqDiff, S1, eVer, eZ]
  refine callB_of _ _ _ _ _ _ _ _ (last17 b s5 F4 tB _ ((sh5.ext hx10).ext hx11)) ?_
  rintro u H12 ⟨hu, rfl⟩
  cases hu
  rw [kl.las]
  simp -implicitDefEqProofs only [op, ef, cl, sq, reduceIte, Int.reduceLT, Int.reduceLE, Int.reduceBEq, Int.reduceBNe, Int.reduceEq, Nat.reduceAdd, Nat.reduceLeDiff, Nat.reduceLT, Nat.reduceEqDiff, S1]
  refine callB_of _ _ _ _ _ _ _ _ (drop15 b s5 F4 tA 131072 _ ((sh5.ext hx10).ext hx11) i5 (by simp [Sto.emp] at n1 n2 n4; omega)) ?_
  rintro u H13 hd
  rcases hd with ⟨hd, _⟩ | ⟨h6, _, _, hu, hx13⟩ | ⟨h6, hd, hne, _⟩
  · rw [hh5] at hd; cases hd
  rotate_left
  · rw [hh5] at hd; cases hd; exact absurd hst5 hne
  cases hu
  simp -implicitDefEqProofs only [op, ef, cl, sq, reduceIte, Int.reduceLT, Int.reduceLE, Int.reduceBEq, Int.reduceBNe, Int.reduceEq, Nat.reduceAdd, Nat.reduceLeDiff, Nat.reduceLT, Nat.reduceEqDiff, S1]
  refine callB_of _ _ _ _ _ _ _ _ (drop15 b s5 F4 tC 131072 _ (((sh5.ext hx10).ext hx11).ext hx13) i5 (by simp [Sto.emp] at n1 n2 n4; omega)) ?_
  rintro u H14 hd
  rcases hd with ⟨_, hu, hx14⟩ | ⟨h6, hd, _⟩ | ⟨h6, hd, _⟩
  rotate_left
  · rw [kl.dr2] at hd; cases hd
  · rw [kl.dr2] at hd; cases hd
  cases hu
  simp -implicitDefEqProofs only [op, ef, cl, sq, reduceIte, Int.reduceLT, Int.reduceLE, Int.reduceBEq, Int.reduceBNe, Int.reduceEq, Nat.reduceAdd, Nat.reduceLeDiff, Nat.reduceLT, Nat.reduceEqDiff, S1]
  exact ⟨rfl, frm_ext ((((f9.ext hx10).ext hx11).ext hx13).ext hx14)⟩
end Go.Proofs.Ytbkgokabcnogdaa.St
end

/-! text StoreV -/
section
namespace Go.Proofs.Ytbkgokabcnogdaa.St
open Go.Rmp Go.Proofs.Ytbkgokabcnogdaa.Ir
set_option maxRecDepth 10000
theorem Frm.trans' {F G : Nat → Prop} {H H' H'' : Heap} (h : Frm F H H') (h' : Frm G H' H'') (hf : ∀ c, ¬ F c := by exact fun _ h => h) : Frm G H H'' := ⟨Nat.le_trans h.1 h'.1, fun c hc hg => by rw [h'.2 c (Nat.lt_of_lt_of_le hc h.1) hg, h.2 c hc (hf c)]⟩
structure Raw where
  kind : Int
  write : Int
  mask : Int
  value : ByteArray
def eR (r : Raw) : List T := [.int .i64 r.kind, .int .i64 r.write, .int .i64 r.mask, .str r.value]
def I64 (n : Int) : Prop := -9223372036854775808 ≤ n ∧ n ≤ 9223372036854775807
def RawOk (r : Raw) : Prop := I64 r.kind ∧ I64 r.write ∧ I64 r.mask
def pairsOf (ks : List ByteArray) (v : ByteArray) : List (ByteArray × ByteArray) := ks.map fun k => (k, v)
theorem pairsOf_keys (ks : List ByteArray) (v : ByteArray) : (pairsOf ks v).map (·.1) = ks := by simp [pairsOf, Function.comp_def]
theorem short_size (v : ByteArray) : (shortOf v).size ≤ 1000 := by
  unfold shortOf
  rw [ByteArray.size_extract]; omega
theorem setOf_good (m : Int) : GoodKeys (setOf m) := by
  have hr := (rises_iff _).1 (setOf_rises m)
  have hl := setOf_len m
  refine ⟨fun i hi x hx => ⟨?_, fun h0 y hy => ?_⟩, hl.1, by omega⟩
  · obtain ⟨j, _, rfl⟩ := setOf_key (List.mem_of_getElem? hx)
    rw [keyT_size]; omega
  · exact hr (i - 1) y x hy (by rw [show i - 1 + 1 = i by omega]; exact hx)
theorem may_put (w m : Int) (v : ByteArray) : MayP (idOf w) (pairsOf (setOf m) (shortOf v)) (setOf m) := by
  have hr := (rises_iff _).1 (setOf_rises m)
  have hl := setOf_len m
  have hs := short_size v
  refine ⟨(idOf_ge w).1, setOf_good m, by simp [pairsOf]; omega, fun i hi p hp => ?_⟩
  unfold pairsOf at hp
  rw [List.getElem?_map] at hp
  cases hk : (setOf m)[i]? with
  | none => rw [hk] at hp; cases hp
  | some k =>
    rw [hk] at hp; cases hp
    refine ⟨fun h0 q hq => ?_, List.mem_of_getElem? hk, by simp only; omega⟩
    unfold pairsOf at hq
    rw [List.getElem?_map] at hq
    cases hk2 : (setOf m)[i - 1]? with
    | none => rw [hk2] at hq; cases hq
    | some k2 => rw [hk2] at hq; cases hq; exact hr (i - 1) k2 k hk2 (by rw [show i - 1 + 1 = i by omega]; exact hk)
theorem put11 (b : Bk) (s : Sto) (F : Nat → Prop) (r : Raw) (now : Int) (H : Heap) (hs : SH H b s F) (hi : SInv s) (hn : s.n ≤ 900000) (hr : RawOk r) (ht : TickOk now) :
    W env (.call 11 [.ptr b.s 0, .agg (eR r), .int .i64 now]) H (PutQ b s F (idOf r.write) (pairsOf (setOf r.mask) (shortOf r.value)) (setOf r.mask) now H) := by
  refine W.fnI rfl rfl rfl ?_
  simp -implicitDefEqProofs only [ir11, eR, op, ef, cl, sq, reduceIte, Int.reduceLT, Int.reduceLE, Int.reduceBEq, Int.reduceBNe, Int.reduceEq, Nat.reduceAdd, Nat.reduceLeDiff, Nat.reduceLT, Nat.reduceEqDiff, S1, S2]
  refine callB_of _ _ _ _ _ _ _ _ (set18 r.mask _) ?_
  rintro u H1 ⟨hx1, ks, hko, hu⟩
  cases hu
  have hx0 : Ext H (H ++ [B.cells [T.int .i64 r.kind, .int .i64 r.write, .int .i64 r.mask, .str r.value]]) := ⟨_, rfl⟩
  have c1 : H1[H.length]? = some (.cells [.int .i64 r.kind, .int .i64 r.write, .int .i64 r.mask, .str r.value]) := hx1.get (g_tail rfl)
  have hsl := setOf_len r.mask
  simp -implicitDefEqProofs only [op, ef, cl, sq, reduceIte, Int.reduceLT, Int.reduceLE, Int.reduceBEq, Int.reduceBNe, Int.reduceEq, Nat.reduceAdd, Nat.reduceLeDiff, Nat.reduceLT, Nat.reduceEqDiff, S1]
  refine W.loopI (fun (i : Nat) R H' => At H' (fun H' => ∃ kw, R 9 = .sl kw ((pairsOf ((setOf r.mask).take i) (shortOf r.value)).map eP) ∧ Ext H1 H' ∧ Apd H1.length H' kw) ∧ R 0 = .ptr b.s 0 ∧ R 2 = .int .i64 now ∧ R 4 = .ptr H.length 0 ∧ R 8 = .sl ks ((setOf r.mask).map eS) ∧ R 10 = .int .i64 i ∧ i ≤ (setOf r.mask).length) (fun i => (setOf r.mask).length - i) 0 ⟨.i ⟨.nil, rfl, Ext.rfl', apd_nil _ _⟩, rfl, rfl, rfl, rfl, rfl, Nat.zero_le _⟩ ?_
  rintro i R H2 ⟨⟨kw, h9, hx2, hap⟩, h0, h2, h4, h8, h10, hil⟩
  have c2 := hx2.get c1
  by_cases hlt : i < (setOf r.mask).length
  · obtain ⟨k, hk⟩ := getP hlt
    have ws := wrap_succ (show i < 9223372036854775807 by omega)
    have hia := iadX (e := eS) (n := 1) (fun _ => rfl) (by decide) (k := ks) hk
    simp -implicitDefEqProofs only [op, ef, cl, sq, reduceIte, Int.reduceLT, Int.reduceLE, Int.reduceBEq, Int.reduceBNe, Int.reduceEq, Nat.reduceAdd, Nat.reduceLeDiff, Nat.reduceLT, Nat.reduceEqDiff, S1, h0, h2, h4, h8, h9, h10, List.length_map, hlt, natOf_nat, hia, eS, c2]
    refine callB_of _ _ _ _ _ _ _ _ (short19 r.value _) ?_
    rintro u H3 ⟨hu, rfl⟩
    cases hu
    have hall := all_map (enc := eP) (n := 2) (fun _ => rfl) (pairsOf ((setOf r.mask).take i) (shortOf r.value))
    obtain ⟨k', H', ha, hap', hst⟩ := app_ok (bytes := 32) ((pairsOf ((setOf r.mask).take i) (shortOf r.value)).map eP) [[T.str k, .str (shortOf r.value)]] hap hx2.len (by simp) (roomS (by simp [pairsOf]; omega) (by omega))
    simp -implicitDefEqProofs only [op, ef, cl, sq, reduceIte, Int.reduceLT, Int.reduceLE, Int.reduceBEq, Int.reduceBNe, Int.reduceEq, Nat.reduceAdd, Nat.reduceLeDiff, Nat.reduceLT, Nat.reduceEqDiff, S1] at ha
    simp -implicitDefEqProofs only [op, ef, cl, sq, reduceIte, Int.reduceLT, Int.reduceLE, Int.reduceBEq, Int.reduceBNe, Int.reduceEq, Nat.reduceAdd, Nat.reduceLeDiff, Nat.reduceLT, Nat.reduceEqDiff, S1, h0, h2, h4, h8, h9, h10, hia, hall, ha, ws]
    refine ⟨i + 1, by omega, .i ⟨k', ?_, hst.ext H1 (Nat.le_refl _) hx2, hap'⟩, rfl, by omega⟩
    simp [take_sn hk, pairsOf, eP]
  · have hil' : i = (setOf r.mask).length := by omega
    subst hil'
    rw [List.take_length] at h9
    simp -implicitDefEqProofs only [op, ef, cl, sq, reduceIte, Int.reduceLT, Int.reduceLE, Int.reduceBEq, Int.reduceBNe, Int.reduceEq, Nat.reduceAdd, Nat.reduceLeDiff, Nat.reduceLT, Nat.reduceEqDiff, S1, h0, h2, h4, h8, h9, h10, List.length_map, hlt, c2]
    refine callB_of _ _ _ _ _ _ _ _ (id9 r.write hr.2.1 _) ?_
    rintro u H3 ⟨hu, rfl⟩
    cases hu
    have hxx := (hx0.trans hx1).trans hx2
    simp -implicitDefEqProofs only [op, ef, cl, sq, reduceIte, Int.reduceLT, Int.reduceLE, Int.reduceBEq, Int.reduceBNe, Int.reduceEq, Nat.reduceAdd, Nat.reduceLeDiff, Nat.reduceLT, Nat.reduceEqDiff, S1, h0, h2, h8, h9]
    refine callB_of _ _ _ _ _ _ _ _ (put28 b s F (idOf r.write) kw ks (pairsOf (setOf r.mask) (shortOf r.value)) (setOf r.mask) now _ (hs.ext hxx) hi (by simp [pairsOf]; omega) hko (may_put _ _ _) ht) ?_
    rintro u H4 ⟨s', F', fr, hu, q1, q2, q3, q4, q5, q6⟩
    cases hu
    simp -implicitDefEqProofs only [op, ef, cl, sq, reduceIte, Int.reduceLT, Int.reduceLE, Int.reduceBEq, Int.reduceBNe, Int.reduceEq, Nat.reduceAdd, Nat.reduceLeDiff, Nat.reduceLT, Nat.reduceEqDiff, S1]
    exact ⟨s', F', fr, rfl, q1, q2, q3, q4, (ext_frm (F := fun _ => False) hxx).trans' q5, fun c h => (q6 c h).imp id fun h => ⟨by have := hxx.len; omega, h.2⟩⟩
end Go.Proofs.Ytbkgokabcnogdaa.St
end

/-! text StoreWa -/
section
namespace Go.Proofs.Ytbkgokabcnogdaa.St
open Go.Rmp Go.Proofs.Ytbkgokabcnogdaa.Ir
set_option maxRecDepth 10000
/-- a version has the stamp of what is current just where it is not below the last -/
def Stm (s : Sto) : Prop := ∀ m h, mlook s.vs m = some h → (h.stamp = -1 ↔ ¬ (m.2 < lastOf s m.1))
theorem Stm.emp : Stm Sto.emp := fun m h hm => by simp [Sto.emp, mlook_nil] at hm
theorem Stm.put {s s' : Sto} {n : Nat} {ks : List ByteArray} {v : ByteArray} {now : Int} {fr : Bool} (hs : Stm s) (hp : PutV s s' n (pairsOf ks v) ks now fr) (ht : 0 ≤ now) : Stm s' := by
  have hl : ∀ k, lastOf s' k = lastOf s k := fun k => by simp [lastOf, hp.ls]
  intro m h hm
  rw [hl]
  by_cases hc : m.2 = n ∧ m.1 ∈ ks
  · obtain ⟨h1, h2⟩ := hc
    have hmem : (m.1, v) ∈ pairsOf ks v := List.mem_map.2 ⟨m.1, h2, rfl⟩
    have e : m = (m.1, n) := Prod.ext rfl h1
    cases hv : mlook s.vs (m.1, n) with
    | some x =>
      have := hp.old _ hmem x hv
      rw [e, this] at hm; cases hm
      exact hs m h (by rw [e]; exact hv)
    | none =>
      obtain ⟨kk, _, hnew⟩ := hp.new _ hmem hv
      rw [e, hnew] at hm; cases hm
      simp -implicitDefEqProofs only [h1]
      by_cases hlt : n < lastOf s m.1
      · simp [hlt]; omega
      · simp [hlt]
  · rw [hp.other m (if h1 : m.2 = n then .inr (by rw [pairsOf_keys]; exact fun h2 => hc ⟨h1, h2⟩) else .inl h1)] at hm
    exact hs m h hm
theorem com_on {s s' : Sto} {n : Nat} {now : Int} {D : List ByteArray} (hc : ComV s s' n now D) {k : ByteArray} (h1 : k ∈ D) (h2 : lastOf s k < n) : lastOf s' k = n := by simp [lastOf, hc.on k h1 h2]
theorem com_off {s s' : Sto} {n : Nat} {now : Int} {D : List ByteArray} (hc : ComV s s' n now D) {k : ByteArray} (h : ¬ (k ∈ D ∧ lastOf s k < n)) : lastOf s' k = lastOf s k := by simp [lastOf, hc.off k h]
theorem Stm.com {s s' : Sto} {n : Nat} {now : Int} {D : List ByteArray} (hs : Stm s) (hc : ComV s s' n now D) (ht : 0 ≤ now) : Stm s' := by
  intro m h hm
  obtain ⟨h1, h2⟩ := hc.vs.2 m
  cases hv : mlook s.vs m with
  | none => rw [h1 hv] at hm; cases hm
  | some x =>
    have hx := hs m x hv
    by_cases hS : (m.1 ∈ D ∧ lastOf s m.1 < n ∧ m.2 < n) ∧ x.stamp = -1
    · rw [(h2 x hv).1 hS] at hm; cases hm
      rw [com_on hc hS.1.1 hS.1.2.1]
      have e : (stamped x now).stamp = now := rfl
      have h3 := hS.1.2.2
      rw [e]
      constructor
      · intro h; omega
      · intro h; exact absurd h3 h
    · rw [(h2 x hv).2 hS] at hm; cases hm
      by_cases hd : m.1 ∈ D ∧ lastOf s m.1 < n
      · rw [com_on hc hd.1 hd.2]
        by_cases hlt : m.2 < n
        · have : h.stamp ≠ -1 := fun e => hS ⟨⟨hd.1, hd.2, hlt⟩, e⟩
          exact ⟨fun e => absurd e this, fun e => absurd hlt e⟩
        · have : ¬ (m.2 < lastOf s m.1) := by omega
          exact ⟨fun _ => hlt, fun _ => hx.2 this⟩
      · rw [com_off hc hd]; exact hx
theorem Stm.drop {s : Sto} (hi : SInv s) (hs : Stm s) (k : ByteArray) (n : Nat) : Stm (s.drop k n) := by
  intro m h hm
  simp -implicitDefEqProofs only [Sto.drop, mcut_look hi.nd] at hm
  split at hm
  · cases hm
  · exact hs m h hm
theorem SH.set1 {H : Heap} {b : Bk} {s : Sto} {F : Nat → Prop} {L : Nat} {x : B} (h : SH H b s F) (hF : ¬ F L) : SH (H.set L x) b s F := by
  obtain ⟨im, pm, h⟩ := h
  exact ⟨im, pm, h.frm (G := fun c => c = L) ⟨by simp, fun c _ hne => List.getElem?_set_ne (fun e => hne e.symm)⟩ fun c hc _ e => hF (e ▸ hc)⟩
end Go.Proofs.Ytbkgokabcnogdaa.St
end

/-! text StoreYa -/
section
namespace Go.Proofs.Ytbkgokabcnogdaa.St
open Go.Rmp Go.Proofs.Ytbkgokabcnogdaa.Ir
set_option maxRecDepth 10000
theorem texts37 (k k' : SK) (l : List ByteArray) (H : Heap) (hl : l.length ≤ 1000000) : W env (.call 37 [.sl k (l.map eS), .sl k' (l.map eS)]) H (fun o H' => o = .val (.bool true) ∧ H' = H) := by
  refine W.fnI rfl rfl rfl ?_
  have e0 : (((l.length : Nat) : Int) != ((l.length : Nat) : Int)) = false := by simp
  simp -implicitDefEqProofs only [ir37, op, ef, cl, sq, reduceIte, Int.reduceLT, Int.reduceLE, Int.reduceBEq, Int.reduceBNe, Int.reduceEq, Nat.reduceAdd, Nat.reduceLeDiff, Nat.reduceLT, Nat.reduceEqDiff, S1, List.length_map, e0]
  refine W.loopI (fun (i : Nat) R H' => H' = H ∧ R 0 = .sl k (l.map eS) ∧ R 1 = .sl k' (l.map eS) ∧ R 5 = .int .i64 i ∧ i ≤ l.length) (fun i => l.length - i) 0 ⟨rfl, rfl, rfl, rfl, Nat.zero_le _⟩ ?_
  rintro i R _ ⟨rfl, h0, h1, h5, hil⟩
  by_cases hlt : i < l.length
  · obtain ⟨x, hx⟩ := getP hlt
    have ws := wrap_succ (show i < 9223372036854775807 by omega)
    have i1 := iadX (e := eS) (n := 1) (fun _ => rfl) (by decide) (k := k) hx
    have i2 := iadX (e := eS) (n := 1) (fun _ => rfl) (by decide) (k := k') hx
    simp -implicitDefEqProofs only [op, ef, cl, sq, reduceIte, Int.reduceLT, Int.reduceLE, Int.reduceBEq, Int.reduceBNe, Int.reduceEq, Nat.reduceAdd, Nat.reduceLeDiff, Nat.reduceLT, Nat.reduceEqDiff, S1, h0, h1, h5, List.length_map, hlt, natOf_nat, i1, i2, eS, ws]
    exact ⟨i + 1, by omega, rfl, by omega⟩
  · simp -implicitDefEqProofs only [op, ef, cl, sq, reduceIte, Int.reduceLT, Int.reduceLE, Int.reduceBEq, Int.reduceBNe, Int.reduceEq, Nat.reduceAdd, Nat.reduceLeDiff, Nat.reduceLT, Nat.reduceEqDiff, S1, h0, h1, h5, List.length_map, hlt]
/-- a version as it is said -/
def eD (x : Nm × Hd) : List T := [.str x.1.1, .int .u64 x.1.2, .str x.2.value, .sl .arg (x.2.keys.map eS)]
theorem same22 (k : ByteArray) (n : Nat) (v : ByteArray) (kk kk' : SK) (ks : List ByteArray) (H : Heap) (hl : ks.length ≤ 1000000) : W env (.call 22 [.agg (eVer k n v kk ks), .agg (eVer k n v kk' ks)]) H (RetG (.bool true) H) := by
  refine W.fnI rfl rfl rfl ?_
  simp -implicitDefEqProofs only [ir22, eVer, op, ef, cl, sq, reduceIte, Int.reduceLT, Int.reduceLE, Int.reduceBEq, Int.reduceBNe, Int.reduceEq, Nat.reduceAdd, Nat.reduceLeDiff, Nat.reduceLT, Nat.reduceEqDiff, S1, S2, S3]
  refine callB_of _ _ _ _ _ _ _ _ (texts37 kk kk' ks _ hl) ?_
  rintro u H1 ⟨hu, rfl⟩
  cases hu
  simp -implicitDefEqProofs only [op, ef, cl, sq, reduceIte, Int.reduceLT, Int.reduceLE, Int.reduceBEq, Int.reduceBNe, Int.reduceEq, Nat.reduceAdd, Nat.reduceLeDiff, Nat.reduceLT, Nat.reduceEqDiff, S1]
  exact ⟨rfl, _, List.append_assoc _ _ _⟩
/-- what stamps asks of one version -/
structure StOk (s : Sto) (A0 : List (Nm × Hd)) (now : Int) (x : Nm × Hd) : Prop where
  cur : x.2.stamp = -1 ↔ ¬ (x.1.2 < lastOf s x.1.1)
  pos : x.2.stamp = -1 ∨ 0 ≤ x.2.stamp
  old : ∀ y ∈ A0, y.1 = x.1 → x.2.stamp = y.2.stamp ∨ (y.2.stamp = -1 ∧ x.2.stamp = now)
  new : (∀ y ∈ A0, y.1 ≠ x.1) → x.2.stamp = -1 ∨ x.2.stamp = now
theorem stamps21 (b : Bk) (s : Sto) (F : Nat → Prop) (k1 k2 : SK) (A0 A1 : List (Nm × Hd)) (now : Int) (H : Heap) (hs : SH H b s F) (h0 : A0.length ≤ 1000000) (h1 : A1.length ≤ 1000000) (hA : ∀ x ∈ A1, StOk s A0 now x) :
    W env (.call 21 [.sl k1 (A0.map eK), .sl k2 (A1.map eK), .ptr b.s 0, .int .i64 now]) H (RetG (.bool true) H) := by
  refine W.fnI rfl rfl rfl ?_
  simp -implicitDefEqProofs only [ir21, op, ef, cl, sq, reduceIte, Int.reduceLT, Int.reduceLE, Int.reduceBEq, Int.reduceBNe, Int.reduceEq, Nat.reduceAdd, Nat.reduceLeDiff, Nat.reduceLT, Nat.reduceEqDiff, S1]
  refine W.loopI (fun (i : Nat) R H' => At H' (fun H' => Ext H H') ∧ R 0 = .sl k1 (A0.map eK) ∧ R 1 = .sl k2 (A1.map eK) ∧ R 2 = .ptr b.s 0 ∧ R 3 = .int .i64 now ∧ R 9 = .int .i64 i ∧ i ≤ A1.length) (fun i => A1.length - i) 0 ⟨.i Ext.rfl', rfl, rfl, rfl, rfl, rfl, Nat.zero_le _⟩ ?_
  rintro i R H1 ⟨⟨w, hw⟩, r0, r1, r2, r3, r9, hi⟩
  have hx1 : Ext H H1 := ⟨w, hw⟩
  by_cases hlt : i < A1.length
  rotate_left
  · simp -implicitDefEqProofs only [op, ef, cl, sq, reduceIte, Int.reduceLT, Int.reduceLE, Int.reduceBEq, Int.reduceBNe, Int.reduceEq, Nat.reduceAdd, Nat.reduceLeDiff, Nat.reduceLT, Nat.reduceEqDiff, S1, r0, r1, r2, r3, r9, List.length_map, hlt]
    exact ⟨rfl, hx1⟩
  obtain ⟨⟨m, hd⟩, hx⟩ := getP hlt
  have hok := hA _ (List.mem_of_getElem? hx)
  obtain ⟨c1, c2, c3, c4⟩ := hok
  simp only at c1 c2 c3 c4
  have ws := wrap_succ (show i < 9223372036854775807 by omega)
  have i1 := iadX (e := eK) (n := 5) (fun _ => rfl) (by decide) (k := k2) hx
  simp -implicitDefEqProofs only [op, ef, cl, sq, reduceIte, Int.reduceLT, Int.reduceLE, Int.reduceBEq, Int.reduceBNe, Int.reduceEq, Nat.reduceAdd, Nat.reduceLeDiff, Nat.reduceLT, Nat.reduceEqDiff, S1, S2, r0, r1, r2, r3, r9, List.length_map, hlt, natOf_nat, i1, eK]
  refine callB_of _ _ _ _ _ _ _ _ (last17 b s F m.1 _ (hs.ext (hx1.app _))) ?_
  rintro u H2 ⟨hu, rfl⟩
  cases hu
  obtain ⟨st, hst⟩ : ∃ st, st = hd.stamp := ⟨_, rfl⟩
  rw [← hst] at c1 c2 c3 c4
  have hH2 : (H1 ++ [B.cells [T.str m.1, .int .u64 m.2, .str hd.value, .sl .arg (hd.keys.map eS)]])[H1.length]? = some (.cells [T.str m.1, .int .u64 m.2, .str hd.value, .sl .arg (hd.keys.map eS)]) := g_tail rfl
  have hx2 : Ext H (H1 ++ [B.cells [T.str m.1, .int .u64 m.2, .str hd.value, .sl .arg (hd.keys.map eS)]]) := hx1.app _
  generalize hHH : H1 ++ [B.cells [T.str m.1, .int .u64 m.2, .str hd.value, .sl .arg (hd.keys.map eS)]] = H2 at *
  simp -implicitDefEqProofs only [op, ef, cl, sq, reduceIte, Int.reduceLT, Int.reduceLE, Int.reduceBEq, Int.reduceBNe, Int.reduceEq, Nat.reduceAdd, Nat.reduceLeDiff, Nat.reduceLT, Nat.reduceEqDiff, S1, hH2, r0, r1, r2, r3, r9]
  have tail : ∀ (old : Int), ((old = -2 ∧ ∀ y ∈ A0, y.1 ≠ m) ∨ ∃ y ∈ A0, y.1 = m ∧ old = y.2.stamp) → (0 ≤ old → st = old) ∧ (old < 0 → m.2 < lastOf s m.1 → st = now) := by
    rintro old (⟨rfl, hno⟩ | ⟨y, hy, hym, rfl⟩)
    · refine ⟨fun h => by omega, fun _ hl => ?_⟩
      rcases c4 hno with h | h
      · exact absurd hl (c1.1 h)
      · exact h
    · refine ⟨fun h => ?_, fun h hl => ?_⟩
      · rcases c3 y hy hym with h' | h'
        · exact h'
        · omega
      · rcases c3 y hy hym with h' | h'
        · rcases c2 with c2 | c2
          · exact absurd hl (c1.1 c2)
          · omega
        · exact h'.2
  by_cases hbl : m.2 < lastOf s m.1
  · have hst0 : 0 ≤ st := by rcases c2 with c | c; exact absurd hbl (c1.1 c); exact c
    simp -implicitDefEqProofs only [op, ef, cl, sq, reduceIte, Int.reduceLT, Int.reduceLE, Int.reduceBEq, Int.reduceBNe, Int.reduceEq, Nat.reduceAdd, Nat.reduceLeDiff, Nat.reduceLT, Nat.reduceEqDiff, S1, hH2, r0, r1, r2, r3, r9, hbl, natOf_nat, i1, eK, ← hst, hst0]
    refine W.loopE 2 (fun (j : Nat) R H' => H' = H2 ∧ R 0 = .sl k1 (A0.map eK) ∧ R 1 = .sl k2 (A1.map eK) ∧ R 2 = .ptr b.s 0 ∧ R 3 = .int .i64 now ∧ R 9 = .int .i64 i ∧ R 10 = .ptr H1.length 0 ∧ R 11 = .bool true ∧ R 13 = .int .i64 j ∧ j ≤ A0.length ∧ ∃ old, R 12 = .int .i64 old ∧ ((old = -2 ∧ ∀ y ∈ A0.take j, y.1 ≠ m) ∨ ∃ y ∈ A0, y.1 = m ∧ old = y.2.stamp)) (fun j => A0.length - j) 0
      (fun R H' => H' = H2 ∧ R 0 = .sl k1 (A0.map eK) ∧ R 1 = .sl k2 (A1.map eK) ∧ R 2 = .ptr b.s 0 ∧ R 3 = .int .i64 now ∧ R 9 = .int .i64 i ∧ R 10 = .ptr H1.length 0 ∧ R 11 = .bool true ∧ ∃ old, R 12 = .int .i64 old ∧ ((old = -2 ∧ ∀ y ∈ A0, y.1 ≠ m) ∨ ∃ y ∈ A0, y.1 = m ∧ old = y.2.stamp)) ?_ ?_ ?_
    · refine ⟨rfl, ?_, ?_, ?_, ?_, ?_, ?_, ?_, ?_, Nat.zero_le _, -2, ?_, .inl ⟨rfl, by simp⟩⟩
      all_goals simp -implicitDefEqProofs only [op, ef, cl, sq, reduceIte, Int.reduceLT, Int.reduceLE, Int.reduceBEq, Int.reduceBNe, Int.reduceEq, Nat.reduceAdd, Nat.reduceLeDiff, Nat.reduceLT, Nat.reduceEqDiff, S1, r0, r1, r2, r3, r9]
      all_goals rfl
    · rintro j R H3 ⟨rfl, r0, r1, r2, r3, r9, r10, r11, r13, hj, old, r12, hold⟩
      by_cases hj2 : j < A0.length
      · obtain ⟨⟨m2, hd2⟩, hy⟩ := getP hj2
        have i2 := iadX (e := eK) (n := 5) (fun _ => rfl) (by decide) (k := k1) hy
        have wj := wrap_succ (show j < 9223372036854775807 by omega)
        by_cases hk : m2.1 = m.1
        · by_cases hn : m2.2 = m.2
          · have en : ((m2.2 : Int) == (m.2 : Int)) = true := by rw [hn]; simp
            simp -implicitDefEqProofs only [op, ef, cl, sq, reduceIte, Int.reduceLT, Int.reduceLE, Int.reduceBEq, Int.reduceBNe, Int.reduceEq, Nat.reduceAdd, Nat.reduceLeDiff, Nat.reduceLT, Nat.reduceEqDiff, S1, r0, r1, r2, r3, r9, r10, r11, r12, r13, List.length_map, hj2, natOf_nat, i2, eK, hH2, hk, en, wj]
            exact ⟨j + 1, by omega, rfl, by omega, hd2.stamp, rfl, .inr ⟨_, List.mem_of_getElem? hy, Prod.ext hk hn, rfl⟩⟩
          · have en : ((m2.2 : Int) == (m.2 : Int)) = false := by simp; omega
            simp -implicitDefEqProofs only [op, ef, cl, sq, reduceIte, Int.reduceLT, Int.reduceLE, Int.reduceBEq, Int.reduceBNe, Int.reduceEq, Nat.reduceAdd, Nat.reduceLeDiff, Nat.reduceLT, Nat.reduceEqDiff, S1, r0, r1, r2, r3, r9, r10, r11, r12, r13, List.length_map, hj2, natOf_nat, i2, eK, hH2, hk, en, wj]
            refine ⟨j + 1, by omega, rfl, by omega, old, rfl, hold.imp (fun ⟨h1, h2⟩ => ⟨h1, fun y hy' => ?_⟩) id⟩
            rw [take_sn hy, List.mem_append, List.mem_singleton] at hy'
            rcases hy' with h | rfl
            · exact h2 y h
            · exact fun e => hn (by rw [← e])
        · simp -implicitDefEqProofs only [op, ef, cl, sq, reduceIte, Int.reduceLT, Int.reduceLE, Int.reduceBEq, Int.reduceBNe, Int.reduceEq, Nat.reduceAdd, Nat.reduceLeDiff, Nat.reduceLT, Nat.reduceEqDiff, S1, r0, r1, r2, r3, r9, r10, r11, r12, r13, List.length_map, hj2, natOf_nat, i2, eK, hH2, hk, wj]
          refine ⟨j + 1, by omega, rfl, by omega, old, rfl, hold.imp (fun ⟨h1, h2⟩ => ⟨h1, fun y hy' => ?_⟩) id⟩
          rw [take_sn hy, List.mem_append, List.mem_singleton] at hy'
          rcases hy' with h | rfl
          · exact h2 y h
          · exact fun e => hk (by rw [← e])
      · have hj3 : j = A0.length := by omega
        subst hj3
        rw [List.take_length] at hold
        simp -implicitDefEqProofs only [op, ef, cl, sq, reduceIte, Int.reduceLT, Int.reduceLE, Int.reduceBEq, Int.reduceBNe, Int.reduceEq, Nat.reduceAdd, Nat.reduceLeDiff, Nat.reduceLT, Nat.reduceEqDiff, S1, r0, r1, r2, r3, r9, r10, r11, r12, r13, List.length_map, hj2]
        exact ⟨old, rfl, hold⟩
    · rintro R H3 ⟨rfl, r0, r1, r2, r3, r9, r10, r11, old, r12, hold⟩
      obtain ⟨t1, t2⟩ := tail old hold
      by_cases ho : 0 ≤ old
      · have e1 : (hd.stamp != old) = false := by rw [← hst, t1 ho]; simp
        have hneg : ¬ (old < 0) := by omega
        simp -implicitDefEqProofs only [op, ef, cl, sq, reduceIte, Int.reduceLT, Int.reduceLE, Int.reduceBEq, Int.reduceBNe, Int.reduceEq, Nat.reduceAdd, Nat.reduceLeDiff, Nat.reduceLT, Nat.reduceEqDiff, S1, r0, r1, r2, r3, r9, r10, r11, r12, natOf_nat, i1, eK, hH2, ho, e1, hneg, ws]
        exact ⟨i + 1, by omega, .i hx2, rfl, by omega⟩
      · have hneg : old < 0 := by omega
        have e1 : (hd.stamp != now) = false := by rw [← hst, t2 hneg hbl]; simp
        simp -implicitDefEqProofs only [op, ef, cl, sq, reduceIte, Int.reduceLT, Int.reduceLE, Int.reduceBEq, Int.reduceBNe, Int.reduceEq, Nat.reduceAdd, Nat.reduceLeDiff, Nat.reduceLT, Nat.reduceEqDiff, S1, r0, r1, r2, r3, r9, r10, r11, r12, natOf_nat, i1, eK, hH2, ho, e1, hneg, ws]
        exact ⟨i + 1, by omega, .i hx2, rfl, by omega⟩
  · have hst1 : st = -1 := c1.2 hbl
    subst hst1
    simp -implicitDefEqProofs only [op, ef, cl, sq, reduceIte, Int.reduceLT, Int.reduceLE, Int.reduceBEq, Int.reduceBNe, Int.reduceEq, Nat.reduceAdd, Nat.reduceLeDiff, Nat.reduceLT, Nat.reduceEqDiff, S1, hH2, r0, r1, r2, r3, r9, hbl, natOf_nat, i1, eK, ← hst]
    refine W.loopE 2 (fun (j : Nat) R H' => H' = H2 ∧ R 0 = .sl k1 (A0.map eK) ∧ R 1 = .sl k2 (A1.map eK) ∧ R 2 = .ptr b.s 0 ∧ R 3 = .int .i64 now ∧ R 9 = .int .i64 i ∧ R 10 = .ptr H1.length 0 ∧ R 11 = .bool false ∧ R 13 = .int .i64 j ∧ j ≤ A0.length ∧ ∃ old, R 12 = .int .i64 old ∧ ((old = -2 ∧ ∀ y ∈ A0.take j, y.1 ≠ m) ∨ ∃ y ∈ A0, y.1 = m ∧ old = y.2.stamp)) (fun j => A0.length - j) 0
      (fun R H' => H' = H2 ∧ R 0 = .sl k1 (A0.map eK) ∧ R 1 = .sl k2 (A1.map eK) ∧ R 2 = .ptr b.s 0 ∧ R 3 = .int .i64 now ∧ R 9 = .int .i64 i ∧ R 10 = .ptr H1.length 0 ∧ R 11 = .bool false ∧ ∃ old, R 12 = .int .i64 old ∧ ((old = -2 ∧ ∀ y ∈ A0, y.1 ≠ m) ∨ ∃ y ∈ A0, y.1 = m ∧ old = y.2.stamp)) ?_ ?_ ?_
    · refine ⟨rfl, ?_, ?_, ?_, ?_, ?_, ?_, ?_, ?_, Nat.zero_le _, -2, ?_, .inl ⟨rfl, by simp⟩⟩
      all_goals simp -implicitDefEqProofs only [op, ef, cl, sq, reduceIte, Int.reduceLT, Int.reduceLE, Int.reduceBEq, Int.reduceBNe, Int.reduceEq, Nat.reduceAdd, Nat.reduceLeDiff, Nat.reduceLT, Nat.reduceEqDiff, S1, r0, r1, r2, r3, r9]
      all_goals rfl
    · rintro j R H3 ⟨rfl, r0, r1, r2, r3, r9, r10, r11, r13, hj, old, r12, hold⟩
      by_cases hj2 : j < A0.length
      · obtain ⟨⟨m2, hd2⟩, hy⟩ := getP hj2
        have i2 := iadX (e := eK) (n := 5) (fun _ => rfl) (by decide) (k := k1) hy
        have wj := wrap_succ (show j < 9223372036854775807 by omega)
        by_cases hk : m2.1 = m.1
        · by_cases hn : m2.2 = m.2
          · have en : ((m2.2 : Int) == (m.2 : Int)) = true := by rw [hn]; simp
            simp -implicitDefEqProofs only [op, ef, cl, sq, reduceIte, Int.reduceLT, Int.reduceLE, Int.reduceBEq, Int.reduceBNe, Int.reduceEq, Nat.reduceAdd, Nat.reduceLeDiff, Nat.reduceLT, Nat.reduceEqDiff, S1, r0, r1, r2, r3, r9, r10, r11, r12, r13, List.length_map, hj2, natOf_nat, i2, eK, hH2, hk, en, wj]
            exact ⟨j + 1, by omega, rfl, by omega, hd2.stamp, rfl, .inr ⟨_, List.mem_of_getElem? hy, Prod.ext hk hn, rfl⟩⟩
          · have en : ((m2.2 : Int) == (m.2 : Int)) = false := by simp; omega
            simp -implicitDefEqProofs only [op, ef, cl, sq, reduceIte, Int.reduceLT, Int.reduceLE, Int.reduceBEq, Int.reduceBNe, Int.reduceEq, Nat.reduceAdd, Nat.reduceLeDiff, Nat.reduceLT, Nat.reduceEqDiff, S1, r0, r1, r2, r3, r9, r10, r11, r12, r13, List.length_map, hj2, natOf_nat, i2, eK, hH2, hk, en, wj]
            refine ⟨j + 1, by omega, rfl, by omega, old, rfl, hold.imp (fun ⟨h1, h2⟩ => ⟨h1, fun y hy' => ?_⟩) id⟩
            rw [take_sn hy, List.mem_append, List.mem_singleton] at hy'
            rcases hy' with h | rfl
            · exact h2 y h
            · exact fun e => hn (by rw [← e])
        · simp -implicitDefEqProofs only [op, ef, cl, sq, reduceIte, Int.reduceLT, Int.reduceLE, Int.reduceBEq, Int.reduceBNe, Int.reduceEq, Nat.reduceAdd, Nat.reduceLeDiff, Nat.reduceLT, Nat.reduceEqDiff, S1, r0, r1, r2, r3, r9, r10, r11, r12, r13, List.length_map, hj2, natOf_nat, i2, eK, hH2, hk, wj]
          refine ⟨j + 1, by omega, rfl, by omega, old, rfl, hold.imp (fun ⟨h1, h2⟩ => ⟨h1, fun y hy' => ?_⟩) id⟩
          rw [take_sn hy, List.mem_append, List.mem_singleton] at hy'
          rcases hy' with h | rfl
          · exact h2 y h
          · exact fun e => hk (by rw [← e])
      · have hj3 : j = A0.length := by omega
        subst hj3
        rw [List.take_length] at hold
        simp -implicitDefEqProofs only [op, ef, cl, sq, reduceIte, Int.reduceLT, Int.reduceLE, Int.reduceBEq, Int.reduceBNe, Int.reduceEq, Nat.reduceAdd, Nat.reduceLeDiff, Nat.reduceLT, Nat.reduceEqDiff, S1, r0, r1, r2, r3, r9, r10, r11, r12, r13, List.length_map, hj2]
        exact ⟨old, rfl, hold⟩
    · rintro R H3 ⟨rfl, r0, r1, r2, r3, r9, r10, r11, old, r12, hold⟩
      obtain ⟨t1, t2⟩ := tail old hold
      have ho : ¬ (0 ≤ old) := fun h => by have := t1 h; omega
      have hneg : old < 0 := by omega
      simp -implicitDefEqProofs only [op, ef, cl, sq, reduceIte, Int.reduceLT, Int.reduceLE, Int.reduceBEq, Int.reduceBNe, Int.reduceEq, Nat.reduceAdd, Nat.reduceLeDiff, Nat.reduceLT, Nat.reduceEqDiff, S1, r0, r1, r2, r3, r9, r10, r11, r12, natOf_nat, i1, eK, hH2, ho, hneg, ws]
      exact ⟨i + 1, by omega, .i hx2, rfl, by omega⟩
end Go.Proofs.Ytbkgokabcnogdaa.St
end

/-! text StoreYb -/
section
namespace Go.Proofs.Ytbkgokabcnogdaa.St
open Go.Rmp Go.Proofs.Ytbkgokabcnogdaa.Ir
set_option maxRecDepth 10000
/-- stamps are not below 0 but -1 -/
def StN (s : Sto) : Prop := ∀ m h, mlook s.vs m = some h → h.stamp = -1 ∨ 0 ≤ h.stamp
theorem StN.emp : StN Sto.emp := fun m h hm => by simp [Sto.emp, mlook_nil] at hm
/-- what a step does to the stamps -/
def Stp (s s' : Sto) (now : Int) : Prop := ∀ m h', mlook s'.vs m = some h' → (∀ h, mlook s.vs m = some h → h'.stamp = h.stamp ∨ (h.stamp = -1 ∧ h'.stamp = now)) ∧ (mlook s.vs m = none → h'.stamp = -1 ∨ h'.stamp = now)
/-- the names of a store -/
def nms (s : Sto) : List Nm := s.vs.map (·.1)
theorem mem_nms {s : Sto} {m : Nm} : m ∈ nms s ↔ (mlook s.vs m).isSome = true := by
  unfold nms
  constructor
  · intro h
    cases e : mlook s.vs m with
    | some _ => rfl
    | none => exact absurd h (mlook_none.1 e)
  · intro h
    exact Classical.byContradiction fun hn => by rw [mlook_none.2 hn] at h; cases h
theorem StN.put {s s' : Sto} {n : Nat} {ks : List ByteArray} {v : ByteArray} {now : Int} {fr : Bool} (hs : StN s) (hp : PutV s s' n (pairsOf ks v) ks now fr) (ht : 0 ≤ now) : StN s' ∧ Stp s s' now := by
  have key : ∀ m h', mlook s'.vs m = some h' → (mlook s.vs m = some h') ∨ (mlook s.vs m = none ∧ (h'.stamp = -1 ∨ h'.stamp = now)) := by
    intro m h hm
    by_cases hc : m.2 = n ∧ m.1 ∈ ks
    · obtain ⟨h1, h2⟩ := hc
      have hmem : (m.1, v) ∈ pairsOf ks v := List.mem_map.2 ⟨m.1, h2, rfl⟩
      have e : m = (m.1, n) := Prod.ext rfl h1
      cases hv : mlook s.vs (m.1, n) with
      | some x =>
        have := hp.old _ hmem x hv
        rw [e, this] at hm; cases hm
        exact .inl (by rw [e]; exact hv)
      | none =>
        obtain ⟨kk, _, hnew⟩ := hp.new _ hmem hv
        rw [e, hnew] at hm; cases hm
        refine .inr ⟨by rw [e]; exact hv, ?_⟩
        simp only
        split
        · exact .inr rfl
        · exact .inl rfl
    · rw [hp.other m (if h1 : m.2 = n then .inr (by rw [pairsOf_keys]; exact fun h2 => hc ⟨h1, h2⟩) else .inl h1)] at hm
      exact .inl hm
  constructor
  · intro m h hm
    rcases key m h hm with h1 | ⟨_, h1⟩
    · exact hs m h h1
    · rcases h1 with h1 | h1
      · exact .inl h1
      · exact .inr (by omega)
  · intro m h' hm
    rcases key m h' hm with h1 | ⟨h0, h1⟩
    · exact ⟨fun h hh => .inl (by rw [h1] at hh; cases hh; rfl), fun hh => by rw [h1] at hh; cases hh⟩
    · exact ⟨fun h hh => (by rw [h0] at hh; cases hh), fun _ => h1⟩
theorem StN.com {s s' : Sto} {n : Nat} {now : Int} {D : List ByteArray} (hs : StN s) (hc : ComV s s' n now D) (ht : 0 ≤ now) : StN s' ∧ Stp s s' now := by
  have key : ∀ m h', mlook s'.vs m = some h' → ∃ h, mlook s.vs m = some h ∧ (h' = h ∨ (h.stamp = -1 ∧ h'.stamp = now)) := by
    intro m h' hm
    obtain ⟨h1, h2⟩ := hc.vs.2 m
    cases hv : mlook s.vs m with
    | none => rw [h1 hv] at hm; cases hm
    | some x =>
      refine ⟨x, rfl, ?_⟩
      by_cases hS : (m.1 ∈ D ∧ lastOf s m.1 < n ∧ m.2 < n) ∧ x.stamp = -1
      · rw [(h2 x hv).1 hS] at hm; cases hm; exact .inr ⟨hS.2, rfl⟩
      · rw [(h2 x hv).2 hS] at hm; cases hm; exact .inl rfl
  constructor
  · intro m h' hm
    obtain ⟨h, hh, rfl | ⟨_, h2⟩⟩ := key m h' hm
    · exact hs m _ hh
    · exact .inr (by omega)
  · intro m h' hm
    obtain ⟨h, hh, h1⟩ := key m h' hm
    refine ⟨fun x hx => ?_, fun hx => by rw [hx] at hh; cases hh⟩
    rw [hx] at hh; cases hh
    rcases h1 with rfl | h1
    · exact .inl rfl
    · exact .inr h1
theorem com_nms {s s' : Sto} {n : Nat} {now : Int} {D : List ByteArray} (hi : SInv s) (hc : ComV s s' n now D) : (nms s').Perm (nms s) := by
  refine (List.perm_ext_iff_of_nodup hc.vs.1 hi.nd).2 fun m => ?_
  have h := hc.vs.some m
  show m ∈ nms s' ↔ m ∈ nms s
  rw [mem_nms, mem_nms, h]
/-- what is said is there -/
def SdOk (s : Sto) (D : List (Nm × Hd)) : Prop := ∀ x ∈ D, ∃ h, mlook s.vs x.1 = some h ∧ h.value = x.2.value ∧ h.keys = x.2.keys ∧ x.2.keys.length ≤ 3
theorem SdOk.com {s s' : Sto} {n : Nat} {now : Int} {E : List ByteArray} {D : List (Nm × Hd)} (hd : SdOk s D) (hc : ComV s s' n now E) : SdOk s' D := by
  intro x hx
  obtain ⟨h, h1, h2, h3, h4⟩ := hd x hx
  obtain ⟨_, c2⟩ := hc.vs.2 x.1
  by_cases hS : (x.1.1 ∈ E ∧ lastOf s x.1.1 < n ∧ x.1.2 < n) ∧ h.stamp = -1
  · exact ⟨_, (c2 h h1).1 hS, h2, h3, h4⟩
  · exact ⟨_, (c2 h h1).2 hS, h2, h3, h4⟩
/-- what a put says anew -/
def newD (s : Sto) (n : Nat) (v : ByteArray) (ks l : List ByteArray) : List (Nm × Hd) := (l.filter fun k => (mlook s.vs (k, n)).isNone).map fun k => ((k, n), ⟨v, .arg, ks, 0⟩)
theorem newD_snoc (s : Sto) (n : Nat) (v : ByteArray) (ks l : List ByteArray) (k : ByteArray) : newD s n v ks (l ++ [k]) = newD s n v ks l ++ (if mlook s.vs (k, n) = none then [((k, n), ⟨v, .arg, ks, 0⟩)] else []) := by
  unfold newD
  rw [List.filter_append, List.map_append]
  cases h : mlook s.vs (k, n) <;> simp [h]
theorem SdOk.put {s s' : Sto} {n : Nat} {ks : List ByteArray} {v : ByteArray} {now : Int} {fr : Bool} {D : List (Nm × Hd)} (hd : SdOk s D) (hp : PutV s s' n (pairsOf ks v) ks now fr) (h3 : ks.length ≤ 3) : SdOk s' (D ++ newD s n v ks ks) := by
  intro x hx
  rcases List.mem_append.1 hx with hx | hx
  · obtain ⟨h, h1, h2, h3, h4⟩ := hd x hx
    refine ⟨h, ?_, h2, h3, h4⟩
    by_cases hc : x.1.2 = n ∧ x.1.1 ∈ ks
    · have hmem : (x.1.1, v) ∈ pairsOf ks v := List.mem_map.2 ⟨x.1.1, hc.2, rfl⟩
      have e : x.1 = (x.1.1, n) := Prod.ext rfl hc.1
      rw [e] at h1 ⊢
      exact hp.old _ hmem h h1
    · rw [hp.other x.1 (if h1 : x.1.2 = n then .inr (by rw [pairsOf_keys]; exact fun h2 => hc ⟨h1, h2⟩) else .inl h1)]; exact h1
  · obtain ⟨k, hk, rfl⟩ := List.mem_map.1 hx
    rw [List.mem_filter, Option.isNone_iff_eq_none] at hk
    obtain ⟨kk, _, hnew⟩ := hp.new (k, v) (List.mem_map.2 ⟨k, hk.1, rfl⟩) hk.2
    exact ⟨_, hnew, rfl, rfl, h3⟩
theorem put_nms {s s' : Sto} {n : Nat} {ks : List ByteArray} {v : ByteArray} {now : Int} {fr : Bool} (hi : SInv s) (hi' : SInv s') (hk : ks.Nodup) (hp : PutV s s' n (pairsOf ks v) ks now fr) : (nms s').Perm (nms s ++ (newD s n v ks ks).map (·.1)) := by
  have e : (newD s n v ks ks).map (·.1) = (ks.filter fun k => (mlook s.vs (k, n)).isNone).map fun k => (k, n) := by simp [newD, Function.comp_def]
  rw [e]
  have hnd : (nms s ++ (ks.filter fun k => (mlook s.vs (k, n)).isNone).map fun k => (k, n)).Nodup := by
    rw [List.nodup_append]
    refine ⟨hi.nd, (List.Pairwise.map _ (fun a b hab h => hab (by cases h; rfl)) (hk.filter _)), ?_⟩
    rintro a ha b hb rfl
    obtain ⟨k, hk, rfl⟩ := List.mem_map.1 hb
    rw [List.mem_filter, Option.isNone_iff_eq_none] at hk
    rw [mem_nms, hk.2] at ha; cases ha
  refine (List.perm_ext_iff_of_nodup hi'.nd hnd).2 fun m => ?_
  show m ∈ nms s' ↔ _
  rw [List.mem_append, mem_nms, mem_nms, List.mem_map]
  by_cases hc : m.2 = n ∧ m.1 ∈ ks
  · have hmem : (m.1, v) ∈ pairsOf ks v := List.mem_map.2 ⟨m.1, hc.2, rfl⟩
    have e : m = (m.1, n) := Prod.ext rfl hc.1
    constructor
    · intro _
      cases hv : mlook s.vs (m.1, n) with
      | some x => left; rw [e, hv]; rfl
      | none => right; exact ⟨m.1, List.mem_filter.2 ⟨hc.2, by rw [hv]; rfl⟩, e.symm⟩
    · intro _
      cases hv : mlook s.vs (m.1, n) with
      | some x => rw [e, hp.old _ hmem x hv]; rfl
      | none => obtain ⟨kk, _, hnew⟩ := hp.new _ hmem hv; rw [e, hnew]; rfl
  · rw [hp.other m (if h1 : m.2 = n then .inr (by rw [pairsOf_keys]; exact fun h2 => hc ⟨h1, h2⟩) else .inl h1)]
    constructor
    · exact .inl
    · rintro (h | ⟨k, hk, rfl⟩)
      · exact h
      · exact absurd ⟨rfl, (List.mem_filter.1 hk).1⟩ hc
/-- the kept versions of one state against those of the state ahead -/
theorem st_ok {s s' : Sto} {now : Int} {l0 l1 : List Nm} (hm : Stm s') (hn : StN s') (hp : Stp s s' now) (h0 : l0.Perm (nms s)) (h1 : l1.Perm (nms s')) : ∀ x ∈ keptL s' l1, StOk s' (keptL s l0) now x := by
  intro x hx
  obtain ⟨m, hm1, rfl⟩ := List.mem_map.1 hx
  have hs := mem_nms.1 (h1.mem_iff.1 hm1)
  cases e : mlook s'.vs m with
  | none => rw [e] at hs; cases hs
  | some h =>
    have e' : hdOf (some h) = h := rfl
    obtain ⟨q1, q2⟩ := hp m h e
    refine ⟨?_, ?_, ?_, ?_⟩
    · simp -implicitDefEqProofs only [e']; exact hm m h e
    · simp -implicitDefEqProofs only [e']; exact hn m h e
    · intro y hy hym
      obtain ⟨m2, hm2, rfl⟩ := List.mem_map.1 hy
      simp only at hym
      subst hym
      have hs2 := mem_nms.1 (h0.mem_iff.1 hm2)
      cases e2 : mlook s.vs m2 with
      | none => rw [e2] at hs2; cases hs2
      | some h2 => simp -implicitDefEqProofs only [e', show hdOf (some h2) = h2 from rfl]; exact q1 h2 e2
    · intro hno
      simp -implicitDefEqProofs only [e']
      refine q2 (Classical.byContradiction fun hne => ?_)
      have : m ∈ nms s := mem_nms.2 (by cases e2 : mlook s.vs m with | none => exact absurd e2 hne | some _ => rfl)
      exact hno _ (List.mem_map.2 ⟨m, h0.mem_iff.2 this, rfl⟩) rfl
end Go.Proofs.Ytbkgokabcnogdaa.St
end

/-! text StoreZl -/
section
namespace Go.Proofs.Ytbkgokabcnogdaa.St
open Go.Rmp Go.Proofs.Ytbkgokabcnogdaa.Ir
set_option maxRecDepth 10000
def SrtS (c : Nat) (d' : Array ByteArray) (H : Heap) : Out → Heap → Prop := fun o H' => o = .val (.tup []) ∧ H'[c]? = some (.cells (msC eS d'.toList)) ∧ Frm (fun x => x = c) H H'
theorem swp_setS {Hx : Heap} {c : Nat} (d : Array ByteArray) {i j : Nat} (hi : i < d.size) (hj : j < d.size) :
    stcB Hx c [.str d[j]!] (i * 1) (some (.cells (msC eS d.toList))) = some (Hx.set c (.cells (msC eS (d.toList.set i d[j]!)))) ∧
    ∀ Hy, stcB Hy c [.str d[i]!] (j * 1) (some (.cells (msC eS (d.toList.set i d[j]!)))) = some (Hy.set c (.cells (msC eS (Go.Sort.swp d i j).toList))) := by
  have g1 := msC_set (enc := eS) (n := 1) (y := d[j]!) (fun _ => rfl) (arr_get hi) Hx c (eS d[j]!) 0 (by simp [eS]) (by simp [eS])
  obtain ⟨z, hz⟩ := getP (l := d.toList.set i d[j]!) (i := j) (by simpa using hj)
  have g2 := fun Hy => msC_set (enc := eS) (n := 1) (y := d[i]!) (fun _ => rfl) hz Hy c (eS d[i]!) 0 (by simp [eS]) (by simp [eS])
  refine ⟨by simpa [eS] using g1, fun Hy => ?_⟩
  rw [swp_list]
  simpa [eS] using g2 Hy
theorem ld_atS {d : Array ByteArray} {i : Nat} (h : i < d.size) : ldcB 1 (i * 1) (some (.cells (msC eS d.toList))) = some [.str d[i]!] := by
  have := msC_get (enc := eS) (n := 1) (fun _ => rfl) (arr_get h) 0 1 (by decide)
  simpa [eS] using this
open Go.Sort in
theorem ins85 (c : Nat) (d : Array ByteArray) (a b : Nat) (H : Heap) (hc : H[c]? = some (.cells (msC eS d.toList))) (hb : b ≤ d.size) (hab : a ≤ b) (hs : d.size < 4611686018427387903) :
    W env (.call 85 [.msl c 0 d.size 1, .int .i64 a, .int .i64 b]) H (SrtS c (insertionSort strLt d a b) H) := by
  refine W.fnI rfl rfl rfl ?_
  have wa := wrap_succ (show a < 9223372036854775807 by omega)
  simp -implicitDefEqProofs only [ir85, op, ef, cl, sq, reduceIte, Int.reduceLT, Int.reduceLE, Int.reduceBEq, Int.reduceBNe, Int.reduceEq, Nat.reduceAdd, Nat.reduceLeDiff, Nat.reduceLT, Nat.reduceEqDiff, S1, wa]
  refine W.loopI (fun (i : Nat) R H' => At H' (fun H' => ∃ di : Array ByteArray, H'[c]? = some (.cells (msC eS di.toList)) ∧ di.size = d.size ∧ insOuter strLt a b i di = insertionSort strLt d a b ∧ Frm (fun x => x = c) H H') ∧ R 0 = .msl c 0 d.size 1 ∧ R 1 = .int .i64 a ∧ R 2 = .int .i64 b ∧ R 6 = .int .i64 i ∧ a + 1 ≤ i) (fun i => b - i) (a + 1) ⟨.i ⟨d, hc, rfl, rfl, Frm.refl _ _⟩, rfl, rfl, rfl, rfl, Nat.le_refl _⟩ ?_
  rintro i R H1 ⟨⟨di, hd, hsz, hins, hfr⟩, h0, h1, h2, h6, hia⟩
  by_cases hlt : i < b
  · have wi := wrap_succ (show i < 9223372036854775807 by omega)
    simp -implicitDefEqProofs only [op, ef, cl, sq, reduceIte, Int.reduceLT, Int.reduceLE, Int.reduceBEq, Int.reduceBNe, Int.reduceEq, Nat.reduceAdd, Nat.reduceLeDiff, Nat.reduceLT, Nat.reduceEqDiff, S1, h0, h1, h2, h6, hlt]
    refine W.loopE 2 (fun (j : Nat) R H' => At H' (fun H' => ∃ dj : Array ByteArray, H'[c]? = some (.cells (msC eS dj.toList)) ∧ dj.size = d.size ∧ insInner strLt a j dj = insInner strLt a i di ∧ Frm (fun x => x = c) H H') ∧ R 0 = .msl c 0 d.size 1 ∧ R 1 = .int .i64 a ∧ R 2 = .int .i64 b ∧ R 6 = .int .i64 i ∧ R 7 = .int .i64 j ∧ j ≤ i) (fun j => j) i
      (fun R H' => At H' (fun H' => ∃ dj : Array ByteArray, H'[c]? = some (.cells (msC eS dj.toList)) ∧ dj.size = d.size ∧ dj = insInner strLt a i di ∧ Frm (fun x => x = c) H H') ∧ R 0 = .msl c 0 d.size 1 ∧ R 1 = .int .i64 a ∧ R 2 = .int .i64 b ∧ R 6 = .int .i64 i) ?_ ?_ ?_
    · refine ⟨.i ⟨di, hd, hsz, rfl, hfr⟩, ?_, ?_, ?_, ?_, ?_, Nat.le_refl _⟩
      all_goals (simp -implicitDefEqProofs only [op, ef, cl, sq, reduceIte, Int.reduceLT, Int.reduceLE, Int.reduceBEq, Int.reduceBNe, Int.reduceEq, Nat.reduceAdd, Nat.reduceLeDiff, Nat.reduceLT, Nat.reduceEqDiff, S1, h0, h1, h2, h6])
    · rintro j R H2 ⟨⟨dj, hd2, hsz2, hinn, hfr2⟩, q0, q1, q2, q6, q7, hji⟩
      by_cases hja : a < j
      · obtain ⟨j', rfl⟩ : ∃ j', j = j' + 1 := ⟨j - 1, by omega⟩
        have wp : IntKind.i64.wrap (((j' + 1 : Nat) : Int) - 1) = (j' : Int) := by rw [wrap64 (by omega)]; omega
        have j1 : j' + 1 < d.size := by omega
        have j0 : j' < d.size := by omega
        have i1 : iadT 1 (j' + 1) (.msl c 0 d.size 1) = some (.ptr c ((j' + 1) * 1)) := by rw [iad_m]; simp [j1]
        have i0 : iadT 1 j' (.msl c 0 d.size 1) = some (.ptr c (j' * 1)) := by rw [iad_m]; simp [j0]
        have v1 := ld_atS (d := dj) (i := j' + 1) (by omega)
        have v0 := ld_atS (d := dj) (i := j') (by omega)
        simp -implicitDefEqProofs only [op, ef, cl, sq, reduceIte, Int.reduceLT, Int.reduceLE, Int.reduceBEq, Int.reduceBNe, Int.reduceEq, Nat.reduceAdd, Nat.reduceLeDiff, Nat.reduceLT, Nat.reduceEqDiff, S1, q0, q1, q2, q6, q7, hja, natOf_nat, i1, i0, wp, hd2, v1, v0]
        refine callB_of _ _ _ _ _ _ _ _ (less91 dj[j' + 1]! dj[j']! _) ?_
        rintro u H3 ⟨hu, rfl⟩
        cases hu
        have hd3 := hd2
        obtain ⟨s1, s2⟩ := swp_setS (Hx := H3) (c := c) dj (i := j' + 1) (j := j') (by omega) (by omega)
        cases hc0 : strLt dj[j' + 1]! dj[j']! with
        | true =>
          simp -implicitDefEqProofs only [op, ef, cl, sq, reduceIte, Int.reduceLT, Int.reduceLE, Int.reduceBEq, Int.reduceBNe, Int.reduceEq, Nat.reduceAdd, Nat.reduceLeDiff, Nat.reduceLT, Nat.reduceEqDiff, S1, q0, q1, q2, q6, q7, natOf_nat, i1, i0, wp, hd3, v1, v0, s1, S2, s2, glt hd3]
          exact ⟨j', by omega, .i ⟨swp dj (j' + 1) j', g_eq (by rw [List.length_set]; exact glt hd3), by rw [swp_size]; exact hsz2, by rw [← hinn]; conv => { rhs; rw [insInner, if_pos (by simp -implicitDefEqProofs only [Bool.and_eq_true, decide_eq_true_eq]; exact ⟨hja, hc0⟩)] }, (hfr2.set (.inl rfl) _).set (.inl rfl) _⟩, rfl, by omega⟩
        | false =>
          simp -implicitDefEqProofs only [op, ef, cl, sq, reduceIte, Int.reduceLT, Int.reduceLE, Int.reduceBEq, Int.reduceBNe, Int.reduceEq, Nat.reduceAdd, Nat.reduceLeDiff, Nat.reduceLT, Nat.reduceEqDiff, S1, q0, q1, q2, q6, q7]
          exact .i ⟨dj, hd3, hsz2, by rw [← hinn, insInner]; simp [hc0], hfr2⟩
      · simp -implicitDefEqProofs only [op, ef, cl, sq, reduceIte, Int.reduceLT, Int.reduceLE, Int.reduceBEq, Int.reduceBNe, Int.reduceEq, Nat.reduceAdd, Nat.reduceLeDiff, Nat.reduceLT, Nat.reduceEqDiff, S1, q0, q1, q2, q6, q7, hja]
        refine .i ⟨dj, hd2, hsz2, ?_, hfr2⟩
        rw [← hinn]
        cases j with
        | zero => rfl
        | succ j => rw [insInner, if_neg (by simp -implicitDefEqProofs only [Bool.and_eq_true, decide_eq_true_eq]; omega)]
    · rintro R H2 ⟨⟨dj, hd2, hsz2, hinn, hfr2⟩, q0, q1, q2, q6⟩
      simp -implicitDefEqProofs only [op, ef, cl, sq, reduceIte, Int.reduceLT, Int.reduceLE, Int.reduceBEq, Int.reduceBNe, Int.reduceEq, Nat.reduceAdd, Nat.reduceLeDiff, Nat.reduceLT, Nat.reduceEqDiff, S1, q0, q1, q2, q6, wi]
      refine ⟨i + 1, by omega, .i ⟨dj, hd2, hsz2, ?_, hfr2⟩, rfl, by omega⟩
      rw [← hins, hinn]
      conv => rhs; rw [insOuter, if_pos hlt]
  · simp -implicitDefEqProofs only [op, ef, cl, sq, reduceIte, Int.reduceLT, Int.reduceLE, Int.reduceBEq, Int.reduceBNe, Int.reduceEq, Nat.reduceAdd, Nat.reduceLeDiff, Nat.reduceLT, Nat.reduceEqDiff, S1, h0, h1, h2, h6, hlt]
    rw [insOuter, if_neg hlt] at hins
    subst hins
    exact ⟨rfl, hd, hfr⟩
theorem strLt_swo : Go.Sort.SWO strLt where
  irrefl := lt_irr
  trans _ _ _ h1 h2 := lt_trans' h1 h2
  ntrans x y z h1 h2 := by
    cases h : strLt x z with
    | false => rfl
    | true =>
      cases h3 : strLt y x with
      | true => rw [lt_trans' h3 h] at h2; cases h2
      | false => have := lt_tri h1 h3; subst this; rw [h] at h2; cases h2
theorem sorted_listS {d : Array ByteArray} (hn : d.toList.Nodup) : (Go.Sort.insertionSort strLt d 0 d.size).toList.Perm d.toList ∧ (Go.Sort.insertionSort strLt d 0 d.size).toList.Pairwise (fun a b => strLt a b = true) := by
  obtain ⟨⟨hs, _, hp⟩, hsort⟩ := Go.Sort.insertionSort_holds (lt := strLt) strLt_swo d 0 d.size (Nat.zero_le _) (Nat.le_refl _)
  have e1 : (Go.Sort.insertionSort strLt d 0 d.size).extract 0 d.size = Go.Sort.insertionSort strLt d 0 d.size := by
    conv => lhs; arg 3; rw [← hs]
    simp
  have hperm : (Go.Sort.insertionSort strLt d 0 d.size).toList.Perm d.toList := by
    rw [e1] at hp
    simpa using hp
  refine ⟨hperm, ?_⟩
  have hn2 : (Go.Sort.insertionSort strLt d 0 d.size).toList.Nodup := hperm.nodup_iff.2 hn
  rw [List.pairwise_iff_getElem]
  intro i j hi hj hij
  have h1 := hsort i j (Nat.zero_le _) hij (by rw [← hs]; simpa using hj)
  have gi := arr_get (d := Go.Sort.insertionSort strLt d 0 d.size) (i := i) (by simpa using hi)
  have gj := arr_get (d := Go.Sort.insertionSort strLt d 0 d.size) (i := j) (by simpa using hj)
  rw [List.getElem?_eq_getElem hi] at gi
  rw [List.getElem?_eq_getElem hj] at gj
  rw [Option.some.inj gi, Option.some.inj gj]
  cases h : strLt (Go.Sort.insertionSort strLt d 0 d.size)[i]! (Go.Sort.insertionSort strLt d 0 d.size)[j]! with
  | true => rfl
  | false =>
    have e := lt_tri h h1
    rw [← Option.some.inj gi, ← Option.some.inj gj] at e
    have := (List.getElem_inj hn2).1 e
    omega
/-! nothing to sort -/
theorem ins85e (H : Heap) : W env (.call 85 [.sl .nil [], .int .i64 0, .int .i64 0]) H (Ret (.tup []) H) := by
  refine W.fnI rfl rfl rfl ?_
  have wa : IntKind.i64.wrap ((0 : Int) + 1) = 1 := by decide
  simp -implicitDefEqProofs only [ir85, op, ef, cl, sq, reduceIte, Int.reduceLT, Int.reduceLE, Int.reduceBEq, Int.reduceBNe, Int.reduceEq, Nat.reduceAdd, Nat.reduceLeDiff, Nat.reduceLT, Nat.reduceEqDiff, S1, wa]
  refine W.loopI (fun (_ : Nat) R H' => H' = H ∧ R 2 = .int .i64 0 ∧ R 6 = .int .i64 1) (fun _ => 0) 0 ⟨rfl, rfl, rfl⟩ ?_
  rintro _ R _ ⟨rfl, h2, h6⟩
  have l0 : ¬ ((1 : Int) < 0) := by decide
  simp -implicitDefEqProofs only [op, ef, cl, sq, reduceIte, Int.reduceLT, Int.reduceLE, Int.reduceBEq, Int.reduceBNe, Int.reduceEq, Nat.reduceAdd, Nat.reduceLeDiff, Nat.reduceLT, Nat.reduceEqDiff, S1, h2, h6, l0]
  trivial
theorem pdqE69 (m : Nat) (H : Heap) : W env (.call 69 [.sl .nil [], .int .i64 0, .int .i64 0, .int .i64 m]) H (Ret (.tup []) H) := by
  refine W.fnI rfl rfl rfl ?_
  have w1 : IntKind.i64.wrap ((0 : Int) - 0) = 0 := by decide
  simp -implicitDefEqProofs only [ir69, op, ef, cl, sq, reduceIte, Int.reduceLT, Int.reduceLE, Int.reduceBEq, Int.reduceBNe, Int.reduceEq, Nat.reduceAdd, Nat.reduceLeDiff, Nat.reduceLT, Nat.reduceEqDiff, S1]
  refine W.loopI (fun (_ : Nat) R H' => H' = H ∧ R 0 = .sl .nil [] ∧ R 1 = .int .i64 0 ∧ R 2 = .int .i64 0) (fun _ => 0) 0 ⟨rfl, rfl, rfl, rfl⟩ ?_
  rintro _ R _ ⟨rfl, h0, h1, h2⟩
  have l0 : (0 : Int) ≤ 12 := by decide
  simp -implicitDefEqProofs only [op, ef, cl, sq, reduceIte, Int.reduceLT, Int.reduceLE, Int.reduceBEq, Int.reduceBNe, Int.reduceEq, Nat.reduceAdd, Nat.reduceLeDiff, Nat.reduceLT, Nat.reduceEqDiff, S1, h0, h1, h2, w1, l0]
  refine callB_of _ _ _ _ _ _ _ _ (ins85e _) ?_
  rintro u H2 ⟨hu, rfl⟩
  cases hu
  simp -implicitDefEqProofs only [op, ef, cl, sq, reduceIte, Int.reduceLT, Int.reduceLE, Int.reduceBEq, Int.reduceBNe, Int.reduceEq, Nat.reduceAdd, Nat.reduceLeDiff, Nat.reduceLT, Nat.reduceEqDiff, S1]
  trivial
theorem sortE55 (H : Heap) : W env (.call 55 [.sl .nil []]) H (Ret (.tup []) H) := by
  refine W.fnI rfl rfl rfl ?_
  have w1 : IntKind.u64.wrap ((0 : Nat) : Int) = ((0 : Nat) : Int) := by decide
  have e0 : ((0 : Nat) : Int) = 0 := rfl
  simp -implicitDefEqProofs only [ir55, op, ef, cl, sq, reduceIte, Int.reduceLT, Int.reduceLE, Int.reduceBEq, Int.reduceBNe, Int.reduceEq, Nat.reduceAdd, Nat.reduceLeDiff, Nat.reduceLT, Nat.reduceEqDiff, S1, w1]
  refine callB_of _ _ _ _ _ _ _ _ (lenN 0 (by omega) _) ?_
  rintro u H1 ⟨rfl, m, hu⟩
  cases hu
  simp -implicitDefEqProofs only [op, ef, cl, sq, reduceIte, Int.reduceLT, Int.reduceLE, Int.reduceBEq, Int.reduceBNe, Int.reduceEq, Nat.reduceAdd, Nat.reduceLeDiff, Nat.reduceLT, Nat.reduceEqDiff, S1, e0]
  refine callB_of _ _ _ _ _ _ _ _ (pdqE69 m _) ?_
  rintro u H2 ⟨hu, rfl⟩
  cases hu
  simp -implicitDefEqProofs only [op, ef, cl, sq, reduceIte, Int.reduceLT, Int.reduceLE, Int.reduceBEq, Int.reduceBNe, Int.reduceEq, Nat.reduceAdd, Nat.reduceLeDiff, Nat.reduceLT, Nat.reduceEqDiff, S1]
  trivial
open Go.Sort in
theorem pdqS69 (c : Nat) (d : Array ByteArray) (m : Nat) (H : Heap) (hc : H[c]? = some (.cells (msC eS d.toList))) (hs : d.size ≤ 12) :
    W env (.call 69 [.msl c 0 d.size 1, .int .i64 0, .int .i64 d.size, .int .i64 m]) H (SrtS c (insertionSort strLt d 0 d.size) H) := by
  refine W.fnI rfl rfl rfl ?_
  have w1 : IntKind.i64.wrap ((d.size : Int) - 0) = (d.size : Int) := by rw [wrap64 (by omega)]; omega
  have h12 : (d.size : Int) ≤ 12 := by omega
  simp -implicitDefEqProofs only [ir69, op, ef, cl, sq, reduceIte, Int.reduceLT, Int.reduceLE, Int.reduceBEq, Int.reduceBNe, Int.reduceEq, Nat.reduceAdd, Nat.reduceLeDiff, Nat.reduceLT, Nat.reduceEqDiff, S1]
  refine W.loopI (fun (_ : Nat) R H' => H' = H ∧ R 0 = .msl c 0 d.size 1 ∧ R 1 = .int .i64 0 ∧ R 2 = .int .i64 d.size) (fun _ => 0) 0 ⟨rfl, rfl, rfl, rfl⟩ ?_
  rintro _ R _ ⟨rfl, h0, h1, h2⟩
  simp -implicitDefEqProofs only [op, ef, cl, sq, reduceIte, Int.reduceLT, Int.reduceLE, Int.reduceBEq, Int.reduceBNe, Int.reduceEq, Nat.reduceAdd, Nat.reduceLeDiff, Nat.reduceLT, Nat.reduceEqDiff, S1, h0, h1, h2, w1, hs]
  refine callB_of _ _ _ _ _ _ _ _ (ins85 c d 0 d.size _ hc (Nat.le_refl _) (Nat.zero_le _) (by omega)) ?_
  rintro u H2 ⟨hu, q1, q2⟩
  cases hu
  simp -implicitDefEqProofs only [op, ef, cl, sq, reduceIte, Int.reduceLT, Int.reduceLE, Int.reduceBEq, Int.reduceBNe, Int.reduceEq, Nat.reduceAdd, Nat.reduceLeDiff, Nat.reduceLT, Nat.reduceEqDiff, S1]
  exact ⟨rfl, q1, q2⟩
open Go.Sort in
theorem sortS55 (c : Nat) (d : Array ByteArray) (H : Heap) (hc : H[c]? = some (.cells (msC eS d.toList))) (hs : d.size ≤ 12) :
    W env (.call 55 [.msl c 0 d.size 1]) H (SrtS c (insertionSort strLt d 0 d.size) H) := by
  refine W.fnI rfl rfl rfl ?_
  have w1 : IntKind.u64.wrap (d.size : Int) = (d.size : Int) := wrapu (by omega)
  simp -implicitDefEqProofs only [ir55, op, ef, cl, sq, reduceIte, Int.reduceLT, Int.reduceLE, Int.reduceBEq, Int.reduceBNe, Int.reduceEq, Nat.reduceAdd, Nat.reduceLeDiff, Nat.reduceLT, Nat.reduceEqDiff, S1, w1]
  refine callB_of _ _ _ _ _ _ _ _ (lenN d.size (by omega) _) ?_
  rintro u H1 ⟨rfl, m, hu⟩
  cases hu
  simp -implicitDefEqProofs only [op, ef, cl, sq, reduceIte, Int.reduceLT, Int.reduceLE, Int.reduceBEq, Int.reduceBNe, Int.reduceEq, Nat.reduceAdd, Nat.reduceLeDiff, Nat.reduceLT, Nat.reduceEqDiff, S1]
  refine callB_of _ _ _ _ _ _ _ _ (pdqS69 c d m _ hc hs) ?_
  rintro u H2 ⟨hu, q1, q2⟩
  cases hu
  simp -implicitDefEqProofs only [op, ef, cl, sq, reduceIte, Int.reduceLT, Int.reduceLE, Int.reduceBEq, Int.reduceBNe, Int.reduceEq, Nat.reduceAdd, Nat.reduceLeDiff, Nat.reduceLT, Nat.reduceEqDiff, S1]
  exact ⟨rfl, q1, q2⟩
def SortSQ (es : List (ByteArray × T)) (H : Heap) : Out → Heap → Prop := fun o H' => Ext H H' ∧ ∃ t l, o = .val t ∧ Mut eS 1 H.length H' t l ∧ l.Perm (es.map (·.1)) ∧ l.Pairwise (fun a b => strLt a b = true)
theorem sorted38 (es : List (ByteArray × T)) (c mb : Nat) (H : Heap) (hnd : (es.map (·.1)).Nodup) (hes : es.length ≤ 12) (hc : H[c]? = some (.cells [.map mb])) (hm : H[mb]? = some (.map (encK T.str es))) :
    W env (.call 38 [.fn 56 [.ptr c 0]]) H (SortSQ es H) := by
  refine W.fnI rfl rfl rfl ?_
  simp -implicitDefEqProofs only [ir38, op, ef, cl, sq, reduceIte, Int.reduceLT, Int.reduceLE, Int.reduceBEq, Int.reduceBNe, Int.reduceEq, Nat.reduceAdd, Nat.reduceLeDiff, Nat.reduceLT, Nat.reduceEqDiff, S1]
  refine callB_of _ _ _ _ _ _ _ _ (coll54 es c mb H hnd (by omega) hc hm) ?_
  rintro u H1 ⟨hx, t, vis, hu, hmt, hri⟩
  cases hu
  have hperm : vis.Perm (es.map (·.1)) := (List.perm_ext_iff_of_nodup hri.nvis hnd).2 fun k => hri.end' k
  have hvl : vis.length = es.length := by have := hri.len; simpa using this
  rcases hmt with ⟨rfl, rfl⟩ | ⟨d, rfl, hd, hdn⟩
  · simp -implicitDefEqProofs only [op, ef, cl, sq, reduceIte, Int.reduceLT, Int.reduceLE, Int.reduceBEq, Int.reduceBNe, Int.reduceEq, Nat.reduceAdd, Nat.reduceLeDiff, Nat.reduceLT, Nat.reduceEqDiff, S1]
    refine callB_of _ _ _ _ _ _ _ _ (sortE55 _) ?_
    rintro u H2 ⟨hu, rfl⟩
    cases hu
    simp -implicitDefEqProofs only [op, ef, cl, sq, reduceIte, Int.reduceLT, Int.reduceLE, Int.reduceBEq, Int.reduceBNe, Int.reduceEq, Nat.reduceAdd, Nat.reduceLeDiff, Nat.reduceLT, Nat.reduceEqDiff, S1]
    exact ⟨hx, _, [], rfl, mut_nil _ _ _ _, hperm, List.Pairwise.nil⟩
  · simp -implicitDefEqProofs only [op, ef, cl, sq, reduceIte, Int.reduceLT, Int.reduceLE, Int.reduceBEq, Int.reduceBNe, Int.reduceEq, Nat.reduceAdd, Nat.reduceLeDiff, Nat.reduceLT, Nat.reduceEqDiff, S1]
    have := sortS55 d vis.toArray H1 (by simpa using hd) (by simpa using (by omega : vis.length ≤ 12))
    simp -implicitDefEqProofs only [List.size_toArray] at this
    refine callB_of _ _ _ _ _ _ _ _ this ?_
    rintro u H2 ⟨hu, h2, hfr⟩
    cases hu
    simp -implicitDefEqProofs only [op, ef, cl, sq, reduceIte, Int.reduceLT, Int.reduceLE, Int.reduceBEq, Int.reduceBNe, Int.reduceEq, Nat.reduceAdd, Nat.reduceLeDiff, Nat.reduceLT, Nat.reduceEqDiff, S1]
    have hs := sorted_listS (d := vis.toArray) (by simpa using hri.nvis)
    simp -implicitDefEqProofs only [List.size_toArray] at hs
    refine ⟨ext_of fun a x hax => hfr.get (hx.get hax) (by have := glt hax; omega), _, _, rfl, .inr ⟨d, ?_, h2, hdn⟩, hs.1.trans hperm, hs.2⟩
    rw [hs.1.length_eq]
/-- a last as it is told -/
def eL (x : ByteArray × Nat) : List T := [.str x.1, .int .u64 x.2]
def lastL (s : Sto) (l : List ByteArray) : List (ByteArray × Nat) := l.map fun k => (k, lastOf s k)
def LastsQ (s : Sto) (H : Heap) : Out → Heap → Prop := fun o H' => Ext H H' ∧ ∃ k l, KOk k l ∧ o = .val (.sl k ((lastL s l).map eL)) ∧ l.Perm (s.ls.map (·.1)) ∧ l.Pairwise (fun a b => strLt a b = true)
theorem lasts24 (b : Bk) (s : Sto) (F : Nat → Prop) (H : Heap) (hs : SH H b s F) (hi : SInv s) (hn : s.ls.length ≤ 12) : W env (.call 24 [.ptr b.s 0]) H (LastsQ s H) := by
  obtain ⟨im, pm, sa⟩ := hs
  refine W.fnI rfl rfl rfl ?_
  simp -implicitDefEqProofs only [ir24, op, ef, cl, sq, reduceIte, Int.reduceLT, Int.reduceLE, Int.reduceBEq, Int.reduceBNe, Int.reduceEq, Nat.reduceAdd, Nat.reduceLeDiff, Nat.reduceLT, Nat.reduceEqDiff, S1, sa.hs]
  refine callB_of _ _ _ _ _ _ _ (fun o H' => o = .val (.fn 56 [.ptr H.length 0]) ∧ H' = H ++ [.cells [.map b.l]]) ?_ ?_
  · refine W.fnI rfl rfl rfl ?_
    simp -implicitDefEqProofs only [ir39, op, ef, cl, sq, reduceIte, Int.reduceLT, Int.reduceLE, Int.reduceBEq, Int.reduceBNe, Int.reduceEq, Nat.reduceAdd, Nat.reduceLeDiff, Nat.reduceLT, Nat.reduceEqDiff, S1]
    exact rfl
  rintro u H1 ⟨hu, rfl⟩
  cases hu
  have ll := glt sa.hl
  have hkeys : (encL s.ls).map (·.1) = s.ls.map (·.1) := by simp [encL]
  simp -implicitDefEqProofs only [op, ef, cl, sq, reduceIte, Int.reduceLT, Int.reduceLE, Int.reduceBEq, Int.reduceBNe, Int.reduceEq, Nat.reduceAdd, Nat.reduceLeDiff, Nat.reduceLT, Nat.reduceEqDiff, S1]
  refine callB_of _ _ _ _ _ _ _ _ (sorted38 (encL s.ls) H.length b.l _ (by rw [hkeys]; exact hi.ndl) (by simpa [encL] using hn) (g_tail rfl) (by rw [g_app ll]; exact sa.hl)) ?_
  rintro t H2 ⟨hx2, _, l, hu, hmt, hperm, hpw⟩
  cases hu
  rw [hkeys] at hperm
  have hll : l.length ≤ 12 := by rw [hperm.length_eq]; simpa using hn
  have hlen := hmt.len
  have hx0 : Ext H H2 := (Ext.rfl'.app _).trans hx2
  simp -implicitDefEqProofs only [op, ef, cl, sq, reduceIte, Int.reduceLT, Int.reduceLE, Int.reduceBEq, Int.reduceBNe, Int.reduceEq, Nat.reduceAdd, Nat.reduceLeDiff, Nat.reduceLT, Nat.reduceEqDiff, S1, hlen]
  refine W.loopI (fun (i : Nat) R H' => At H' (fun H' => ∃ kw, R 3 = .sl kw ((lastL s (l.take i)).map eL) ∧ Ext H H' ∧ Ext H2 H' ∧ Apd H2.length H' kw ∧ KOk kw (l.take i)) ∧ R 0 = .ptr b.s 0 ∧ R 11 = t ∧ R 12 = .int .i64 l.length ∧ R 13 = .int .i64 i ∧ i ≤ l.length) (fun i => l.length - i) 0 ⟨.i ⟨.nil, rfl, hx0, Ext.rfl', apd_nil _ _, fun _ => rfl⟩, rfl, rfl, rfl, rfl, Nat.zero_le _⟩ ?_
  rintro i R H3 ⟨⟨kw, h3, hx3, hx23, hap, hko⟩, h0, h11, h12, h13, hil⟩
  by_cases hlt : i < l.length
  · obtain ⟨m, hm⟩ := getP hlt
    have ws := wrap_succ (show i < 9223372036854775807 by omega)
    obtain ⟨c, g1, g2, g3⟩ := mut_n (enc := eS) (n := 1) (fun _ => rfl) (by decide) (hmt.ext hx23) hm
    have sa3 := sa.frm (ext_frm (F := fun _ => False) hx3) (fun _ _ _ h => h)
    have hlk := lkp_last s m
    have hall := all_map (enc := eL) (n := 2) (fun _ => rfl) (lastL s (l.take i))
    have hkl : ((lastL s (l.take i)).map eL).length ≤ 12 := by simp -implicitDefEqProofs only [lastL, List.length_map, List.length_take]; omega
    obtain ⟨k', H5, ha, hap', hst⟩ := app_ok (bytes := 24) ((lastL s (l.take i)).map eL) [[T.str m, .int .u64 (lastOf s m)]] hap hx23.len (by simp) (roomT (by simp -implicitDefEqProofs only [List.length_cons, List.length_nil]; omega))
    have hnn := app_nn ha (by simp)
    simp -implicitDefEqProofs only [op, ef, cl, sq, reduceIte, Int.reduceLT, Int.reduceLE, Int.reduceBEq, Int.reduceBNe, Int.reduceEq, Nat.reduceAdd, Nat.reduceLeDiff, Nat.reduceLT, Nat.reduceEqDiff, S1] at ha
    simp -implicitDefEqProofs only [op, ef, cl, sq, reduceIte, Int.reduceLT, Int.reduceLE, Int.reduceBEq, Int.reduceBNe, Int.reduceEq, Nat.reduceAdd, Nat.reduceLeDiff, Nat.reduceLT, Nat.reduceEqDiff, S1, h0, h3, h11, h12, h13, hlt, natOf_nat, g1, g2, g3, eS, sa3.hs, sa3.hl, lkpB_M, hlk, hall, ha, ws]
    refine ⟨i + 1, by omega, .i ⟨k', ?_, hst.ext H (by have := hx0.len; omega) hx3, hst.ext H2 (Nat.le_refl _) hx23, hap', fun h => absurd h hnn⟩, rfl, by omega⟩
    rw [take_sn hm]
    simp -implicitDefEqProofs only [lastL, List.map_append, List.map_cons, List.map_nil, eL]
  · have hil' : i = l.length := by omega
    subst hil'
    rw [List.take_length] at h3 hko
    simp -implicitDefEqProofs only [op, ef, cl, sq, reduceIte, Int.reduceLT, Int.reduceLE, Int.reduceBEq, Int.reduceBNe, Int.reduceEq, Nat.reduceAdd, Nat.reduceLeDiff, Nat.reduceLT, Nat.reduceEqDiff, S1, h3, h12, h13, hlt]
    exact ⟨hx3, kw, l, hko, rfl, hperm, hpw⟩
theorem slasts23 (k k' : SK) (l : List (ByteArray × Nat)) (H : Heap) (hl : l.length ≤ 1000000) : W env (.call 23 [.sl k (l.map eL), .sl k' (l.map eL)]) H (fun o H' => o = .val (.bool true) ∧ H' = H) := by
  refine W.fnI rfl rfl rfl ?_
  have e0 : (((l.length : Nat) : Int) != ((l.length : Nat) : Int)) = false := by simp
  simp -implicitDefEqProofs only [ir23, op, ef, cl, sq, reduceIte, Int.reduceLT, Int.reduceLE, Int.reduceBEq, Int.reduceBNe, Int.reduceEq, Nat.reduceAdd, Nat.reduceLeDiff, Nat.reduceLT, Nat.reduceEqDiff, S1, List.length_map, e0]
  refine W.loopI (fun (i : Nat) R H' => H' = H ∧ R 0 = .sl k (l.map eL) ∧ R 1 = .sl k' (l.map eL) ∧ R 5 = .int .i64 i ∧ i ≤ l.length) (fun i => l.length - i) 0 ⟨rfl, rfl, rfl, rfl, Nat.zero_le _⟩ ?_
  rintro i R _ ⟨rfl, h0, h1, h5, hil⟩
  by_cases hlt : i < l.length
  · obtain ⟨x, hx⟩ := getP hlt
    have ws := wrap_succ (show i < 9223372036854775807 by omega)
    have i1 := iadX (e := eL) (n := 2) (fun _ => rfl) (by decide) (k := k) hx
    have i2 := iadX (e := eL) (n := 2) (fun _ => rfl) (by decide) (k := k') hx
    have hA : hasAll [Ty1.str, Ty1.int] [T.str x.1, .int .u64 x.2] = true := rfl
    have hE : eqCells [T.str x.1, .int .u64 x.2] [T.str x.1, .int .u64 x.2] = some true := by
      show some (strEq x.1 x.1 && ((x.2 : Int) == (x.2 : Int) && true)) = some true
      rw [strEq_eq]
      simp
    simp -implicitDefEqProofs only [op, ef, cl, sq, reduceIte, Int.reduceLT, Int.reduceLE, Int.reduceBEq, Int.reduceBNe, Int.reduceEq, Nat.reduceAdd, Nat.reduceLeDiff, Nat.reduceLT, Nat.reduceEqDiff, S1, h0, h1, h5, List.length_map, hlt, natOf_nat, i1, i2, eL, hA, hE, ws]
    exact ⟨i + 1, by omega, rfl, by omega⟩
  · simp -implicitDefEqProofs only [op, ef, cl, sq, reduceIte, Int.reduceLT, Int.reduceLE, Int.reduceBEq, Int.reduceBNe, Int.reduceEq, Nat.reduceAdd, Nat.reduceLeDiff, Nat.reduceLT, Nat.reduceEqDiff, S1, h0, h1, h5, List.length_map, hlt]
end Go.Proofs.Ytbkgokabcnogdaa.St
end

/-! text StoreZm -/
section
namespace Go.Proofs.Ytbkgokabcnogdaa.St
open Go.Rmp Go.Proofs.Ytbkgokabcnogdaa.Ir
set_option maxRecDepth 10000
theorem nd_len {α : Type} : ∀ {l m : List α}, l.Nodup → (∀ x ∈ l, x ∈ m) → l.length ≤ m.length
  | [], m, _, _ => Nat.zero_le _
  | x :: l, m, h, hs => by
    classical
    rw [List.nodup_cons] at h
    have h1 := nd_len (m := m.erase x) h.2 fun y hy => (List.mem_erase_of_ne (by rintro rfl; exact h.1 hy)).2 (hs y (List.mem_cons_of_mem _ hy))
    have hx := hs x List.mem_cons_self
    have := List.length_pos_of_mem hx
    rw [List.length_erase_of_mem hx] at h1
    simp -implicitDefEqProofs only [List.length_cons]; omega
/-- writes with names apart -/
def Apart (q : List Raw) : Prop := q.Pairwise fun a b => idOf a.write ≠ idOf b.write
theorem Apart.uniq {q : List Raw} (h : Apart q) {a b : Raw} (ha : a ∈ q) (hb : b ∈ q) (e : idOf a.write = idOf b.write) : a = b := by
  obtain ⟨i, hi, rfl⟩ := List.getElem_of_mem ha
  obtain ⟨j, hj, rfl⟩ := List.getElem_of_mem hb
  have hp := List.pairwise_iff_getElem.1 h
  rcases Nat.lt_trichotomy i j with h | h | h
  · exact absurd e (hp i j hi hj h)
  · subst h; rfl
  · exact absurd e.symm (hp j i hj hi h)
/-- that a write is to be committed -/
def cnd (r : Raw) : Prop := restI r.kind 1 = 0
/-- a store of the writes q: those of P are put, those of E committed -/
structure OrdV (q : List Raw) (s : Sto) (P E : Raw → Prop) : Prop where
  inv : SInv s
  stm : Stm s
  stn : StN s
  hd : ∀ m h, mlook s.vs m = some h → ∃ r ∈ q, m.2 = idOf r.write ∧ m.1 ∈ setOf r.mask ∧ h.value = shortOf r.value ∧ h.keys = setOf r.mask
  pt : ∀ r ∈ q, P r → ∀ k ∈ setOf r.mask, (mlook s.vs (k, idOf r.write)).isSome = true
  ls1 : ∀ r ∈ q, E r → ∀ k ∈ setOf r.mask, ∃ n, mlook s.ls k = some n ∧ idOf r.write ≤ n
  ls2 : ∀ k n, mlook s.ls k = some n → ∃ r ∈ q, cnd r ∧ k ∈ setOf r.mask ∧ n = idOf r.write
theorem OrdV.emp (q : List Raw) : OrdV q Sto.emp (fun _ => False) (fun _ => False) := ⟨SInv.emp, Stm.emp, StN.emp, fun m h hm => by simp [Sto.emp, mlook_nil] at hm, fun _ _ h => h.elim, fun _ _ h => h.elim, fun k n h => by simp [Sto.emp, mlook_nil] at h⟩
theorem OrdV.put {q : List Raw} {s s' : Sto} {P E : Raw → Prop} (h : OrdV q s P E) (ha : Apart q) {r : Raw} (hr : r ∈ q) {now : Int} {fr : Bool} (hi' : SInv s') (hp : PutV s s' (idOf r.write) (pairsOf (setOf r.mask) (shortOf r.value)) (setOf r.mask) now fr) (ht : 0 ≤ now) : OrdV q s' (fun x => P x ∨ x = r) E := by
  have there : ∀ k ∈ setOf r.mask, ∃ hd, mlook s'.vs (k, idOf r.write) = some hd ∧ hd.value = shortOf r.value ∧ hd.keys = setOf r.mask := by
    intro k hk
    have hmem : (k, shortOf r.value) ∈ pairsOf (setOf r.mask) (shortOf r.value) := List.mem_map.2 ⟨k, hk, rfl⟩
    cases hv : mlook s.vs (k, idOf r.write) with
    | some x =>
      obtain ⟨r2, h2, e1, e2, e3, e4⟩ := h.hd _ x hv
      have := ha.uniq h2 hr e1.symm
      subst this
      exact ⟨x, hp.old _ hmem x hv, e3, e4⟩
    | none =>
      obtain ⟨kk, _, hnew⟩ := hp.new _ hmem hv
      exact ⟨_, hnew, rfl, rfl⟩
  have off : ∀ m : Nm, ¬ (m.2 = idOf r.write ∧ m.1 ∈ setOf r.mask) → mlook s'.vs m = mlook s.vs m := fun m hc => hp.other m (if h1 : m.2 = idOf r.write then .inr (by rw [pairsOf_keys]; exact fun h2 => hc ⟨h1, h2⟩) else .inl h1)
  refine ⟨hi', h.stm.put hp ht, (h.stn.put hp ht).1, fun m x hm => ?_, fun r2 h2 hP k hk => ?_, fun r2 h2 hE k hk => ?_, fun k n hn => ?_⟩
  · by_cases hc : m.2 = idOf r.write ∧ m.1 ∈ setOf r.mask
    · obtain ⟨hd, e1, e2, e3⟩ := there m.1 hc.2
      have e : m = (m.1, idOf r.write) := Prod.ext rfl hc.1
      rw [e, e1] at hm; cases hm
      exact ⟨r, hr, hc.1, hc.2, e2, e3⟩
    · rw [off m hc] at hm
      exact h.hd m x hm
  · by_cases hc : idOf r2.write = idOf r.write ∧ k ∈ setOf r.mask
    · obtain ⟨hd, e1, _⟩ := there k hc.2
      rw [hc.1, e1]; rfl
    · rw [off _ hc]
      rcases hP with hP | rfl
      · exact h.pt r2 h2 hP k hk
      · exact absurd ⟨rfl, hk⟩ hc
  · rw [hp.ls]; exact h.ls1 r2 h2 hE k hk
  · rw [hp.ls] at hn; exact h.ls2 k n hn
theorem OrdV.com {q : List Raw} {s s' : Sto} {P E : Raw → Prop} (h : OrdV q s P E) (ha : Apart q) (hall : ∀ r ∈ q, P r) {r : Raw} (hr : r ∈ q) (hc : cnd r) {now : Int} (hi' : SInv s') (hv : ComV s s' (idOf r.write) now (s.pls (idOf r.write))) (ht : 0 ≤ now) : OrdV q s' P (fun x => E x ∨ x = r) := by
  have hD : ∀ k, k ∈ s.pls (idOf r.write) ↔ k ∈ setOf r.mask := by
    intro k
    rw [h.inv.plm]
    constructor
    · intro hs
      cases e : mlook s.vs (k, idOf r.write) with
      | none => rw [e] at hs; cases hs
      | some x =>
        obtain ⟨r2, h2, e1, e2, _⟩ := h.hd _ x e
        have := ha.uniq h2 hr e1.symm
        subst this; exact e2
    · exact fun hk => h.pt r hr (hall r hr) k hk
  have h65 := (idOf_ge r.write).1
  refine ⟨hi', h.stm.com hv ht, (h.stn.com hv ht).1, fun m x hm => ?_, fun r2 h2 hP k hk => ?_, fun r2 h2 hE k hk => ?_, fun k n hn => ?_⟩
  · obtain ⟨c1, c2⟩ := hv.vs.2 m
    cases e : mlook s.vs m with
    | none => rw [c1 e] at hm; cases hm
    | some y =>
      obtain ⟨r2, h2, e1, e2, e3, e4⟩ := h.hd _ y e
      by_cases hS : (m.1 ∈ s.pls (idOf r.write) ∧ lastOf s m.1 < idOf r.write ∧ m.2 < idOf r.write) ∧ y.stamp = -1
      · rw [(c2 y e).1 hS] at hm; cases hm; exact ⟨r2, h2, e1, e2, e3, e4⟩
      · rw [(c2 y e).2 hS] at hm; cases hm; exact ⟨r2, h2, e1, e2, e3, e4⟩
  · rw [hv.vs.some]; exact h.pt r2 h2 hP k hk
  · by_cases hlt : k ∈ s.pls (idOf r.write) ∧ lastOf s k < idOf r.write
    · refine ⟨_, hv.on k hlt.1 hlt.2, ?_⟩
      rcases hE with hE | rfl
      · obtain ⟨n, e1, e2⟩ := h.ls1 r2 h2 hE k hk
        have : lastOf s k = n := by simp [lastOf, e1]
        omega
      · exact Nat.le_refl _
    · rw [hv.off k hlt]
      rcases hE with hE | rfl
      · exact h.ls1 r2 h2 hE k hk
      · have hk2 : ¬ lastOf s k < idOf r2.write := fun hh => hlt ⟨(hD k).2 hk, hh⟩
        cases e : mlook s.ls k with
        | none => simp [lastOf, e] at hk2; omega
        | some n => exact ⟨n, rfl, by simp [lastOf, e] at hk2; omega⟩
  · by_cases hlt : k ∈ s.pls (idOf r.write) ∧ lastOf s k < idOf r.write
    · rw [hv.on k hlt.1 hlt.2] at hn; cases hn
      exact ⟨r, hr, hc, (hD k).1 hlt.1, rfl⟩
    · rw [hv.off k hlt] at hn
      exact h.ls2 k n hn
theorem OrdV.mono {q : List Raw} {s : Sto} {P E P' E' : Raw → Prop} (h : OrdV q s P E) (hp : ∀ r ∈ q, P' r → P r) (he : ∀ r ∈ q, E' r → E r) : OrdV q s P' E' :=
  ⟨h.inv, h.stm, h.stn, h.hd, fun r hr hP => h.pt r hr (hp r hr hP), fun r hr hE => h.ls1 r hr (he r hr hE), h.ls2⟩
theorem setOf_sub (m : Int) : ∀ k ∈ setOf m, k ∈ [keyT 0, keyT 1, keyT 2] := by
  intro k hk
  unfold setOf at hk
  split at hk
  · simp at hk; simp [hk]
  · obtain ⟨i, hi, rfl⟩ := List.mem_map.1 hk
    have := List.mem_range.1 (List.mem_filter.1 hi).1
    have : i = 0 ∨ i = 1 ∨ i = 2 := by omega
    rcases this with rfl | rfl | rfl <;> simp
theorem OrdV.lsl {q : List Raw} {s : Sto} {P E : Raw → Prop} (h : OrdV q s P E) : s.ls.length ≤ 3 := by
  have := nd_len (m := [keyT 0, keyT 1, keyT 2]) h.inv.ndl fun k hk => by
    cases e : mlook s.ls k with
    | none => exact absurd hk (mlook_none.1 e)
    | some n =>
      obtain ⟨r, _, _, h1, _⟩ := h.ls2 k n e
      exact setOf_sub _ k h1
  simpa using this
theorem OrdV.vl {q : List Raw} {s : Sto} {P E : Raw → Prop} (h : OrdV q s P E) : s.vs.length ≤ 3 * q.length := by
  have h1 := nd_len (m := q.flatMap fun r => (setOf r.mask).map fun k => (k, idOf r.write)) h.inv.nd fun m hm => by
    have := mem_nms.1 hm
    cases e : mlook s.vs m with
    | none => rw [e] at this; cases this
    | some x =>
      obtain ⟨r, hr, e1, e2, _⟩ := h.hd m x e
      exact List.mem_flatMap.2 ⟨r, hr, List.mem_map.2 ⟨m.1, e2, Prod.ext rfl e1.symm⟩⟩
  have h2 : ∀ q : List Raw, (q.flatMap fun r => (setOf r.mask).map fun k => (k, idOf r.write)).length ≤ 3 * q.length := by
    intro q
    induction q with
    | nil => simp
    | cons r q ih =>
      rw [List.flatMap_cons, List.length_append, List.length_map, List.length_cons]
      have := (setOf_len r.mask).2
      omega
  have := h2 q
  simp -implicitDefEqProofs only [List.length_map] at h1
  omega
/-- two stores of the same writes, all put, the same committed -/
structure Alike (s t : Sto) : Prop where
  nm : ∀ m, m ∈ nms s ↔ m ∈ nms t
  ct : ∀ m h g, mlook s.vs m = some h → mlook t.vs m = some g → h.value = g.value ∧ h.keys = g.keys ∧ (h.stamp < 0 ↔ g.stamp < 0) ∧ h.keys.length ≤ 3
  lk : ∀ k, k ∈ s.ls.map (·.1) ↔ k ∈ t.ls.map (·.1)
  la : ∀ k, lastOf s k = lastOf t k
theorem OrdV.alike {q : List Raw} {s t : Sto} (ha : Apart q) (h : OrdV q s (fun _ => True) cnd) (g : OrdV q t (fun _ => True) cnd) : Alike s t := by
  have sub : ∀ {s t : Sto}, OrdV q s (fun _ => True) cnd → OrdV q t (fun _ => True) cnd → ∀ m, m ∈ nms s → m ∈ nms t := by
    intro s t h g m hm
    have := mem_nms.1 hm
    cases e : mlook s.vs m with
    | none => rw [e] at this; cases this
    | some x =>
      obtain ⟨r, hr, e1, e2, _⟩ := h.hd m x e
      have := g.pt r hr trivial m.1 e2
      rw [← e1] at this
      exact mem_nms.2 this
  have lss : ∀ {s t : Sto}, OrdV q s (fun _ => True) cnd → OrdV q t (fun _ => True) cnd → ∀ k n, mlook s.ls k = some n → ∃ n', mlook t.ls k = some n' ∧ n ≤ n' := by
    intro s t h g k n hk
    obtain ⟨r, hr, hc, e1, e2⟩ := h.ls2 k n hk
    obtain ⟨n', e3, e4⟩ := g.ls1 r hr hc k e1
    exact ⟨n', e3, by omega⟩
  have leq : ∀ k, mlook s.ls k = mlook t.ls k := by
    intro k
    cases e : mlook s.ls k with
    | some n =>
      obtain ⟨n', e1, e2⟩ := lss h g k n e
      obtain ⟨n2, e3, e4⟩ := lss g h k n' e1
      rw [e] at e3; cases e3
      rw [e1]; congr 1; omega
    | none =>
      cases e' : mlook t.ls k with
      | none => rfl
      | some n' => obtain ⟨n, e1, _⟩ := lss g h k n' e'; rw [e] at e1; cases e1
  have lao : ∀ k, lastOf s k = lastOf t k := fun k => by simp [lastOf, leq]
  refine ⟨fun m => ⟨sub h g m, sub g h m⟩, fun m x y hx hy => ?_, fun k => ?_, lao⟩
  · obtain ⟨r, hr, e1, e2, e3, e4⟩ := h.hd m x hx
    obtain ⟨r', hr', e1', e2', e3', e4'⟩ := g.hd m y hy
    have := ha.uniq hr hr' (e1.symm.trans e1')
    subst this
    have a1 := h.stm m x hx
    have a2 := g.stm m y hy
    rw [lao] at a1
    have b1 := h.stn m x hx
    have b2 := g.stn m y hy
    refine ⟨e3.trans e3'.symm, e4.trans e4'.symm, ?_, by rw [e4]; exact (setOf_len _).2⟩
    by_cases hlt : m.2 < lastOf t m.1
    · have n1 : ¬ x.stamp = -1 := fun e => a1.1 e hlt
      have n2 : ¬ y.stamp = -1 := fun e => a2.1 e hlt
      constructor <;> intro h <;> omega
    · have n1 := a1.2 hlt
      have n2 := a2.2 hlt
      omega
  · have hk : ∀ (l : List (ByteArray × Nat)), k ∈ l.map (·.1) ↔ (mlook l k).isSome = true := fun l => by
      cases e : mlook l k with
      | none => simpa using mlook_none.1 e
      | some n => simp -implicitDefEqProofs only [Option.isSome_some, iff_true]; exact Classical.byContradiction fun hn => by rw [mlook_none.2 hn] at e; cases e
    rw [hk, hk, leq]
end Go.Proofs.Ytbkgokabcnogdaa.St
end

/-! text StoreZn -/
section
namespace Go.Proofs.Ytbkgokabcnogdaa.St
open Go.Rmp Go.Proofs.Ytbkgokabcnogdaa.Ir
set_option maxRecDepth 10000
set_option maxHeartbeats 8000000
theorem sorted_eqS : ∀ (l l' : List ByteArray), l.Pairwise (fun a b => strLt a b = true) → l'.Pairwise (fun a b => strLt a b = true) → (∀ x, x ∈ l ↔ x ∈ l') → l = l'
  | [], [], _, _, _ => rfl
  | [], b :: l', _, _, h => by have := (h b).2 (by simp); simp at this
  | a :: l, [], _, _, h => by have := (h a).1 (by simp); simp at this
  | a :: l, b :: l', h1, h2, h => by
    rw [List.pairwise_cons] at h1 h2
    have e : a = b := by
      rcases List.mem_cons.1 ((h a).1 (by simp)) with e | e
      · exact e
      · rcases List.mem_cons.1 ((h b).2 (by simp)) with e2 | e2
        · exact e2.symm
        · have q1 := h2.1 a e
          have q2 := h1.1 b e2
          have := lt_trans' q1 q2
          rw [lt_irr] at this; cases this
    subst e
    rw [sorted_eqS l l' h1.2 h2.2 fun x => ?_]
    have hx := h x
    simp -implicitDefEqProofs only [List.mem_cons] at hx
    constructor
    · intro hm
      rcases hx.1 (.inr hm) with e | e
      · subst e; have := h1.1 x hm; rw [lt_irr] at this; cases this
      · exact e
    · intro hm
      rcases hx.2 (.inr hm) with e | e
      · subst e; have := h2.1 x hm; rw [lt_irr] at this; cases this
      · exact e
/-- two stores in one heap -/
structure Tw (H : Heap) (a b : Bk) (s t : Sto) (Fa Fb : Nat → Prop) : Prop where
  sa : SH H a s Fa
  sb : SH H b t Fb
  dis : ∀ c, Fa c → ¬ Fb c
  la : ∀ c, Fa c → c < H.length
  lb : ∀ c, Fb c → c < H.length
theorem Tw.swap {H : Heap} {a b : Bk} {s t : Sto} {Fa Fb : Nat → Prop} (h : Tw H a b s t Fa Fb) : Tw H b a t s Fb Fa := ⟨h.sb, h.sa, fun c h1 h2 => h.dis c h2 h1, h.lb, h.la⟩
theorem Tw.ext {H H' : Heap} {a b : Bk} {s t : Sto} {Fa Fb : Nat → Prop} (h : Tw H a b s t Fa Fb) (hx : Ext H H') : Tw H' a b s t Fa Fb := ⟨h.sa.ext hx, h.sb.ext hx, h.dis, fun c hc => Nat.lt_of_lt_of_le (h.la c hc) hx.len, fun c hc => Nat.lt_of_lt_of_le (h.lb c hc) hx.len⟩
theorem Tw.left {H H' : Heap} {a b : Bk} {s s' t : Sto} {Fa Fa' Fb : Nat → Prop} (h : Tw H a b s t Fa Fb) (hs : SH H' a s' Fa') (hf : Frm Fa H H') (hF : ∀ c, Fa' c → Fa c ∨ (H.length ≤ c ∧ c < H'.length)) : Tw H' a b s' t Fa' Fb := by
  obtain ⟨im, pm, sb⟩ := h.sb
  refine ⟨hs, ⟨im, pm, sb.frm hf fun c hc _ hd => h.dis c hd hc⟩, fun c h1 h2 => ?_, fun c hc => ?_, fun c hc => Nat.lt_of_lt_of_le (h.lb c hc) hf.1⟩
  · rcases hF c h1 with h3 | h3
    · exact h.dis c h3 h2
    · have := h.lb c h2; omega
  · rcases hF c hc with h3 | h3
    · exact Nat.lt_of_lt_of_le (h.la c h3) hf.1
    · exact h3.2
theorem putT {q : List Raw} {P E : Raw → Prop} (a b : Bk) (s t : Sto) (Fa Fb : Nat → Prop) (r : Raw) (now : Int) (H : Heap) (h : Tw H a b s t Fa Fb) (ho : OrdV q s P E) (hq : Apart q) (hm : r ∈ q) (hn : s.n ≤ 800000) (hr : RawOk r) (ht : TickOk now) :
    W env (.call 11 [.ptr a.s 0, .agg (eR r), .int .i64 now]) H (fun o H' => ∃ fr s' Fa', o = .val (.tup [.bool fr, .int .i64 0]) ∧ Tw H' a b s' t Fa' Fb ∧ OrdV q s' (fun x => P x ∨ x = r) E ∧ s'.n ≤ s.n + 3) := by
  refine (put11 a s Fa r now H h.sa ho.inv (by omega) hr ht).use ?_
  rintro o H' ⟨s', F', fr, rfl, q1, q2, q3, q4, q5, q6⟩
  have := (setOf_len r.mask).2
  exact ⟨fr, s', F', rfl, h.left q1 q5 q6, ho.put hq hm q2 q3 ht.1, by simp -implicitDefEqProofs only [pairsOf, List.length_map] at q4; omega⟩
theorem comT {q : List Raw} {P E : Raw → Prop} (a b : Bk) (s t : Sto) (Fa Fb : Nat → Prop) (r : Raw) (now : Int) (H : Heap) (h : Tw H a b s t Fa Fb) (ho : OrdV q s P E) (hall : ∀ r ∈ q, P r) (hq : Apart q) (hm : r ∈ q) (hc : cnd r) (hn : s.n ≤ 800000) (ht : TickOk now) :
    W env (.call 14 [.ptr a.s 0, .int .u64 (idOf r.write), .int .i64 now]) H (fun o H' => ∃ (u : Int) (s' : Sto), o = .val (.tup [.int .i64 u, .int .i64 0]) ∧ Tw H' a b s' t Fa Fb ∧ OrdV q s' P (fun x => E x ∨ x = r) ∧ s'.n = s.n) := by
  refine (commit14 a s Fa (idOf r.write) now H h.sa ho.inv (by omega) (idOf_ge r.write).1 ht).use ?_
  rintro o H' ⟨s', rfl, q1, q2, q3, q4, _, _, q5⟩
  exact ⟨_, s', rfl, h.left q1 q5 fun c hc => .inl hc, ho.com hq hall hm hc q2 q3 ht.1, q4⟩
def eI64 (x : Int) : List T := [.int .i64 x]
theorem orders5 (k0 k1 k2 : SK) (l : List Raw) (p1 p2 : List Int) (H : Heap) (hr : ∀ r ∈ l, RawOk r) (hp1 : ∀ x ∈ p1, I64 x) (hp2 : ∀ x ∈ p2, I64 x) (hl : l.length ≤ 1048576) (hl1 : p1.length ≤ 1048576) (hl2 : p2.length ≤ 1048576) : W env (.call 5 [.sl k0 (l.map eR), .sl k1 (p1.map eI64), .sl k2 (p2.map eI64)]) H (fun o _ => o = .val (.bool true)) := by
  refine W.fnI rfl rfl rfl ?_
  simp -implicitDefEqProofs only [ir5, op, ef, cl, sq, reduceIte, Int.reduceLT, Int.reduceLE, Int.reduceBEq, Int.reduceBNe, Int.reduceEq, Nat.reduceAdd, Nat.reduceLeDiff, Nat.reduceLT, Nat.reduceEqDiff, S1]
  refine callB_of _ _ _ _ _ _ _ _ (new7 _) ?_
  rintro u H1 ⟨hx1, a, Fa, hu, sa1, hFa⟩
  cases hu
  simp -implicitDefEqProofs only [op, ef, cl, sq, reduceIte, Int.reduceLT, Int.reduceLE, Int.reduceBEq, Int.reduceBNe, Int.reduceEq, Nat.reduceAdd, Nat.reduceLeDiff, Nat.reduceLT, Nat.reduceEqDiff, S1]
  refine callB_of _ _ _ _ _ _ _ _ (new7 _) ?_
  rintro u H2 ⟨hx2, b, Fb, hu, sb2, hFb⟩
  cases hu
  simp -implicitDefEqProofs only [op, ef, cl, sq, reduceIte, Int.reduceLT, Int.reduceLE, Int.reduceBEq, Int.reduceBNe, Int.reduceEq, Nat.reduceAdd, Nat.reduceLeDiff, Nat.reduceLT, Nat.reduceEqDiff, S1]
  refine callB_of _ _ _ _ _ _ _ _ (known8 _) ?_
  rintro u H3 ⟨hu, hx3⟩
  have hx3 : Ext H2 H3 := hx3
  cases hu
  have tw : Tw H3 a b Sto.emp Sto.emp Fa Fb := Tw.ext ⟨sa1.ext hx2, sb2, fun c h1 h2 => by have := (hFa c h1).2; have := (hFb c h2).1; omega, fun c h => by have := (hFa c h).2; have := hx2.len; omega, fun c h => (hFb c h).2⟩ hx3
  simp -implicitDefEqProofs only [op, ef, cl, sq, reduceIte, Int.reduceLT, Int.reduceLE, Int.reduceBEq, Int.reduceBNe, Int.reduceEq, Nat.reduceAdd, Nat.reduceLeDiff, Nat.reduceLT, Nat.reduceEqDiff, S1, eqRef, nilOf]
  refine W.loopE 0 (fun (i : Nat) R H' => At H' (fun H' => ∃ q kd, R 9 = .sl kd (q.map eR) ∧ Ext H3 H' ∧ Apd H3.length H' kd ∧ Apart q ∧ (∀ r ∈ q, RawOk r) ∧ q.length ≤ i) ∧ R 0 = .sl k0 (l.map eR) ∧ R 1 = .sl k1 (p1.map eI64) ∧ R 2 = .sl k2 (p2.map eI64) ∧ R 7 = .ptr a.s 0 ∧ R 8 = .ptr b.s 0 ∧ R 10 = .int .i64 i ∧ i ≤ 60) (fun i => 60 - i) 0
    (fun R H' => At H' (fun H' => ∃ q kd, R 9 = .sl kd (q.map eR) ∧ Ext H3 H' ∧ Apart q ∧ (∀ r ∈ q, RawOk r) ∧ q.length ≤ 60) ∧ R 1 = .sl k1 (p1.map eI64) ∧ R 2 = .sl k2 (p2.map eI64) ∧ R 7 = .ptr a.s 0 ∧ R 8 = .ptr b.s 0) ⟨.i ⟨[], .nil, rfl, Ext.rfl', apd_nil _ _, List.Pairwise.nil, by simp, Nat.le_refl _⟩, rfl, rfl, rfl, rfl, rfl, rfl, by omega⟩ ?_ ?_
  · rintro i R H4 ⟨⟨q, kd, r9, hx4, hap, hq, hro, hql⟩, r0, r1, r2, r7, r8, r10, hi⟩
    by_cases hlen : i < l.length
    rotate_left
    · simp -implicitDefEqProofs only [op, ef, cl, sq, reduceIte, Int.reduceLT, Int.reduceLE, Int.reduceBEq, Int.reduceBNe, Int.reduceEq, Nat.reduceAdd, Nat.reduceLeDiff, Nat.reduceLT, Nat.reduceEqDiff, S1, r0, r1, r2, r7, r8, r9, r10, List.length_map, hlen]
      exact .i ⟨q, kd, rfl, hx4, hq, hro, by omega⟩
    by_cases h60 : i < 60
    rotate_left
    · simp -implicitDefEqProofs only [op, ef, cl, sq, reduceIte, Int.reduceLT, Int.reduceLE, Int.reduceBEq, Int.reduceBNe, Int.reduceEq, Nat.reduceAdd, Nat.reduceLeDiff, Nat.reduceLT, Nat.reduceEqDiff, S1, r0, r1, r2, r7, r8, r9, r10, List.length_map, hlen, h60]
      exact .i ⟨q, kd, rfl, hx4, hq, hro, by omega⟩
    obtain ⟨r, hrg⟩ := getP hlen
    have hrok := hr r (List.mem_of_getElem? hrg)
    have hia := iadX (e := eR) (n := 4) (fun _ => rfl) (by decide) (k := k0) hrg
    have ws := wrap_succ (show i < 9223372036854775807 by omega)
    simp -implicitDefEqProofs only [op, ef, cl, sq, reduceIte, Int.reduceLT, Int.reduceLE, Int.reduceBEq, Int.reduceBNe, Int.reduceEq, Nat.reduceAdd, Nat.reduceLeDiff, Nat.reduceLT, Nat.reduceEqDiff, S1, r0, r1, r2, r7, r8, r9, r10, List.length_map, hlen, h60]
    refine W.loopE 2 (fun (k : Nat) R H' => H' = H4 ∧ R 0 = .sl k0 (l.map eR) ∧ R 1 = .sl k1 (p1.map eI64) ∧ R 2 = .sl k2 (p2.map eI64) ∧ R 7 = .ptr a.s 0 ∧ R 8 = .ptr b.s 0 ∧ R 9 = .sl kd (q.map eR) ∧ R 10 = .int .i64 i ∧ R 11 = .bool ((q.take k).all fun x => idOf x.write != idOf r.write) ∧ R 12 = .int .i64 k ∧ k ≤ q.length) (fun k => q.length - k) 0
      (fun R H' => H' = H4 ∧ R 0 = .sl k0 (l.map eR) ∧ R 1 = .sl k1 (p1.map eI64) ∧ R 2 = .sl k2 (p2.map eI64) ∧ R 7 = .ptr a.s 0 ∧ R 8 = .ptr b.s 0 ∧ R 9 = .sl kd (q.map eR) ∧ R 10 = .int .i64 i ∧ R 11 = .bool (q.all fun x => idOf x.write != idOf r.write)) ?_ ?_ ?_
    · refine ⟨rfl, ?_, ?_, ?_, ?_, ?_, ?_, ?_, ?_, ?_, Nat.zero_le _⟩
      all_goals simp -implicitDefEqProofs only [op, ef, cl, sq, reduceIte, Int.reduceLT, Int.reduceLE, Int.reduceBEq, Int.reduceBNe, Int.reduceEq, Nat.reduceAdd, Nat.reduceLeDiff, Nat.reduceLT, Nat.reduceEqDiff, S1, r0, r1, r2, r7, r8, r9, r10]
      all_goals rfl
    · rintro k R H5 ⟨rfl, r0, r1, r2, r7, r8, r9, r10, r11, r12, hk⟩
      by_cases hkl : k < q.length
      rotate_left
      · have hk' : k = q.length := by omega
        subst hk'
        rw [List.take_length] at r11
        simp -implicitDefEqProofs only [op, ef, cl, sq, reduceIte, Int.reduceLT, Int.reduceLE, Int.reduceBEq, Int.reduceBNe, Int.reduceEq, Nat.reduceAdd, Nat.reduceLeDiff, Nat.reduceLT, Nat.reduceEqDiff, S1, r0, r1, r2, r7, r8, r9, r10, r11, r12, List.length_map, hkl]
      obtain ⟨x, hx⟩ := getP hkl
      have hxo := hro x (List.mem_of_getElem? hx)
      have hik := iadX (e := eR) (n := 4) (fun _ => rfl) (by decide) (k := kd) hx
      have wk := wrap_succ (show k < 9223372036854775807 by omega)
      have et : (q.take (k + 1)).all (fun x => idOf x.write != idOf r.write) = ((q.take k).all (fun x => idOf x.write != idOf r.write) && (idOf x.write != idOf r.write)) := by rw [take_sn hx, List.all_append]; simp
      cases hall : (q.take k).all fun x => idOf x.write != idOf r.write with
      | false =>
        rw [hall] at r11 et
        simp -implicitDefEqProofs only [op, ef, cl, sq, reduceIte, Int.reduceLT, Int.reduceLE, Int.reduceBEq, Int.reduceBNe, Int.reduceEq, Nat.reduceAdd, Nat.reduceLeDiff, Nat.reduceLT, Nat.reduceEqDiff, S1, r0, r1, r2, r7, r8, r9, r10, r11, r12, List.length_map, hkl, wk]
        exact ⟨k + 1, by omega, by rw [et]; rfl, rfl, by omega⟩
      | true =>
        rw [hall] at r11 et
        simp -implicitDefEqProofs only [op, ef, cl, sq, reduceIte, Int.reduceLT, Int.reduceLE, Int.reduceBEq, Int.reduceBNe, Int.reduceEq, Nat.reduceAdd, Nat.reduceLeDiff, Nat.reduceLT, Nat.reduceEqDiff, S1, r0, r1, r2, r7, r8, r9, r10, r11, r12, List.length_map, hkl, natOf_nat, hik, hia, eR]
        refine callB_of _ _ _ _ _ _ _ _ (id9 x.write hxo.2.1 _) ?_
        rintro u H6 ⟨hu, rfl⟩
        cases hu
        simp -implicitDefEqProofs only [op, ef, cl, sq, reduceIte, Int.reduceLT, Int.reduceLE, Int.reduceBEq, Int.reduceBNe, Int.reduceEq, Nat.reduceAdd, Nat.reduceLeDiff, Nat.reduceLT, Nat.reduceEqDiff, S1, hia, eR, natOf_nat]
        refine callB_of _ _ _ _ _ _ _ _ (id9 r.write hrok.2.1 _) ?_
        rintro u H6 ⟨hu, rfl⟩
        cases hu
        have en : (((idOf x.write : Nat) : Int) != ((idOf r.write : Nat) : Int)) = (idOf x.write != idOf r.write) := by
          rw [bne, bne, Bool.eq_iff_iff]
          simp
          omega
        simp -implicitDefEqProofs only [op, ef, cl, sq, reduceIte, Int.reduceLT, Int.reduceLE, Int.reduceBEq, Int.reduceBNe, Int.reduceEq, Nat.reduceAdd, Nat.reduceLeDiff, Nat.reduceLT, Nat.reduceEqDiff, S1, r0, r1, r2, r7, r8, r9, r10, r12, wk, en]
        exact ⟨k + 1, by omega, by rw [et]; rfl, rfl, by omega⟩
    · rintro R H5 ⟨rfl, r0, r1, r2, r7, r8, r9, r10, r11⟩
      cases hall : q.all fun x => idOf x.write != idOf r.write with
      | false =>
        rw [hall] at r11
        simp -implicitDefEqProofs only [op, ef, cl, sq, reduceIte, Int.reduceLT, Int.reduceLE, Int.reduceBEq, Int.reduceBNe, Int.reduceEq, Nat.reduceAdd, Nat.reduceLeDiff, Nat.reduceLT, Nat.reduceEqDiff, S1, r0, r1, r2, r7, r8, r9, r10, r11, ws]
        exact ⟨i + 1, by omega, .i ⟨q, kd, rfl, hx4, hap, hq, hro, by omega⟩, rfl, by omega⟩
      | true =>
        rw [hall] at r11
        have hap2 := all_map (enc := eR) (n := 4) (fun _ => rfl) q
        obtain ⟨k', H6, ha, hap', hst⟩ := app_ok (bytes := 40) (q.map eR) [[T.int .i64 r.kind, .int .i64 r.write, .int .i64 r.mask, .str r.value]] hap hx4.len (by simp) (roomS (by simp; omega) (by omega))
        simp -implicitDefEqProofs only [op, ef, cl, sq, reduceIte, Int.reduceLT, Int.reduceLE, Int.reduceBEq, Int.reduceBNe, Int.reduceEq, Nat.reduceAdd, Nat.reduceLeDiff, Nat.reduceLT, Nat.reduceEqDiff, S1] at ha
        simp -implicitDefEqProofs only [op, ef, cl, sq, reduceIte, Int.reduceLT, Int.reduceLE, Int.reduceBEq, Int.reduceBNe, Int.reduceEq, Nat.reduceAdd, Nat.reduceLeDiff, Nat.reduceLT, Nat.reduceEqDiff, S1, r0, r1, r2, r7, r8, r9, r10, r11, natOf_nat, hia, eR, hap2, ha, ws]
        refine ⟨i + 1, by omega, .i ⟨q ++ [r], k', ?_, hst.ext H3 (Nat.le_refl _) hx4, hap', ?_, ?_, ?_⟩, rfl, by omega⟩
        · simp [eR]
        · refine List.pairwise_append.2 ⟨hq, List.pairwise_singleton _ _, fun x hx y hy => ?_⟩
          rw [List.mem_singleton] at hy
          subst hy
          simpa using List.all_eq_true.1 hall x hx
        · intro x hx
          rcases List.mem_append.1 hx with h | h
          · exact hro x h
          · rw [List.mem_singleton] at h; subst h; exact hrok
        · simp; omega
  · rintro R H4 ⟨⟨q, kd, r9, hx4, hq, hro, hql⟩, r1, r2, r7, r8⟩
    have tw4 := tw.ext hx4
    simp -implicitDefEqProofs only [op, ef, cl, sq, reduceIte, Int.reduceLT, Int.reduceLE, Int.reduceBEq, Int.reduceBNe, Int.reduceEq, Nat.reduceAdd, Nat.reduceLeDiff, Nat.reduceLT, Nat.reduceEqDiff, S1, r1, r2, r7, r8, r9]
    -- all put into a
    refine W.loopE 4 (fun (i : Nat) R H' => At H' (fun H' => ∃ s t Fa Fb, Tw H' a b s t Fa Fb ∧ OrdV q s (fun x => x ∈ q.take i) (fun _ => False) ∧ OrdV q t (fun _ => False) (fun _ => False) ∧ s.n ≤ 3 * i ∧ t.n ≤ 0) ∧ R 1 = .sl k1 (p1.map eI64) ∧ R 2 = .sl k2 (p2.map eI64) ∧ R 7 = .ptr a.s 0 ∧ R 8 = .ptr b.s 0 ∧ R 9 = .sl kd (q.map eR) ∧ R 13 = .int .i64 i ∧ i ≤ q.length) (fun i => q.length - i) 0
      (fun R H' => At H' (fun H' => ∃ s t Fa Fb, Tw H' a b s t Fa Fb ∧ OrdV q s (fun _ => True) (fun _ => False) ∧ OrdV q t (fun _ => False) (fun _ => False) ∧ s.n ≤ 3 * 60 ∧ t.n ≤ 0) ∧ R 1 = .sl k1 (p1.map eI64) ∧ R 2 = .sl k2 (p2.map eI64) ∧ R 7 = .ptr a.s 0 ∧ R 8 = .ptr b.s 0 ∧ R 9 = .sl kd (q.map eR)) ⟨.i ⟨Sto.emp, Sto.emp, Fa, Fb, tw4, (OrdV.emp q).mono (fun _ _ h => by simp at h) (fun _ _ h => h), OrdV.emp q, Nat.le_refl _, Nat.le_refl _⟩, ?_, ?_, ?_, ?_, ?_, ?_, Nat.zero_le _⟩ ?_ ?_
    · simp -implicitDefEqProofs only [op, ef, cl, sq, reduceIte, Int.reduceLT, Int.reduceLE, Int.reduceBEq, Int.reduceBNe, Int.reduceEq, Nat.reduceAdd, Nat.reduceLeDiff, Nat.reduceLT, Nat.reduceEqDiff, S1, r1]
    · simp -implicitDefEqProofs only [op, ef, cl, sq, reduceIte, Int.reduceLT, Int.reduceLE, Int.reduceBEq, Int.reduceBNe, Int.reduceEq, Nat.reduceAdd, Nat.reduceLeDiff, Nat.reduceLT, Nat.reduceEqDiff, S1, r2]
    · simp -implicitDefEqProofs only [op, ef, cl, sq, reduceIte, Int.reduceLT, Int.reduceLE, Int.reduceBEq, Int.reduceBNe, Int.reduceEq, Nat.reduceAdd, Nat.reduceLeDiff, Nat.reduceLT, Nat.reduceEqDiff, S1, r7]
    · simp -implicitDefEqProofs only [op, ef, cl, sq, reduceIte, Int.reduceLT, Int.reduceLE, Int.reduceBEq, Int.reduceBNe, Int.reduceEq, Nat.reduceAdd, Nat.reduceLeDiff, Nat.reduceLT, Nat.reduceEqDiff, S1, r8]
    · simp -implicitDefEqProofs only [op, ef, cl, sq, reduceIte, Int.reduceLT, Int.reduceLE, Int.reduceBEq, Int.reduceBNe, Int.reduceEq, Nat.reduceAdd, Nat.reduceLeDiff, Nat.reduceLT, Nat.reduceEqDiff, S1, r9]
    · simp -implicitDefEqProofs only [op, ef, cl, sq, reduceIte, Int.reduceLT, Int.reduceLE, Int.reduceBEq, Int.reduceBNe, Int.reduceEq, Nat.reduceAdd, Nat.reduceLeDiff, Nat.reduceLT, Nat.reduceEqDiff, S1]; rfl
    · rintro i R H5 ⟨⟨s, t, Fa, Fb, tw, oa, ob, hsn, htn⟩, r1, r2, r7, r8, r9, r13, hi⟩
      by_cases hil : i < q.length
      rotate_left
      · have hi' : i = q.length := by omega
        subst hi'
        simp -implicitDefEqProofs only [op, ef, cl, sq, reduceIte, Int.reduceLT, Int.reduceLE, Int.reduceBEq, Int.reduceBNe, Int.reduceEq, Nat.reduceAdd, Nat.reduceLeDiff, Nat.reduceLT, Nat.reduceEqDiff, S1, r1, r2, r7, r8, r9, r13, List.length_map, hil]
        exact .i ⟨s, t, Fa, Fb, tw, oa.mono (fun r hr _ => by rw [List.take_length]; exact hr) (fun _ _ h => h), ob, by omega, by omega⟩
      obtain ⟨r, hr⟩ := getP hil
      have hrm := List.mem_of_getElem? hr
      have hia := iadX (e := eR) (n := 4) (fun _ => rfl) (by decide) (k := kd) hr
      have ws := wrap_succ (show i < 9223372036854775807 by omega)
      simp -implicitDefEqProofs only [op, ef, cl, sq, reduceIte, Int.reduceLT, Int.reduceLE, Int.reduceBEq, Int.reduceBNe, Int.reduceEq, Nat.reduceAdd, Nat.reduceLeDiff, Nat.reduceLT, Nat.reduceEqDiff, S1, r1, r2, r7, r8, r9, r13, List.length_map, hil, natOf_nat, hia, eR]
      refine callB_of _ _ _ _ _ _ _ _ (putT a b s t Fa Fb r 0 _ tw oa hq hrm (by omega) (hro r hrm) ⟨by decide, by decide⟩) ?_
      rintro u H6 ⟨fr, s', Fa', hu, tw', oa', hn'⟩
      cases hu
      simp -implicitDefEqProofs only [op, ef, cl, sq, reduceIte, Int.reduceLT, Int.reduceLE, Int.reduceBEq, Int.reduceBNe, Int.reduceEq, Nat.reduceAdd, Nat.reduceLeDiff, Nat.reduceLT, Nat.reduceEqDiff, S1, r1, r2, r7, r8, r9, r13, ws]
      exact ⟨i + 1, by omega, .i ⟨s', t, Fa', Fb, tw', oa'.mono (fun x _ hx => by rw [take_sn hr, List.mem_append, List.mem_singleton] at hx; exact hx) (fun _ _ h => h), ob, by omega, htn⟩, rfl, by omega⟩
    rintro R H5 ⟨⟨s, t, Fa, Fb, tw, oa, ob, hsn, htn⟩, r1, r2, r7, r8, r9⟩
    simp -implicitDefEqProofs only [op, ef, cl, sq, reduceIte, Int.reduceLT, Int.reduceLE, Int.reduceBEq, Int.reduceBNe, Int.reduceEq, Nat.reduceAdd, Nat.reduceLeDiff, Nat.reduceLT, Nat.reduceEqDiff, S1, r1, r2, r7, r8, r9]
    -- some put into b
    refine W.loopE 6 (fun (i : Nat) R H' => At H' (fun H' => ∃ s t Fa Fb, Tw H' a b s t Fa Fb ∧ OrdV q s (fun _ => True) (fun _ => False) ∧ OrdV q t (fun _ => False) (fun _ => False) ∧ s.n ≤ 3 * 60 ∧ t.n ≤ 3 * i) ∧ R 1 = .sl k1 (p1.map eI64) ∧ R 2 = .sl k2 (p2.map eI64) ∧ R 7 = .ptr a.s 0 ∧ R 8 = .ptr b.s 0 ∧ R 9 = .sl kd (q.map eR) ∧ R 14 = .int .i64 i ∧ i ≤ 200) (fun i => 200 - i) 0
      (fun R H' => At H' (fun H' => ∃ s t Fa Fb, Tw H' a b s t Fa Fb ∧ OrdV q s (fun _ => True) (fun _ => False) ∧ OrdV q t (fun _ => False) (fun _ => False) ∧ s.n ≤ 3 * 60 ∧ t.n ≤ 600) ∧ R 1 = .sl k1 (p1.map eI64) ∧ R 2 = .sl k2 (p2.map eI64) ∧ R 7 = .ptr a.s 0 ∧ R 8 = .ptr b.s 0 ∧ R 9 = .sl kd (q.map eR)) ⟨.i ⟨s, t, Fa, Fb, tw, oa, ob, by omega, by omega⟩, ?_, ?_, ?_, ?_, ?_, ?_, by omega⟩ ?_ ?_
    · simp -implicitDefEqProofs only [op, ef, cl, sq, reduceIte, Int.reduceLT, Int.reduceLE, Int.reduceBEq, Int.reduceBNe, Int.reduceEq, Nat.reduceAdd, Nat.reduceLeDiff, Nat.reduceLT, Nat.reduceEqDiff, S1, r1]
    · simp -implicitDefEqProofs only [op, ef, cl, sq, reduceIte, Int.reduceLT, Int.reduceLE, Int.reduceBEq, Int.reduceBNe, Int.reduceEq, Nat.reduceAdd, Nat.reduceLeDiff, Nat.reduceLT, Nat.reduceEqDiff, S1, r2]
    · simp -implicitDefEqProofs only [op, ef, cl, sq, reduceIte, Int.reduceLT, Int.reduceLE, Int.reduceBEq, Int.reduceBNe, Int.reduceEq, Nat.reduceAdd, Nat.reduceLeDiff, Nat.reduceLT, Nat.reduceEqDiff, S1, r7]
    · simp -implicitDefEqProofs only [op, ef, cl, sq, reduceIte, Int.reduceLT, Int.reduceLE, Int.reduceBEq, Int.reduceBNe, Int.reduceEq, Nat.reduceAdd, Nat.reduceLeDiff, Nat.reduceLT, Nat.reduceEqDiff, S1, r8]
    · simp -implicitDefEqProofs only [op, ef, cl, sq, reduceIte, Int.reduceLT, Int.reduceLE, Int.reduceBEq, Int.reduceBNe, Int.reduceEq, Nat.reduceAdd, Nat.reduceLeDiff, Nat.reduceLT, Nat.reduceEqDiff, S1, r9]
    · simp -implicitDefEqProofs only [op, ef, cl, sq, reduceIte, Int.reduceLT, Int.reduceLE, Int.reduceBEq, Int.reduceBNe, Int.reduceEq, Nat.reduceAdd, Nat.reduceLeDiff, Nat.reduceLT, Nat.reduceEqDiff, S1]; rfl
    · clear tw oa ob hsn htn
      rintro i R H6 ⟨⟨s, t, Fa, Fb, tw, oa, ob, hsn, htn⟩, r1, r2, r7, r8, r9, r14, hi⟩
      by_cases hil : i < p1.length
      rotate_left
      · simp -implicitDefEqProofs only [op, ef, cl, sq, reduceIte, Int.reduceLT, Int.reduceLE, Int.reduceBEq, Int.reduceBNe, Int.reduceEq, Nat.reduceAdd, Nat.reduceLeDiff, Nat.reduceLT, Nat.reduceEqDiff, S1, r1, r2, r7, r8, r9, r14, List.length_map, hil]
        exact .i ⟨s, t, Fa, Fb, tw, oa, ob, hsn, by omega⟩
      by_cases hq0 : 0 < q.length
      rotate_left
      · simp -implicitDefEqProofs only [op, ef, cl, sq, reduceIte, Int.reduceLT, Int.reduceLE, Int.reduceBEq, Int.reduceBNe, Int.reduceEq, Nat.reduceAdd, Nat.reduceLeDiff, Nat.reduceLT, Nat.reduceEqDiff, S1, r1, r2, r7, r8, r9, r14, List.length_map, hil, hq0]
        exact .i ⟨s, t, Fa, Fb, tw, oa, ob, hsn, by omega⟩
      by_cases h200 : i < 200
      rotate_left
      · simp -implicitDefEqProofs only [op, ef, cl, sq, reduceIte, Int.reduceLT, Int.reduceLE, Int.reduceBEq, Int.reduceBNe, Int.reduceEq, Nat.reduceAdd, Nat.reduceLeDiff, Nat.reduceLT, Nat.reduceEqDiff, S1, r1, r2, r7, r8, r9, r14, List.length_map, hil, hq0, h200]
        exact .i ⟨s, t, Fa, Fb, tw, oa, ob, hsn, by omega⟩
      obtain ⟨x, hx⟩ := getP hil
      have hx64 := hp1 x (List.mem_of_getElem? hx)
      have hix := iadX (e := eI64) (n := 1) (fun _ => rfl) (by decide) (k := k1) hx
      have ws := wrap_succ (show i < 9223372036854775807 by omega)
      have hrl := restI_le x (q.length - 1)
      simp -implicitDefEqProofs (maxSteps := 1000000) (disch := omega) only [natOf_nat, iadm, ldm1, ldm2, stm0, stm1, stm2, wA, wA1, wS, wS1, wM, S2, op, ef, cl, sq, reduceIte, Int.reduceLT, Int.reduceLE, Int.reduceBEq, Int.reduceBNe, Int.reduceEq, Nat.reduceAdd, Nat.reduceLeDiff, Nat.reduceLT, Nat.reduceEqDiff, S1, r1, r2, r7, r8, r9, r14, List.length_map, hil, hq0, h200, hix, eI64]
      refine callB_of _ _ _ _ _ _ _ _ (rest10 x (q.length - 1) (by omega) hx64 _) ?_
      rintro u H7 ⟨hu, rfl⟩
      cases hu
      obtain ⟨y, hy⟩ := getP (l := q) (i := restI x (q.length - 1)) (by omega)
      have hym := List.mem_of_getElem? hy
      have hiy := iadX (e := eR) (n := 4) (fun _ => rfl) (by decide) (k := kd) hy
      simp -implicitDefEqProofs only [op, ef, cl, sq, reduceIte, Int.reduceLT, Int.reduceLE, Int.reduceBEq, Int.reduceBNe, Int.reduceEq, Nat.reduceAdd, Nat.reduceLeDiff, Nat.reduceLT, Nat.reduceEqDiff, S1, r9, natOf_nat, hix, hiy, eI64, eR]
      refine callB_of _ _ _ _ _ _ _ _ (rest10 x 9 (by decide) hx64 _) ?_
      rintro u H7 ⟨hu, rfl⟩
      cases hu
      have hr9 := restI_le x 9
      simp -implicitDefEqProofs only [op, ef, cl, sq, reduceIte, Int.reduceLT, Int.reduceLE, Int.reduceBEq, Int.reduceBNe, Int.reduceEq, Nat.reduceAdd, Nat.reduceLeDiff, Nat.reduceLT, Nat.reduceEqDiff, S1, r8, natOf_nat, hiy, eR]
      refine callB_of _ _ _ _ _ _ _ _ (putT b a t s Fb Fa y (restI x 9 : Nat) _ tw.swap ob hq hym (by omega) (hro y hym) ⟨by omega, by omega⟩) ?_
      rintro u H7 ⟨fr, s', Fa', hu, tw', oa', hn'⟩
      cases hu
      simp -implicitDefEqProofs only [op, ef, cl, sq, reduceIte, Int.reduceLT, Int.reduceLE, Int.reduceBEq, Int.reduceBNe, Int.reduceEq, Nat.reduceAdd, Nat.reduceLeDiff, Nat.reduceLT, Nat.reduceEqDiff, S1, r1, r2, r7, r8, r9, r14, ws]
      exact ⟨i + 1, by omega, .i ⟨s, s', Fa, Fa', tw'.swap, oa, oa'.mono (fun _ _ h => h.elim) (fun _ _ h => h), hsn, by omega⟩, rfl, by omega⟩
    rintro R H5 ⟨⟨s, t, Fa, Fb, tw, oa, ob, hsn, htn⟩, r1, r2, r7, r8, r9⟩
    simp -implicitDefEqProofs only [op, ef, cl, sq, reduceIte, Int.reduceLT, Int.reduceLE, Int.reduceBEq, Int.reduceBNe, Int.reduceEq, Nat.reduceAdd, Nat.reduceLeDiff, Nat.reduceLT, Nat.reduceEqDiff, S1, r1, r2, r7, r8, r9]
    refine W.loopE 8 (fun (i : Nat) R H' => At H' (fun H' => ∃ s t Fa Fb, Tw H' a b s t Fa Fb ∧ OrdV q s (fun _ => True) (fun _ => False) ∧ OrdV q t (fun x => ∃ j, q.length - i ≤ j ∧ q[j]? = some x) (fun _ => False) ∧ s.n ≤ 180 ∧ t.n ≤ 600 + 3 * i) ∧ R 1 = .sl k1 (p1.map eI64) ∧ R 2 = .sl k2 (p2.map eI64) ∧ R 7 = .ptr a.s 0 ∧ R 8 = .ptr b.s 0 ∧ R 9 = .sl kd (q.map eR) ∧ R 15 = .int .i64 i ∧ i ≤ q.length) (fun i => q.length - i) 0
      (fun R H' => At H' (fun H' => ∃ s t Fa Fb, Tw H' a b s t Fa Fb ∧ OrdV q s (fun _ => True) (fun _ => False) ∧ OrdV q t (fun _ => True) (fun _ => False) ∧ s.n ≤ 180 ∧ t.n ≤ 780) ∧ R 1 = .sl k1 (p1.map eI64) ∧ R 2 = .sl k2 (p2.map eI64) ∧ R 7 = .ptr a.s 0 ∧ R 8 = .ptr b.s 0 ∧ R 9 = .sl kd (q.map eR)) ⟨.i ⟨s, t, Fa, Fb, tw, oa, ob.mono (fun x _ ⟨j, h1, h2⟩ => by have := (List.getElem?_eq_some_iff.1 h2).1; omega) (fun _ _ h => h), by omega, by omega⟩, ?_, ?_, ?_, ?_, ?_, ?_, Nat.zero_le _⟩ ?_ ?_
    · simp -implicitDefEqProofs only [op, ef, cl, sq, reduceIte, Int.reduceLT, Int.reduceLE, Int.reduceBEq, Int.reduceBNe, Int.reduceEq, Nat.reduceAdd, Nat.reduceLeDiff, Nat.reduceLT, Nat.reduceEqDiff, S1, r1]
    · simp -implicitDefEqProofs only [op, ef, cl, sq, reduceIte, Int.reduceLT, Int.reduceLE, Int.reduceBEq, Int.reduceBNe, Int.reduceEq, Nat.reduceAdd, Nat.reduceLeDiff, Nat.reduceLT, Nat.reduceEqDiff, S1, r2]
    · simp -implicitDefEqProofs only [op, ef, cl, sq, reduceIte, Int.reduceLT, Int.reduceLE, Int.reduceBEq, Int.reduceBNe, Int.reduceEq, Nat.reduceAdd, Nat.reduceLeDiff, Nat.reduceLT, Nat.reduceEqDiff, S1, r7]
    · simp -implicitDefEqProofs only [op, ef, cl, sq, reduceIte, Int.reduceLT, Int.reduceLE, Int.reduceBEq, Int.reduceBNe, Int.reduceEq, Nat.reduceAdd, Nat.reduceLeDiff, Nat.reduceLT, Nat.reduceEqDiff, S1, r8]
    · simp -implicitDefEqProofs only [op, ef, cl, sq, reduceIte, Int.reduceLT, Int.reduceLE, Int.reduceBEq, Int.reduceBNe, Int.reduceEq, Nat.reduceAdd, Nat.reduceLeDiff, Nat.reduceLT, Nat.reduceEqDiff, S1, r9]
    · simp -implicitDefEqProofs only [op, ef, cl, sq, reduceIte, Int.reduceLT, Int.reduceLE, Int.reduceBEq, Int.reduceBNe, Int.reduceEq, Nat.reduceAdd, Nat.reduceLeDiff, Nat.reduceLT, Nat.reduceEqDiff, S1]; rfl
    · clear tw oa ob hsn htn
      rintro i R H6 ⟨⟨s, t, Fa, Fb, tw, oa, ob, hsn, htn⟩, r1, r2, r7, r8, r9, r15, hi⟩
      by_cases hil : i < q.length
      rotate_left
      · have hi' : i = q.length := by omega
        subst hi'
        simp -implicitDefEqProofs only [op, ef, cl, sq, reduceIte, Int.reduceLT, Int.reduceLE, Int.reduceBEq, Int.reduceBNe, Int.reduceEq, Nat.reduceAdd, Nat.reduceLeDiff, Nat.reduceLT, Nat.reduceEqDiff, S1, r1, r2, r7, r8, r9, r15, List.length_map, hil]
        refine .i ⟨s, t, Fa, Fb, tw, oa, ob.mono (fun x hx _ => ?_) (fun _ _ h => h), hsn, by omega⟩
        obtain ⟨j, hj, e⟩ := List.getElem_of_mem hx
        exact ⟨j, by omega, by rw [List.getElem?_eq_getElem hj, e]⟩
      obtain ⟨r, hr⟩ := getP (l := q) (i := q.length - 1 - i) (by omega)
      have hrm := List.mem_of_getElem? hr
      have hia := iadX (e := eR) (n := 4) (fun _ => rfl) (by decide) (k := kd) hr
      have ws := wrap_succ (show i < 9223372036854775807 by omega)
      simp -implicitDefEqProofs (maxSteps := 1000000) (disch := omega) only [natOf_nat, iadm, ldm1, ldm2, stm0, stm1, stm2, wA, wA1, wS, wS1, wM, S2, op, ef, cl, sq, reduceIte, Int.reduceLT, Int.reduceLE, Int.reduceBEq, Int.reduceBNe, Int.reduceEq, Nat.reduceAdd, Nat.reduceLeDiff, Nat.reduceLT, Nat.reduceEqDiff, S1, r1, r2, r7, r8, r9, r15, List.length_map, hil, hia, eR]
      refine callB_of _ _ _ _ _ _ _ _ (putT b a t s Fb Fa r 0 _ tw.swap ob hq hrm (by omega) (hro r hrm) ⟨by decide, by decide⟩) ?_
      rintro u H7 ⟨fr, s', Fa', hu, tw', oa', hn'⟩
      cases hu
      simp -implicitDefEqProofs only [op, ef, cl, sq, reduceIte, Int.reduceLT, Int.reduceLE, Int.reduceBEq, Int.reduceBNe, Int.reduceEq, Nat.reduceAdd, Nat.reduceLeDiff, Nat.reduceLT, Nat.reduceEqDiff, S1, r1, r2, r7, r8, r9, r15, ws]
      refine ⟨i + 1, by omega, .i ⟨s, s', Fa, Fa', tw'.swap, oa, oa'.mono (fun x _ ⟨j, h1, h2⟩ => ?_) (fun _ _ h => h), hsn, by omega⟩, rfl, by omega⟩
      by_cases hj : j = q.length - 1 - i
      · subst hj; rw [hr] at h2; cases h2; exact .inr rfl
      · exact .inl ⟨j, by omega, h2⟩
    rintro R H5 ⟨⟨s, t, Fa, Fb, tw, oa, ob, hsn, htn⟩, r1, r2, r7, r8, r9⟩
    simp -implicitDefEqProofs only [op, ef, cl, sq, reduceIte, Int.reduceLT, Int.reduceLE, Int.reduceBEq, Int.reduceBNe, Int.reduceEq, Nat.reduceAdd, Nat.reduceLeDiff, Nat.reduceLT, Nat.reduceEqDiff, S1, r1, r2, r7, r8, r9]
    refine W.loopE 10 (fun (i : Nat) R H' => At H' (fun H' => ∃ s t Fa Fb, Tw H' a b s t Fa Fb ∧ OrdV q s (fun _ => True) (fun x => x ∈ q.take i ∧ cnd x) ∧ OrdV q t (fun _ => True) (fun _ => False) ∧ s.n ≤ 180 ∧ t.n ≤ 780) ∧ R 1 = .sl k1 (p1.map eI64) ∧ R 2 = .sl k2 (p2.map eI64) ∧ R 7 = .ptr a.s 0 ∧ R 8 = .ptr b.s 0 ∧ R 9 = .sl kd (q.map eR) ∧ R 16 = .int .i64 i ∧ i ≤ q.length) (fun i => q.length - i) 0
      (fun R H' => At H' (fun H' => ∃ s t Fa Fb, Tw H' a b s t Fa Fb ∧ OrdV q s (fun _ => True) cnd ∧ OrdV q t (fun _ => True) (fun _ => False) ∧ s.n ≤ 180 ∧ t.n ≤ 780) ∧ R 1 = .sl k1 (p1.map eI64) ∧ R 2 = .sl k2 (p2.map eI64) ∧ R 7 = .ptr a.s 0 ∧ R 8 = .ptr b.s 0 ∧ R 9 = .sl kd (q.map eR)) ⟨.i ⟨s, t, Fa, Fb, tw, oa.mono (fun _ _ h => h) (fun x _ h => by simp at h), ob, by omega, by omega⟩, ?_, ?_, ?_, ?_, ?_, ?_, Nat.zero_le _⟩ ?_ ?_
    · simp -implicitDefEqProofs only [op, ef, cl, sq, reduceIte, Int.reduceLT, Int.reduceLE, Int.reduceBEq, Int.reduceBNe, Int.reduceEq, Nat.reduceAdd, Nat.reduceLeDiff, Nat.reduceLT, Nat.reduceEqDiff, S1, r1]
    · simp -implicitDefEqProofs only [op, ef, cl, sq, reduceIte, Int.reduceLT, Int.reduceLE, Int.reduceBEq, Int.reduceBNe, Int.reduceEq, Nat.reduceAdd, Nat.reduceLeDiff, Nat.reduceLT, Nat.reduceEqDiff, S1, r2]
    · simp -implicitDefEqProofs only [op, ef, cl, sq, reduceIte, Int.reduceLT, Int.reduceLE, Int.reduceBEq, Int.reduceBNe, Int.reduceEq, Nat.reduceAdd, Nat.reduceLeDiff, Nat.reduceLT, Nat.reduceEqDiff, S1, r7]
    · simp -implicitDefEqProofs only [op, ef, cl, sq, reduceIte, Int.reduceLT, Int.reduceLE, Int.reduceBEq, Int.reduceBNe, Int.reduceEq, Nat.reduceAdd, Nat.reduceLeDiff, Nat.reduceLT, Nat.reduceEqDiff, S1, r8]
    · simp -implicitDefEqProofs only [op, ef, cl, sq, reduceIte, Int.reduceLT, Int.reduceLE, Int.reduceBEq, Int.reduceBNe, Int.reduceEq, Nat.reduceAdd, Nat.reduceLeDiff, Nat.reduceLT, Nat.reduceEqDiff, S1, r9]
    · simp -implicitDefEqProofs only [op, ef, cl, sq, reduceIte, Int.reduceLT, Int.reduceLE, Int.reduceBEq, Int.reduceBNe, Int.reduceEq, Nat.reduceAdd, Nat.reduceLeDiff, Nat.reduceLT, Nat.reduceEqDiff, S1]; rfl
    · clear tw oa ob hsn htn
      rintro i R H6 ⟨⟨s, t, Fa, Fb, tw, oa, ob, hsn, htn⟩, r1, r2, r7, r8, r9, r16, hi⟩
      by_cases hil : i < q.length
      rotate_left
      · have hi' : i = q.length := by omega
        subst hi'
        simp -implicitDefEqProofs only [op, ef, cl, sq, reduceIte, Int.reduceLT, Int.reduceLE, Int.reduceBEq, Int.reduceBNe, Int.reduceEq, Nat.reduceAdd, Nat.reduceLeDiff, Nat.reduceLT, Nat.reduceEqDiff, S1, r1, r2, r7, r8, r9, r16, List.length_map, hil]
        exact .i ⟨s, t, Fa, Fb, tw, oa.mono (fun _ _ h => h) (fun x hx h => by rw [List.take_length]; exact ⟨hx, h⟩), ob, hsn, by omega⟩
      obtain ⟨r, hr⟩ := getP hil
      have hrm := List.mem_of_getElem? hr
      have hrok := hro r hrm
      have hia := iadX (e := eR) (n := 4) (fun _ => rfl) (by decide) (k := kd) hr
      have ws := wrap_succ (show i < 9223372036854775807 by omega)
      simp -implicitDefEqProofs only [op, ef, cl, sq, reduceIte, Int.reduceLT, Int.reduceLE, Int.reduceBEq, Int.reduceBNe, Int.reduceEq, Nat.reduceAdd, Nat.reduceLeDiff, Nat.reduceLT, Nat.reduceEqDiff, S1, r1, r2, r7, r8, r9, r16, List.length_map, hil, natOf_nat, hia, eR]
      refine callB_of _ _ _ _ _ _ _ _ (rest10 r.kind 1 (by decide) hrok.1 _) ?_
      rintro u H7 ⟨hu, rfl⟩
      cases hu
      by_cases hc : cnd r
      · have ek : (((restI r.kind 1 : Nat) : Int) == 0) = true := by rw [show restI r.kind 1 = 0 from hc]; rfl
        simp -implicitDefEqProofs only [op, ef, cl, sq, reduceIte, Int.reduceLT, Int.reduceLE, Int.reduceBEq, Int.reduceBNe, Int.reduceEq, Nat.reduceAdd, Nat.reduceLeDiff, Nat.reduceLT, Nat.reduceEqDiff, S1, r1, r2, r7, r8, r9, r16, natOf_nat, hia, eR, ek]
        refine callB_of _ _ _ _ _ _ _ _ (id9 r.write hrok.2.1 _) ?_
        rintro u H7 ⟨hu, rfl⟩
        cases hu
        simp -implicitDefEqProofs only [op, ef, cl, sq, reduceIte, Int.reduceLT, Int.reduceLE, Int.reduceBEq, Int.reduceBNe, Int.reduceEq, Nat.reduceAdd, Nat.reduceLeDiff, Nat.reduceLT, Nat.reduceEqDiff, S1, r1, r2, r7, r8, r9, r16]
        refine callB_of _ _ _ _ _ _ _ _ (comT a b s t Fa Fb r 1 _ tw oa (fun _ _ => trivial) hq hrm hc (by omega) ⟨by decide, by decide⟩) ?_
        rintro u H7 ⟨_, s', hu, tw', oa', hn'⟩
        cases hu
        simp -implicitDefEqProofs only [op, ef, cl, sq, reduceIte, Int.reduceLT, Int.reduceLE, Int.reduceBEq, Int.reduceBNe, Int.reduceEq, Nat.reduceAdd, Nat.reduceLeDiff, Nat.reduceLT, Nat.reduceEqDiff, S1, r1, r2, r7, r8, r9, r16, ws]
        refine ⟨i + 1, by omega, .i ⟨s', t, Fa, Fb, tw', oa'.mono (fun _ _ h => h) (fun x _ ⟨h1, h2⟩ => ?_), ob, by omega, htn⟩, rfl, by omega⟩
        rw [take_sn hr, List.mem_append, List.mem_singleton] at h1
        exact h1.imp (fun h => ⟨h, h2⟩) id
      · have ek : (((restI r.kind 1 : Nat) : Int) == 0) = false := by have : restI r.kind 1 ≠ 0 := hc; simp; omega
        simp -implicitDefEqProofs only [op, ef, cl, sq, reduceIte, Int.reduceLT, Int.reduceLE, Int.reduceBEq, Int.reduceBNe, Int.reduceEq, Nat.reduceAdd, Nat.reduceLeDiff, Nat.reduceLT, Nat.reduceEqDiff, S1, r1, r2, r7, r8, r9, r16, ek, ws]
        refine ⟨i + 1, by omega, .i ⟨s, t, Fa, Fb, tw, oa.mono (fun _ _ h => h) (fun x _ ⟨h1, h2⟩ => ?_), ob, hsn, htn⟩, rfl, by omega⟩
        rw [take_sn hr, List.mem_append, List.mem_singleton] at h1
        rcases h1 with h1 | rfl
        · exact ⟨h1, h2⟩
        · exact absurd h2 hc
    rintro R H5 ⟨⟨s, t, Fa, Fb, tw, oa, ob, hsn, htn⟩, r1, r2, r7, r8, r9⟩
    simp -implicitDefEqProofs only [op, ef, cl, sq, reduceIte, Int.reduceLT, Int.reduceLE, Int.reduceBEq, Int.reduceBNe, Int.reduceEq, Nat.reduceAdd, Nat.reduceLeDiff, Nat.reduceLT, Nat.reduceEqDiff, S1, r1, r2, r7, r8, r9]
    refine W.loopE 12 (fun (i : Nat) R H' => At H' (fun H' => ∃ s t Fa Fb, Tw H' a b s t Fa Fb ∧ OrdV q s (fun _ => True) cnd ∧ OrdV q t (fun _ => True) (fun _ => False) ∧ s.n ≤ 180 ∧ t.n ≤ 780) ∧ R 1 = .sl k1 (p1.map eI64) ∧ R 2 = .sl k2 (p2.map eI64) ∧ R 7 = .ptr a.s 0 ∧ R 8 = .ptr b.s 0 ∧ R 9 = .sl kd (q.map eR) ∧ R 17 = .int .i64 i ∧ i ≤ 200) (fun i => 200 - i) 0
      (fun R H' => At H' (fun H' => ∃ s t Fa Fb, Tw H' a b s t Fa Fb ∧ OrdV q s (fun _ => True) cnd ∧ OrdV q t (fun _ => True) (fun _ => False) ∧ s.n ≤ 180 ∧ t.n ≤ 780) ∧ R 1 = .sl k1 (p1.map eI64) ∧ R 2 = .sl k2 (p2.map eI64) ∧ R 7 = .ptr a.s 0 ∧ R 8 = .ptr b.s 0 ∧ R 9 = .sl kd (q.map eR)) ⟨.i ⟨s, t, Fa, Fb, tw, oa, ob, by omega, by omega⟩, ?_, ?_, ?_, ?_, ?_, ?_, by omega⟩ ?_ ?_
    · simp -implicitDefEqProofs only [op, ef, cl, sq, reduceIte, Int.reduceLT, Int.reduceLE, Int.reduceBEq, Int.reduceBNe, Int.reduceEq, Nat.reduceAdd, Nat.reduceLeDiff, Nat.reduceLT, Nat.reduceEqDiff, S1, r1]
    · simp -implicitDefEqProofs only [op, ef, cl, sq, reduceIte, Int.reduceLT, Int.reduceLE, Int.reduceBEq, Int.reduceBNe, Int.reduceEq, Nat.reduceAdd, Nat.reduceLeDiff, Nat.reduceLT, Nat.reduceEqDiff, S1, r2]
    · simp -implicitDefEqProofs only [op, ef, cl, sq, reduceIte, Int.reduceLT, Int.reduceLE, Int.reduceBEq, Int.reduceBNe, Int.reduceEq, Nat.reduceAdd, Nat.reduceLeDiff, Nat.reduceLT, Nat.reduceEqDiff, S1, r7]
    · simp -implicitDefEqProofs only [op, ef, cl, sq, reduceIte, Int.reduceLT, Int.reduceLE, Int.reduceBEq, Int.reduceBNe, Int.reduceEq, Nat.reduceAdd, Nat.reduceLeDiff, Nat.reduceLT, Nat.reduceEqDiff, S1, r8]
    · simp -implicitDefEqProofs only [op, ef, cl, sq, reduceIte, Int.reduceLT, Int.reduceLE, Int.reduceBEq, Int.reduceBNe, Int.reduceEq, Nat.reduceAdd, Nat.reduceLeDiff, Nat.reduceLT, Nat.reduceEqDiff, S1, r9]
    · simp -implicitDefEqProofs only [op, ef, cl, sq, reduceIte, Int.reduceLT, Int.reduceLE, Int.reduceBEq, Int.reduceBNe, Int.reduceEq, Nat.reduceAdd, Nat.reduceLeDiff, Nat.reduceLT, Nat.reduceEqDiff, S1]; rfl
    · clear tw oa ob hsn htn
      rintro i R H6 ⟨⟨s, t, Fa, Fb, tw, oa, ob, hsn, htn⟩, r1, r2, r7, r8, r9, r17, hi⟩
      by_cases hil : i < p2.length
      rotate_left
      · simp -implicitDefEqProofs only [op, ef, cl, sq, reduceIte, Int.reduceLT, Int.reduceLE, Int.reduceBEq, Int.reduceBNe, Int.reduceEq, Nat.reduceAdd, Nat.reduceLeDiff, Nat.reduceLT, Nat.reduceEqDiff, S1, r1, r2, r7, r8, r9, r17, List.length_map, hil]
        exact .i ⟨s, t, Fa, Fb, tw, oa, ob, hsn, htn⟩
      by_cases hq0 : 0 < q.length
      rotate_left
      · simp -implicitDefEqProofs only [op, ef, cl, sq, reduceIte, Int.reduceLT, Int.reduceLE, Int.reduceBEq, Int.reduceBNe, Int.reduceEq, Nat.reduceAdd, Nat.reduceLeDiff, Nat.reduceLT, Nat.reduceEqDiff, S1, r1, r2, r7, r8, r9, r17, List.length_map, hil, hq0]
        exact .i ⟨s, t, Fa, Fb, tw, oa, ob, hsn, htn⟩
      by_cases h200 : i < 200
      rotate_left
      · simp -implicitDefEqProofs only [op, ef, cl, sq, reduceIte, Int.reduceLT, Int.reduceLE, Int.reduceBEq, Int.reduceBNe, Int.reduceEq, Nat.reduceAdd, Nat.reduceLeDiff, Nat.reduceLT, Nat.reduceEqDiff, S1, r1, r2, r7, r8, r9, r17, List.length_map, hil, hq0, h200]
        exact .i ⟨s, t, Fa, Fb, tw, oa, ob, hsn, htn⟩
      obtain ⟨x, hx⟩ := getP hil
      have hx64 := hp2 x (List.mem_of_getElem? hx)
      have hix := iadX (e := eI64) (n := 1) (fun _ => rfl) (by decide) (k := k2) hx
      have ws := wrap_succ (show i < 9223372036854775807 by omega)
      have hrl := restI_le x (q.length - 1)
      simp -implicitDefEqProofs (maxSteps := 1000000) (disch := omega) only [natOf_nat, iadm, ldm1, ldm2, stm0, stm1, stm2, wA, wA1, wS, wS1, wM, S2, op, ef, cl, sq, reduceIte, Int.reduceLT, Int.reduceLE, Int.reduceBEq, Int.reduceBNe, Int.reduceEq, Nat.reduceAdd, Nat.reduceLeDiff, Nat.reduceLT, Nat.reduceEqDiff, S1, r1, r2, r7, r8, r9, r17, List.length_map, hil, hq0, h200, hix, eI64]
      refine callB_of _ _ _ _ _ _ _ _ (rest10 x (q.length - 1) (by omega) hx64 _) ?_
      rintro u H7 ⟨hu, rfl⟩
      cases hu
      obtain ⟨y, hy⟩ := getP (l := q) (i := restI x (q.length - 1)) (by omega)
      have hym := List.mem_of_getElem? hy
      have hyok := hro y hym
      have hiy := iadX (e := eR) (n := 4) (fun _ => rfl) (by decide) (k := kd) hy
      simp -implicitDefEqProofs only [op, ef, cl, sq, reduceIte, Int.reduceLT, Int.reduceLE, Int.reduceBEq, Int.reduceBNe, Int.reduceEq, Nat.reduceAdd, Nat.reduceLeDiff, Nat.reduceLT, Nat.reduceEqDiff, S1, S2, S3, r9, natOf_nat, hiy, eR]
      have hRx : (H7 ++ [B.cells [T.int .i64 y.kind, .int .i64 y.write, .int .i64 y.mask, .str y.value]])[H7.length]? = some (.cells [T.int .i64 y.kind, .int .i64 y.write, .int .i64 y.mask, .str y.value]) := g_tail rfl
      have tw7 : Tw (H7 ++ [B.cells [T.int .i64 y.kind, .int .i64 y.write, .int .i64 y.mask, .str y.value]]) a b s t Fa Fb := tw.ext ⟨_, rfl⟩
      generalize H7 ++ [B.cells [T.int .i64 y.kind, .int .i64 y.write, .int .i64 y.mask, .str y.value]] = H8 at *
      refine callB_of _ _ _ _ _ _ _ _ (rest10 y.kind 1 (by decide) hyok.1 _) ?_
      rintro u H9 ⟨hu, rfl⟩
      cases hu
      by_cases hc : cnd y
      · have ek : (((restI y.kind 1 : Nat) : Int) == 0) = true := by rw [show restI y.kind 1 = 0 from hc]; rfl
        simp -implicitDefEqProofs only [op, ef, cl, sq, reduceIte, Int.reduceLT, Int.reduceLE, Int.reduceBEq, Int.reduceBNe, Int.reduceEq, Nat.reduceAdd, Nat.reduceLeDiff, Nat.reduceLT, Nat.reduceEqDiff, S1, r1, r2, r7, r8, r9, r17, hRx, ek]
        refine callB_of _ _ _ _ _ _ _ _ (id9 y.write hyok.2.1 _) ?_
        rintro u H10 ⟨hu, rfl⟩
        cases hu
        simp -implicitDefEqProofs only [op, ef, cl, sq, reduceIte, Int.reduceLT, Int.reduceLE, Int.reduceBEq, Int.reduceBNe, Int.reduceEq, Nat.reduceAdd, Nat.reduceLeDiff, Nat.reduceLT, Nat.reduceEqDiff, S1, r1, r2, r7, r8, r9, r17]
        refine callB_of _ _ _ _ _ _ _ _ (comT b a t s Fb Fa y 5 _ tw7.swap ob (fun _ _ => trivial) hq hym hc (by omega) ⟨by decide, by decide⟩) ?_
        rintro u H11 ⟨_, s', hu, tw', oa', hn'⟩
        cases hu
        simp -implicitDefEqProofs only [op, ef, cl, sq, reduceIte, Int.reduceLT, Int.reduceLE, Int.reduceBEq, Int.reduceBNe, Int.reduceEq, Nat.reduceAdd, Nat.reduceLeDiff, Nat.reduceLT, Nat.reduceEqDiff, S1, r1, r2, r7, r8, r9, r17, ws]
        exact ⟨i + 1, by omega, .i ⟨s, s', Fa, Fb, tw'.swap, oa, oa'.mono (fun _ _ h => h) (fun _ _ h => h.elim), hsn, by omega⟩, rfl, by omega⟩
      · have ek : (((restI y.kind 1 : Nat) : Int) == 0) = false := by have : restI y.kind 1 ≠ 0 := hc; simp; omega
        simp -implicitDefEqProofs only [op, ef, cl, sq, reduceIte, Int.reduceLT, Int.reduceLE, Int.reduceBEq, Int.reduceBNe, Int.reduceEq, Nat.reduceAdd, Nat.reduceLeDiff, Nat.reduceLT, Nat.reduceEqDiff, S1, r1, r2, r7, r8, r9, r17, ek, ws]
        exact ⟨i + 1, by omega, .i ⟨s, t, Fa, Fb, tw7, oa, ob, hsn, htn⟩, rfl, by omega⟩
    rintro R H5 ⟨⟨s, t, Fa, Fb, tw, oa, ob, hsn, htn⟩, r1, r2, r7, r8, r9⟩
    have w0 : IntKind.i64.wrap (((q.length : Nat) : Int) - 1) = ((q.length : Nat) : Int) - 1 := wS0 (by omega)
    simp -implicitDefEqProofs only [op, ef, cl, sq, reduceIte, Int.reduceLT, Int.reduceLE, Int.reduceBEq, Int.reduceBNe, Int.reduceEq, Nat.reduceAdd, Nat.reduceLeDiff, Nat.reduceLT, Nat.reduceEqDiff, S1, r1, r2, r7, r8, r9, List.length_map, w0]
    refine W.loopE 14 (fun (k : Nat) R H' => At H' (fun H' => ∃ s t Fa Fb, Tw H' a b s t Fa Fb ∧ OrdV q s (fun _ => True) cnd ∧ OrdV q t (fun _ => True) (fun x => ∃ j, k ≤ j ∧ q[j]? = some x ∧ cnd x) ∧ s.n ≤ 180 ∧ t.n ≤ 780) ∧ R 1 = .sl k1 (p1.map eI64) ∧ R 2 = .sl k2 (p2.map eI64) ∧ R 7 = .ptr a.s 0 ∧ R 8 = .ptr b.s 0 ∧ R 9 = .sl kd (q.map eR) ∧ R 19 = .int .i64 ((k : Int) - 1) ∧ k ≤ q.length) (fun k => k) q.length
      (fun R H' => At H' (fun H' => ∃ s t Fa Fb, Tw H' a b s t Fa Fb ∧ OrdV q s (fun _ => True) cnd ∧ OrdV q t (fun _ => True) cnd ∧ s.n ≤ 180 ∧ t.n ≤ 780) ∧ R 1 = .sl k1 (p1.map eI64) ∧ R 2 = .sl k2 (p2.map eI64) ∧ R 7 = .ptr a.s 0 ∧ R 8 = .ptr b.s 0 ∧ R 9 = .sl kd (q.map eR)) ⟨.i ⟨s, t, Fa, Fb, tw, oa, ob.mono (fun _ _ h => h) (fun x _ ⟨j, h1, h2, _⟩ => by have := (List.getElem?_eq_some_iff.1 h2).1; omega), by omega, by omega⟩, ?_, ?_, ?_, ?_, ?_, ?_, Nat.le_refl _⟩ ?_ ?_
    · simp -implicitDefEqProofs only [op, ef, cl, sq, reduceIte, Int.reduceLT, Int.reduceLE, Int.reduceBEq, Int.reduceBNe, Int.reduceEq, Nat.reduceAdd, Nat.reduceLeDiff, Nat.reduceLT, Nat.reduceEqDiff, S1, r1]
    · simp -implicitDefEqProofs only [op, ef, cl, sq, reduceIte, Int.reduceLT, Int.reduceLE, Int.reduceBEq, Int.reduceBNe, Int.reduceEq, Nat.reduceAdd, Nat.reduceLeDiff, Nat.reduceLT, Nat.reduceEqDiff, S1, r2]
    · simp -implicitDefEqProofs only [op, ef, cl, sq, reduceIte, Int.reduceLT, Int.reduceLE, Int.reduceBEq, Int.reduceBNe, Int.reduceEq, Nat.reduceAdd, Nat.reduceLeDiff, Nat.reduceLT, Nat.reduceEqDiff, S1, r7]
    · simp -implicitDefEqProofs only [op, ef, cl, sq, reduceIte, Int.reduceLT, Int.reduceLE, Int.reduceBEq, Int.reduceBNe, Int.reduceEq, Nat.reduceAdd, Nat.reduceLeDiff, Nat.reduceLT, Nat.reduceEqDiff, S1, r8]
    · simp -implicitDefEqProofs only [op, ef, cl, sq, reduceIte, Int.reduceLT, Int.reduceLE, Int.reduceBEq, Int.reduceBNe, Int.reduceEq, Nat.reduceAdd, Nat.reduceLeDiff, Nat.reduceLT, Nat.reduceEqDiff, S1, r9]
    · simp -implicitDefEqProofs only [op, ef, cl, sq, reduceIte, Int.reduceLT, Int.reduceLE, Int.reduceBEq, Int.reduceBNe, Int.reduceEq, Nat.reduceAdd, Nat.reduceLeDiff, Nat.reduceLT, Nat.reduceEqDiff, S1]
    · clear tw oa ob hsn htn
      rintro k R H6 ⟨⟨s, t, Fa, Fb, tw, oa, ob, hsn, htn⟩, r1, r2, r7, r8, r9, r19, hk⟩
      cases k with
      | zero =>
        rw [show (((0 : Nat) : Int) - 1) = -1 from rfl] at r19
        simp -implicitDefEqProofs only [op, ef, cl, sq, reduceIte, Int.reduceLT, Int.reduceLE, Int.reduceBEq, Int.reduceBNe, Int.reduceEq, Nat.reduceAdd, Nat.reduceLeDiff, Nat.reduceLT, Nat.reduceEqDiff, S1, r1, r2, r7, r8, r9, r19]
        refine .i ⟨s, t, Fa, Fb, tw, oa, ob.mono (fun _ _ h => h) (fun x hx hc => ?_), hsn, htn⟩
        obtain ⟨j, hj, e⟩ := List.getElem_of_mem hx
        exact ⟨j, Nat.zero_le _, by rw [List.getElem?_eq_getElem hj, e], hc⟩
      | succ k =>
        rw [show (((k + 1 : Nat) : Int) - 1) = (k : Int) by omega] at r19
        obtain ⟨r, hr⟩ := getP (l := q) (i := k) (by omega)
        have hrm := List.mem_of_getElem? hr
        have hrok := hro r hrm
        have hia := iadX (e := eR) (n := 4) (fun _ => rfl) (by decide) (k := kd) hr
        have wk := wS0 (a := k) (by omega)
        simp -implicitDefEqProofs only [op, ef, cl, sq, reduceIte, Int.reduceLT, Int.reduceLE, Int.reduceBEq, Int.reduceBNe, Int.reduceEq, Nat.reduceAdd, Nat.reduceLeDiff, Nat.reduceLT, Nat.reduceEqDiff, S1, r1, r2, r7, r8, r9, r19, nge0, natOf_nat, hia, eR]
        refine callB_of _ _ _ _ _ _ _ _ (rest10 r.kind 1 (by decide) hrok.1 _) ?_
        rintro u H7 ⟨hu, rfl⟩
        cases hu
        by_cases hc : cnd r
        · have ek : (((restI r.kind 1 : Nat) : Int) == 0) = true := by rw [show restI r.kind 1 = 0 from hc]; rfl
          simp -implicitDefEqProofs only [op, ef, cl, sq, reduceIte, Int.reduceLT, Int.reduceLE, Int.reduceBEq, Int.reduceBNe, Int.reduceEq, Nat.reduceAdd, Nat.reduceLeDiff, Nat.reduceLT, Nat.reduceEqDiff, S1, r1, r2, r7, r8, r9, r19, natOf_nat, hia, eR, ek]
          refine callB_of _ _ _ _ _ _ _ _ (id9 r.write hrok.2.1 _) ?_
          rintro u H7 ⟨hu, rfl⟩
          cases hu
          simp -implicitDefEqProofs only [op, ef, cl, sq, reduceIte, Int.reduceLT, Int.reduceLE, Int.reduceBEq, Int.reduceBNe, Int.reduceEq, Nat.reduceAdd, Nat.reduceLeDiff, Nat.reduceLT, Nat.reduceEqDiff, S1, r1, r2, r7, r8, r9, r19]
          refine callB_of _ _ _ _ _ _ _ _ (comT b a t s Fb Fa r 7 _ tw.swap ob (fun _ _ => trivial) hq hrm hc (by omega) ⟨by decide, by decide⟩) ?_
          rintro u H7 ⟨_, s', hu, tw', oa', hn'⟩
          cases hu
          simp -implicitDefEqProofs only [op, ef, cl, sq, reduceIte, Int.reduceLT, Int.reduceLE, Int.reduceBEq, Int.reduceBNe, Int.reduceEq, Nat.reduceAdd, Nat.reduceLeDiff, Nat.reduceLT, Nat.reduceEqDiff, S1, r1, r2, r7, r8, r9, r19, wk]
          refine ⟨k, by omega, .i ⟨s, s', Fa, Fb, tw'.swap, oa, oa'.mono (fun _ _ h => h) (fun x _ ⟨j, h1, h2, h3⟩ => ?_), hsn, by omega⟩, rfl, by omega⟩
          by_cases hj : j = k
          · subst hj; rw [hr] at h2; cases h2; exact .inr rfl
          · exact .inl ⟨j, by omega, h2, h3⟩
        · have ek : (((restI r.kind 1 : Nat) : Int) == 0) = false := by have : restI r.kind 1 ≠ 0 := hc; simp; omega
          simp -implicitDefEqProofs only [op, ef, cl, sq, reduceIte, Int.reduceLT, Int.reduceLE, Int.reduceBEq, Int.reduceBNe, Int.reduceEq, Nat.reduceAdd, Nat.reduceLeDiff, Nat.reduceLT, Nat.reduceEqDiff, S1, r1, r2, r7, r8, r9, r19, ek, wk]
          refine ⟨k, by omega, .i ⟨s, t, Fa, Fb, tw, oa, ob.mono (fun _ _ h => h) (fun x _ ⟨j, h1, h2, h3⟩ => ?_), hsn, htn⟩, rfl, by omega⟩
          by_cases hj : j = k
          · subst hj; rw [hr] at h2; cases h2; exact absurd h3 hc
          · exact ⟨j, by omega, h2, h3⟩
    rintro R H5 ⟨⟨s, t, Fa, Fb, tw, oa, ob, hsn, htn⟩, r1, r2, r7, r8, r9⟩
    simp -implicitDefEqProofs only [op, ef, cl, sq, reduceIte, Int.reduceLT, Int.reduceLE, Int.reduceBEq, Int.reduceBNe, Int.reduceEq, Nat.reduceAdd, Nat.reduceLeDiff, Nat.reduceLT, Nat.reduceEqDiff, S1, r1, r2, r7, r8, r9]
    have al := OrdV.alike hq oa ob
    have vla := oa.vl
    have vlb := ob.vl
    refine callB_of _ _ _ _ _ _ _ _ (kept20 a s Fa _ tw.sa oa.inv (by omega)) ?_
    rintro u H6 ⟨hx6, ka, la, _, hu, hpa, hwa⟩
    cases hu
    have tw6 := tw.ext hx6
    simp -implicitDefEqProofs only [op, ef, cl, sq, reduceIte, Int.reduceLT, Int.reduceLE, Int.reduceBEq, Int.reduceBNe, Int.reduceEq, Nat.reduceAdd, Nat.reduceLeDiff, Nat.reduceLT, Nat.reduceEqDiff, S1, r1, r2, r7, r8, r9]
    refine callB_of _ _ _ _ _ _ _ _ (kept20 b t Fb _ tw6.sb ob.inv (by omega)) ?_
    rintro u H7 ⟨hx7, kb, lb, _, hu, hpb, hwb⟩
    cases hu
    have tw7 := tw6.ext hx7
    have eqab : la = lb := sorted_eq la lb hwa hwb fun m => by rw [hpa.mem_iff, hpb.mem_iff]; exact al.nm m
    subst eqab
    have e0 : ((((keptL s la).length : Nat) : Int) != (((keptL t la).length : Nat) : Int)) = false := by simp [keptL]
    simp -implicitDefEqProofs only [op, ef, cl, sq, reduceIte, Int.reduceLT, Int.reduceLE, Int.reduceBEq, Int.reduceBNe, Int.reduceEq, Nat.reduceAdd, Nat.reduceLeDiff, Nat.reduceLT, Nat.reduceEqDiff, S1, r1, r2, r7, r8, r9, List.length_map, e0]
    refine callB_of _ _ _ _ _ _ _ _ (lasts24 a s Fa _ tw7.sa oa.inv (by have := oa.lsl; omega)) ?_
    rintro u H8 ⟨hx8, kc, lc, _, hu, hpc, hwc⟩
    cases hu
    have tw8 := tw7.ext hx8
    simp -implicitDefEqProofs only [op, ef, cl, sq, reduceIte, Int.reduceLT, Int.reduceLE, Int.reduceBEq, Int.reduceBNe, Int.reduceEq, Nat.reduceAdd, Nat.reduceLeDiff, Nat.reduceLT, Nat.reduceEqDiff, S1, r1, r2, r7, r8, r9]
    refine callB_of _ _ _ _ _ _ _ _ (lasts24 b t Fb _ tw8.sb ob.inv (by have := ob.lsl; omega)) ?_
    rintro u H9 ⟨hx9, ke, le, _, hu, hpe, hwe⟩
    cases hu
    have elce : lc = le := sorted_eqS lc le hwc hwe fun m => by rw [hpc.mem_iff, hpe.mem_iff]; exact al.lk m
    subst elce
    have ell : lastL t lc = lastL s lc := by simp -implicitDefEqProofs only [lastL, al.la]
    have hlcl : lc.length ≤ 3 := by have := hpc.length_eq; simp -implicitDefEqProofs only [List.length_map] at this; have := oa.lsl; omega
    rw [ell]
    simp -implicitDefEqProofs only [op, ef, cl, sq, reduceIte, Int.reduceLT, Int.reduceLE, Int.reduceBEq, Int.reduceBNe, Int.reduceEq, Nat.reduceAdd, Nat.reduceLeDiff, Nat.reduceLT, Nat.reduceEqDiff, S1]
    refine callB_of _ _ _ _ _ _ _ _ (slasts23 kc ke (lastL s lc) _ (by simp -implicitDefEqProofs only [lastL, List.length_map]; omega)) ?_
    rintro u H10 ⟨hu, rfl⟩
    cases hu
    simp -implicitDefEqProofs only [op, ef, cl, sq, reduceIte, Int.reduceLT, Int.reduceLE, Int.reduceBEq, Int.reduceBNe, Int.reduceEq, Nat.reduceAdd, Nat.reduceLeDiff, Nat.reduceLT, Nat.reduceEqDiff, S1, r1, r2, r7, r8, r9]
    refine W.loopI (fun (i : Nat) R H' => H' = H' ∧ R 20 = .sl ka ((keptL s la).map eK) ∧ R 21 = .sl kb ((keptL t la).map eK) ∧ R 22 = .int .i64 i ∧ i ≤ la.length) (fun i => la.length - i) 0 ⟨rfl, ?_, ?_, ?_, Nat.zero_le _⟩ ?_
    · simp -implicitDefEqProofs only [op, ef, cl, sq, reduceIte, Int.reduceLT, Int.reduceLE, Int.reduceBEq, Int.reduceBNe, Int.reduceEq, Nat.reduceAdd, Nat.reduceLeDiff, Nat.reduceLT, Nat.reduceEqDiff, S1]
    · simp -implicitDefEqProofs only [op, ef, cl, sq, reduceIte, Int.reduceLT, Int.reduceLE, Int.reduceBEq, Int.reduceBNe, Int.reduceEq, Nat.reduceAdd, Nat.reduceLeDiff, Nat.reduceLT, Nat.reduceEqDiff, S1]
    · simp -implicitDefEqProofs only [op, ef, cl, sq, reduceIte, Int.reduceLT, Int.reduceLE, Int.reduceBEq, Int.reduceBNe, Int.reduceEq, Nat.reduceAdd, Nat.reduceLeDiff, Nat.reduceLT, Nat.reduceEqDiff, S1]; rfl
    rintro i R H11 ⟨_, r20, r21, r22, hi⟩
    have hkl : (keptL s la).length = la.length := by simp [keptL]
    have hlal : la.length ≤ 180 := by have := hpa.length_eq; simp -implicitDefEqProofs only [List.length_map] at this; omega
    by_cases hil : i < la.length
    rotate_left
    · simp -implicitDefEqProofs only [op, ef, cl, sq, reduceIte, Int.reduceLT, Int.reduceLE, Int.reduceBEq, Int.reduceBNe, Int.reduceEq, Nat.reduceAdd, Nat.reduceLeDiff, Nat.reduceLT, Nat.reduceEqDiff, S1, r20, r21, r22, List.length_map, hkl, hil]
    obtain ⟨m, hm⟩ := getP hil
    have hmn : m ∈ nms s := hpa.mem_iff.1 (List.mem_of_getElem? hm)
    have hs1 := mem_nms.1 hmn
    have hs2 := mem_nms.1 ((al.nm m).1 hmn)
    obtain ⟨h, eh⟩ := Option.isSome_iff_exists.1 hs1
    obtain ⟨g, eg⟩ := Option.isSome_iff_exists.1 hs2
    obtain ⟨c1, c2, c3, c4⟩ := al.ct m h g eh eg
    have ga : (keptL s la)[i]? = some (m, h) := by simp [keptL, hm, eh, hdOf]
    have gb : (keptL t la)[i]? = some (m, g) := by simp [keptL, hm, eg, hdOf]
    have i1 := iadX (e := eK) (n := 5) (fun _ => rfl) (by decide) (k := ka) ga
    have i2 := iadX (e := eK) (n := 5) (fun _ => rfl) (by decide) (k := kb) gb
    have ws := wrap_succ (show i < 9223372036854775807 by omega)
    simp -implicitDefEqProofs only [op, ef, cl, sq, reduceIte, Int.reduceLT, Int.reduceLE, Int.reduceBEq, Int.reduceBNe, Int.reduceEq, Nat.reduceAdd, Nat.reduceLeDiff, Nat.reduceLT, Nat.reduceEqDiff, S1, r20, r21, r22, List.length_map, hkl, hil, natOf_nat, i1, i2, eK, ← c1, ← c2]
    refine callB_of _ _ _ _ _ _ _ _ (same22 m.1 m.2 h.value .arg .arg h.keys _ (by omega)) ?_
    rintro u H12 ⟨hu, hx12⟩
    cases hu
    by_cases hst : h.stamp < 0
    · have hsg := c3.1 hst
      simp -implicitDefEqProofs only [op, ef, cl, sq, reduceIte, Int.reduceLT, Int.reduceLE, Int.reduceBEq, Int.reduceBNe, Int.reduceEq, Nat.reduceAdd, Nat.reduceLeDiff, Nat.reduceLT, Nat.reduceEqDiff, S1, r20, r21, r22, natOf_nat, i1, i2, eK, hst, hsg, ws]
      exact ⟨i + 1, by omega, rfl, by omega⟩
    · have hsg : ¬ g.stamp < 0 := fun hh => hst (c3.2 hh)
      simp -implicitDefEqProofs only [op, ef, cl, sq, reduceIte, Int.reduceLT, Int.reduceLE, Int.reduceBEq, Int.reduceBNe, Int.reduceEq, Nat.reduceAdd, Nat.reduceLeDiff, Nat.reduceLT, Nat.reduceEqDiff, S1, r20, r21, r22, natOf_nat, i1, i2, eK, hst, hsg, ws]
      exact ⟨i + 1, by omega, rfl, by omega⟩
end Go.Proofs.Ytbkgokabcnogdaa.St
end

/-! text StoreRz -/
section
namespace Go.Proofs.Ytbkgokabcnogdaa
open Go.ChangeShapes Go.WideShapes Go.ChangeAt Go.RowKit
namespace Law
theorem own : ownKnob Try.prog.godebug = none := by kernel_rfl
theorem kids : Kids Try.prog (· < Try.prog.types.size) := kids_rows (by kernel_rfl) (by kernel_rfl)
noncomputable def hzB : Bool := (List.range Try.prog.types.size).all fun t => match Try.prog.underlying t with
  | some (.slice e) => decide (0 < Try.prog.cellsOf e)
  | _ => true
theorem hzB_ok : hzB = true := by kernel_rfl
theorem hz : ∀ t e, t < Try.prog.types.size → Try.prog.underlying t = some (.slice e) → 0 < Try.prog.cellsOf e := fun t e ht h => by
  have := (List.all_eq_true.1 hzB_ok) t (List.mem_range.2 ht)
  rw [h] at this
  simpa using this
mutual
theorem bulk_eq {H : Type} : ∀ d : DataW H, Go.Rmp.bulkW d = Rows.uptoBulk d
  | .lit l => by cases l <;> simp [Go.Rmp.bulkW, Rows.uptoBulk]
  | .nil => by simp [Go.Rmp.bulkW, Rows.uptoBulk]
  | .ptr d => by simp [Go.Rmp.bulkW, Rows.uptoBulk, bulk_eq d]
  | .slice elems spare => by simp [Go.Rmp.bulkW, Rows.uptoBulk, bulks_eq elems, bulks_eq spare]
  | .agg parts => by simp [Go.Rmp.bulkW, Rows.uptoBulk, bulks_eq parts]
  | .iface _ d => by simp [Go.Rmp.bulkW, Rows.uptoBulk, bulk_eq d]
  | .map entries => by simp [Go.Rmp.bulkW, Rows.uptoBulk, bulkE_eq entries]
  | .held _ => by simp [Go.Rmp.bulkW, Rows.uptoBulk]
theorem bulks_eq {H : Type} : ∀ l : List (DataW H), Go.Rmp.bulkAllW l = Rows.uptoBulkAll l
  | [] => by simp [Go.Rmp.bulkAllW, Rows.uptoBulkAll]
  | d :: r => by simp [Go.Rmp.bulkAllW, Rows.uptoBulkAll, bulk_eq d, bulks_eq r]
theorem bulkE_eq {H : Type} : ∀ l : List (Lit × DataW H), Go.Rmp.bulkEntriesW l = Rows.uptoBulkEntries l
  | [] => by simp [Go.Rmp.bulkEntriesW, Rows.uptoBulkEntries]
  | x :: r => by simp [Go.Rmp.bulkEntriesW, Rows.uptoBulkEntries, bulkEn_eq x, bulkE_eq r]
theorem bulkEn_eq {H : Type} : ∀ x : Lit × DataW H, Go.Rmp.bulkEntryW x = Rows.uptoBulkEntry x
  | (l, d) => by cases l <;> simp [Go.Rmp.bulkEntryW, Rows.uptoBulkEntry, bulk_eq d]
end
theorem bulk_ok {H : Type} {ds : List (DataW H)} (h : Rows.uptoSmall H ds = true) : Go.Rmp.bulkAllW ds ≤ 1048576 := by
  rw [bulks_eq]; simpa [Rows.uptoSmall] using h
/-! the rows -/
theorem hasS {B : Nat} {t : Go.Rmp.T} (h : Go.Rmp.HasSh B .str t) : ∃ s, t = .str s ∧ s.size ≤ B := by
  cases h with | str h hB => exact ⟨_, rfl, hB⟩
theorem hasI {B : Nat} {t : Go.Rmp.T} (h : Go.Rmp.HasSh B (.int .i64) t) : ∃ n : Int, t = .int .i64 n ∧ St.I64 n := by
  cases h with | int h =>
    rename_i n
    exact ⟨n, rfl, by simpa [St.I64, Lit.wf, IntKind.min, IntKind.max, IntKind.signed, IntKind.bits] using h⟩
end Law
namespace St
open Go.Rmp
theorem map_of {α : Type} {P : α → Prop} (enc : α → List T) (es : List (List T)) (h : ∀ c ∈ es, ∃ x, c = enc x ∧ P x) : ∃ l : List α, es = l.map enc ∧ ∀ x ∈ l, P x := by
  induction es with
  | nil => exact ⟨[], rfl, by simp⟩
  | cons c es ih =>
    obtain ⟨l, rfl, hl⟩ := ih (fun c hc => h c (List.mem_cons_of_mem _ hc))
    obtain ⟨x, rfl, hx⟩ := h _ List.mem_cons_self
    exact ⟨x :: l, rfl, fun y hy => by rcases List.mem_cons.1 hy with rfl | hy; exact hx; exact hl y hy⟩
theorem hasRs {B : Nat} {t : T} (h : HasSh B (.sl [.int .i64, .int .i64, .int .i64, .str]) t) : ∃ (k : SK) (l : List Raw), t = .sl k (l.map eR) ∧ l.length ≤ B ∧ ∀ r ∈ l, RawOk r := by
  cases h with
  | nil => exact ⟨.nil, [], rfl, Nat.zero_le _, by simp⟩
  | sl hl hB h0 h =>
    rename_i es
    obtain ⟨l, rfl, hP⟩ := map_of (P := fun r : Raw => RawOk r) eR es fun c hc => by
      have hc1 := h0 c hc
      match c, hc1 with
      | [a, b, d, e], _ =>
        obtain ⟨x, rfl, hx⟩ := Law.hasI (h _ hc 0 (.int .i64) a rfl rfl)
        obtain ⟨y, rfl, hy⟩ := Law.hasI (h _ hc 1 (.int .i64) b rfl rfl)
        obtain ⟨z, rfl, hz⟩ := Law.hasI (h _ hc 2 (.int .i64) d rfl rfl)
        obtain ⟨s, rfl, _⟩ := Law.hasS (h _ hc 3 .str e rfl rfl)
        exact ⟨⟨x, y, z, s⟩, rfl, hx, hy, hz⟩
    exact ⟨.arg, l, rfl, by simpa using hB, hP⟩
theorem hasIs {B : Nat} {t : T} (h : HasSh B (.sl [.int .i64]) t) : ∃ (k : SK) (l : List Int), t = .sl k (l.map fun x => [T.int .i64 x]) ∧ l.length ≤ B ∧ ∀ x ∈ l, I64 x := by
  cases h with
  | nil => exact ⟨.nil, [], rfl, Nat.zero_le _, by simp⟩
  | sl hl hB h0 h =>
    rename_i es
    obtain ⟨l, rfl, hP⟩ := map_of (P := fun x : Int => I64 x) (fun x => [T.int .i64 x]) es fun c hc => by
      have hc1 := h0 c hc
      match c, hc1 with
      | [a], _ =>
        obtain ⟨x, rfl, hx⟩ := Law.hasI (h _ hc 0 (.int .i64) a rfl rfl)
        exact ⟨x, rfl, hx⟩
    exact ⟨.arg, l, rfl, by simpa using hB, hP⟩
end St
namespace Law
end Law
end Go.Proofs.Ytbkgokabcnogdaa
end

/-! text StoreRc -/
section
namespace Go.Proofs.Ytbkgokabcnogdaa
open Go.ChangeShapes Go.WideShapes Go.ChangeAt Go.RowKit
namespace Law
theorem storeOrders_w (as' : List Go.Rmp.T) (hs : Go.Rmp.HasShs 1048576 [Go.Rmp.Sh.sl [.int .i64, .int .i64, .int .i64, .str], Go.Rmp.Sh.sl [.int .i64], Go.Rmp.Sh.sl [.int .i64]] as') : Go.Rmp.W Ir.env (.call 5 as') [] (fun o _ => o = .val (.bool true)) := by
  cases hs with | cons h1 hs =>
  cases hs with | cons h2 hs =>
  cases hs with | cons h3 hs =>
  cases hs
  obtain ⟨k, l, rfl, n1, n2⟩ := St.hasRs h1
  obtain ⟨k', l', rfl, n3, n4⟩ := St.hasIs h2
  obtain ⟨k'', l'', rfl, n5, n6⟩ := St.hasIs h3
  exact St.orders5 k k' k'' l l' l'' [] n2 n4 n6 n1 n3 n5

theorem storeOrders_fn (H : Type) : ∀ ds : List (DataW H), ds.length = Try.f5.params.toList.length → Rows.storeOrdersSpec.fn H ds = { results := [.lit (.bool true)], args := ds } := by
  have hn : Try.f5.params.toList.length = 3 := by kernel_rfl
  rw [hn]
  intro ds hds
  cases ds with | nil => simp at hds | cons d0 ds =>
  cases ds with | nil => simp at hds | cons d1 ds =>
  cases ds with | nil => simp at hds | cons d2 ds =>
  cases ds with | cons => simp at hds | nil =>
  rfl
set_option maxRecDepth 100000 in
theorem storeOrders_lifted (os : Os) (started : os.Started) (H : Type) (enc : TypeId × Value → H) (F : Stop.Interp) :
    ReturnsInHanded {} Try.checked os 5 .any ((Rows.OpenSpec.upto Rows.storeOrdersSpec).pre6 enc Try.prog Try.f5 Rows.storeOrdersUptoRow.domain false) (((Rows.OpenSpec.upto Rows.storeOrdersSpec).at F).post enc Try.prog Try.f5 false true false false) := by
  refine returnsInHanded_of_cond (C := Try.checked) (s := Rows.OpenSpec.upto Rows.storeOrdersSpec) (k := Rows.uptoSmall) rfl own started (by kernel_rfl) Try.func5
    (OpenSpec.witness (enc := enc) (C := Try.checked) (s := Rows.OpenSpec.upto Rows.storeOrdersSpec) (k := Rows.uptoSmall) rfl false ⟨#[], #[.slice .none 0 0, .slice .none 0 0, .slice .none 0 0], []⟩ 8 (by kernel_rfl) (by kernel_rfl) (by kernel_rfl)
      (x := ([.nil, .nil, .nil], [], [])) (by kernel_rfl) rfl (by kernel_rfl)) ?_
  intro W base args ds gs before hval hW _ hk _
  exact Go.Rmp.law_contract (s := Rows.storeOrdersSpec) (shs := [Go.Rmp.Sh.sl [.int .i64, .int .i64, .int .i64, .str], Go.Rmp.Sh.sl [.int .i64], Go.Rmp.Sh.sl [.int .i64]]) (B := 1048576) (tb := Try.f5.resultTypes[0]!) Ir.envOk kids hz (by kernel_rfl) (by intro t ht; exact of_decide_eq_true ((List.all_eq_true.1 (show Try.f5.params.toList.all (fun t => decide (t < Try.prog.types.size)) = true by kernel_rfl)) t ht)) (by kernel_rfl) (by kernel_rfl) rfl (storeOrders_fn H) storeOrders_w base args ds gs before hval hW (bulk_ok hk)
theorem storeOrders_over : Rows.storeOrdersUptoRow.holds Try.pinned (Rows.OpenSpec.upto Rows.storeOrdersSpec) :=
  OpenClaim.holds_of_cond 5 Try.f5 rfl rfl rfl rfl rfl rfl rfl ⟨rfl, rfl, rfl, rfl, rfl⟩ rfl rfl rfl rfl rfl (by kernel_rfl) Try.func5 (by kernel_rfl)
    (of_decide_eq_true (by kernel_rfl)) (by unfold Func.isWrapper; first | (rw [if_pos (by decide +kernel)]; kernel_rfl) | (rw [if_neg (by decide +kernel)]; exact ⟨rfl, rfl⟩))
    (fun os started H enc _ F => storeOrders_lifted os started H enc F)
theorem storeOrders_proved : Rows.StoreOrdersUptoSaid := storeOrders_over
end Law
end Go.Proofs.Ytbkgokabcnogdaa
end
