/- Part of a proof of a law of this seat: the machine of plain values, its simulation, and the contracts of the functions that the law reaches. Conditions: none beyond the given row. -/
import Derived.Test.YtbkgokabcnogdaaM4
import Derived.Test.YtbkgokabcnogdaaRows
import Derived.WalkKit
import Derived.ProofKit
import Derived.OpenShut
import Derived.JoinedCond
import Derived.ChangeBears
set_option linter.unusedSimpArgs false
set_option linter.unusedVariables false
set_option linter.unnecessarySimpa false
set_option maxHeartbeats 4000000
/-! text StoreXg -/
section
namespace Go.Proofs.Ytbkgokabcnogdaa.St
open Go.Rmp Go.Proofs.Ytbkgokabcnogdaa.Ir
set_option maxRecDepth 10000
set_option maxHeartbeats 8000000
open Go.Sort in
theorem part_eq {a i j si sj : Nat} {d : Array Nm} (hi : si = scanUp (fun x => ltM x d[a]!) d j i) (hj : sj = scanDown (fun x => !ltM x d[a]!) d si j) : partLoop ltM a i j d = if si > sj then (sj, d) else if (sj - 1) + 1 - (si + 1) < j + 1 - i then partLoop ltM a (si + 1) (sj - 1) (swp d si sj) else (sj, d) := by
  subst hi; subst hj
  rw [partLoop]
  rfl
open Go.Sort in
theorem part82 (c n : Nat) (d : Array Nm) (a b pv : Nat) (H : Heap) (hn : d.size = n) (hc : H[c]? = some (.cells (msC eN d.toList))) (hb : b ≤ n) (hab : a < b) (hpv : pv < n) (hs : n < 2305843009213693951) :
    W env (.call 82 [.msl c 0 n 2, .int .i64 a, .int .i64 b, .int .i64 pv, .fn 36 []]) H (fun o H' => o = .val (.tup [.int .i64 (partition ltM d a b pv).1, .bool (partition ltM d a b pv).2.1]) ∧ SC c n H (fun x => x = (partition ltM d a b pv).2.2) H') := by
  refine W.fnI rfl rfl rfl ?_
  have hd := hc
  have lc := glt hd
  simp -implicitDefEqProofs (maxSteps := 1000000) (disch := omega) only [ir82, natOf_nat, iadm, ldm1, ldm2, stm0, stm1, stm2, wA, wA1, wS, wS1, wM, S2, op, ef, cl, sq, reduceIte, Int.reduceLT, Int.reduceLE, Int.reduceBEq, Int.reduceBNe, Int.reduceEq, Nat.reduceAdd, Nat.reduceLeDiff, Nat.reduceLT, Nat.reduceEqDiff, S1, hd, lc]
  obtain ⟨d1, hd1, hs1, e1, hf1⟩ := SC.swp (n := n) (P := fun x => x = swp d a pv) (x := .cells (msC eN (d.toList.set a d[pv]!))) hd (by rw [Go.Sort.swp_size]; exact hn) rfl (Frm.refl (fun x => x = c) H)
  subst e1
  generalize ((H.set c (.cells (msC eN (d.toList.set a d[pv]!)))).set c (.cells (msC eN (swp d a pv).toList))) = H1 at *
  have hd := hd1
  have hfr := hf1
  obtain ⟨si, hsi⟩ : ∃ si, si = scanUp (fun x => ltM x (swp d a pv)[a]!) (swp d a pv) (b - 1) (a + 1) := ⟨_, rfl⟩
  refine W.loopE 0 (fun (k : Nat) R H' => At H' (fun H' => H'[c]? = some (.cells (msC eN (swp d a pv).toList)) ∧ Frm (fun x => x = c) H H') ∧ R 0 = .msl c 0 n 2 ∧ R 1 = .int .i64 a ∧ R 4 = .fn 36 [] ∧ R 12 = .int .i64 k ∧ R 13 = .int .i64 ((b - 1) : Nat) ∧ (a + 1) ≤ k ∧ k ≤ n ∧ scanUp (fun x => ltM x (swp d a pv)[a]!) (swp d a pv) ((b - 1)) k = si) (fun k => (b - 1) + 1 - k) ((a + 1))
    (fun R H' => At H' (fun H' => H'[c]? = some (.cells (msC eN (swp d a pv).toList)) ∧ Frm (fun x => x = c) H H') ∧ R 0 = .msl c 0 n 2 ∧ R 1 = .int .i64 a ∧ R 4 = .fn 36 [] ∧ R 12 = .int .i64 si ∧ R 13 = .int .i64 ((b - 1) : Nat) ∧ (a + 1) ≤ si ∧ si ≤ n) ⟨.i ⟨hd, hfr⟩, rfl, rfl, rfl, rfl, rfl, Nat.le_refl _, by omega, hsi.symm⟩ ?_ ?_
  · rintro k R H2 ⟨⟨hd, hfr⟩, h0, h1, h4, h12, h13, hik, hkn, hk⟩
    have lc := glt hd
    by_cases hkj : k ≤ (b - 1)
    · simp -implicitDefEqProofs (maxSteps := 1000000) (disch := omega) only [natOf_nat, iadm, ldm1, ldm2, stm0, stm1, stm2, wA, wA1, wS, wS1, wM, S2, op, ef, cl, sq, reduceIte, Int.reduceLT, Int.reduceLE, Int.reduceBEq, Int.reduceBNe, Int.reduceEq, Nat.reduceAdd, Nat.reduceLeDiff, Nat.reduceLT, Nat.reduceEqDiff, S1, h0, h1, h4, h12, h13, hkj, hd, lc]
      refine b_vg _ _ _ _ _ _ _ (by simp -implicitDefEqProofs (maxSteps := 1000000) (disch := omega) only [natOf_nat, iadm, ldm1, ldm2, stm0, stm1, stm2, wA, wA1, wS, wS1, wM, S2, op, ef, cl, sq, reduceIte, Int.reduceLT, Int.reduceLE, Int.reduceBEq, Int.reduceBNe, Int.reduceEq, Nat.reduceAdd, Nat.reduceLeDiff, Nat.reduceLT, Nat.reduceEqDiff, S1, h0, h1, h4, h12, h13, hkj, hd, lc]) ?_
      simp -implicitDefEqProofs (maxSteps := 1000000) (disch := omega) only [natOf_nat, iadm, ldm1, ldm2, stm0, stm1, stm2, wA, wA1, wS, wS1, wM, S2, op, ef, cl, sq, reduceIte, Int.reduceLT, Int.reduceLE, Int.reduceBEq, Int.reduceBNe, Int.reduceEq, Nat.reduceAdd, Nat.reduceLeDiff, Nat.reduceLT, Nat.reduceEqDiff, S1, callvB, h0, h1, h4, h12, h13, hkj, hd, lc, List.append_nil]
      refine callB_of _ _ _ _ _ _ _ _ (byName36 (swp d a pv)[k]! (swp d a pv)[a]! _) ?_
      rintro u H3 ⟨hu, hx⟩
      cases hu
      have hx : Ext H2 H3 := hx
      have hd := hx.get hd
      have lc := glt hd
      have hfr := hfr.trans (ext_frm (F := fun _ => False) hx) (fun _ h => h.elim)
      have lt1 : ltM (swp d a pv)[k]! (swp d a pv)[a]! = decide (cmpM (swp d a pv)[k]! (swp d a pv)[a]! < 0) := rfl
      by_cases c1 : cmpM (swp d a pv)[k]! (swp d a pv)[a]! < 0
      · simp -implicitDefEqProofs (maxSteps := 1000000) (disch := omega) only [natOf_nat, iadm, ldm1, ldm2, stm0, stm1, stm2, wA, wA1, wS, wS1, wM, S2, op, ef, cl, sq, reduceIte, Int.reduceLT, Int.reduceLE, Int.reduceBEq, Int.reduceBNe, Int.reduceEq, Nat.reduceAdd, Nat.reduceLeDiff, Nat.reduceLT, Nat.reduceEqDiff, S1, h0, h1, h4, h12, h13, hkj, c1]
        rw [scanUp, if_pos (and_t (dect hkj) (lt1.trans (dect c1)))] at hk
        exact ⟨k + 1, by omega, .i ⟨hd, hfr⟩, rfl, by omega, by omega, hk⟩
      · simp -implicitDefEqProofs (maxSteps := 1000000) (disch := omega) only [natOf_nat, iadm, ldm1, ldm2, stm0, stm1, stm2, wA, wA1, wS, wS1, wM, S2, op, ef, cl, sq, reduceIte, Int.reduceLT, Int.reduceLE, Int.reduceBEq, Int.reduceBNe, Int.reduceEq, Nat.reduceAdd, Nat.reduceLeDiff, Nat.reduceLT, Nat.reduceEqDiff, S1, h0, h1, h4, h12, h13, hkj, c1]
        rw [scanUp, if_neg (and_f2 (lt1.trans (decf c1)))] at hk
        subst hk
        exact ⟨.i ⟨hd, hfr⟩, rfl, hik, hkn⟩
    · simp -implicitDefEqProofs only [op, ef, cl, sq, reduceIte, Int.reduceLT, Int.reduceLE, Int.reduceBEq, Int.reduceBNe, Int.reduceEq, Nat.reduceAdd, Nat.reduceLeDiff, Nat.reduceLT, Nat.reduceEqDiff, S1, h0, h1, h4, h12, h13, hkj]
      rw [scanUp, if_neg (and_f1 (decf hkj))] at hk
      subst hk
      exact ⟨.i ⟨hd, hfr⟩, rfl, hik, hkn⟩
  · rintro R H2 ⟨⟨hd, hfr⟩, h0, h1, h4, h12, h13, hisi, hsin⟩
    simp -implicitDefEqProofs only [op, ef, cl, sq, reduceIte, Int.reduceLT, Int.reduceLE, Int.reduceBEq, Int.reduceBNe, Int.reduceEq, Nat.reduceAdd, Nat.reduceLeDiff, Nat.reduceLT, Nat.reduceEqDiff, S1, h0, h1, h4, h12, h13]
    obtain ⟨sj, hsj⟩ : ∃ sj, sj = scanDown (fun x => !ltM x (swp d a pv)[a]!) (swp d a pv) si (b - 1) := ⟨_, rfl⟩
    refine W.loopE 2 (fun (k : Nat) R H' => At H' (fun H' => H'[c]? = some (.cells (msC eN (swp d a pv).toList)) ∧ Frm (fun x => x = c) H H') ∧ R 0 = .msl c 0 n 2 ∧ R 1 = .int .i64 a ∧ R 4 = .fn 36 [] ∧ R 12 = .int .i64 si ∧ R 13 = .int .i64 k ∧ k ≤ (b - 1) ∧ scanDown (fun x => !ltM x (swp d a pv)[a]!) (swp d a pv) si k = sj) (fun k => k) ((b - 1))
      (fun R H' => At H' (fun H' => H'[c]? = some (.cells (msC eN (swp d a pv).toList)) ∧ Frm (fun x => x = c) H H') ∧ R 0 = .msl c 0 n 2 ∧ R 1 = .int .i64 a ∧ R 4 = .fn 36 [] ∧ R 12 = .int .i64 si ∧ R 13 = .int .i64 sj ∧ sj ≤ (b - 1)) ⟨.i ⟨hd, hfr⟩, h0, h1, h4, h12, h13, Nat.le_refl _, hsj.symm⟩ ?_ ?_
    · rintro k R H3 ⟨⟨hd, hfr⟩, h0, h1, h4, h12, h13, hkj, hk⟩
      have lc := glt hd
      rw [scanDown_eq (by omega)] at hk
      by_cases hkk : si ≤ k
      · simp -implicitDefEqProofs (maxSteps := 1000000) (disch := omega) only [natOf_nat, iadm, ldm1, ldm2, stm0, stm1, stm2, wA, wA1, wS, wS1, wM, S2, op, ef, cl, sq, reduceIte, Int.reduceLT, Int.reduceLE, Int.reduceBEq, Int.reduceBNe, Int.reduceEq, Nat.reduceAdd, Nat.reduceLeDiff, Nat.reduceLT, Nat.reduceEqDiff, S1, h0, h1, h4, h12, h13, hkk, hd, lc]
        refine b_vg _ _ _ _ _ _ _ (by simp -implicitDefEqProofs (maxSteps := 1000000) (disch := omega) only [natOf_nat, iadm, ldm1, ldm2, stm0, stm1, stm2, wA, wA1, wS, wS1, wM, S2, op, ef, cl, sq, reduceIte, Int.reduceLT, Int.reduceLE, Int.reduceBEq, Int.reduceBNe, Int.reduceEq, Nat.reduceAdd, Nat.reduceLeDiff, Nat.reduceLT, Nat.reduceEqDiff, S1, h0, h1, h4, h12, h13, hkk, hd, lc]) ?_
        simp -implicitDefEqProofs (maxSteps := 1000000) (disch := omega) only [natOf_nat, iadm, ldm1, ldm2, stm0, stm1, stm2, wA, wA1, wS, wS1, wM, S2, op, ef, cl, sq, reduceIte, Int.reduceLT, Int.reduceLE, Int.reduceBEq, Int.reduceBNe, Int.reduceEq, Nat.reduceAdd, Nat.reduceLeDiff, Nat.reduceLT, Nat.reduceEqDiff, S1, callvB, h0, h1, h4, h12, h13, hkk, hd, lc, List.append_nil]
        refine callB_of _ _ _ _ _ _ _ _ (byName36 (swp d a pv)[k]! (swp d a pv)[a]! _) ?_
        rintro u H4 ⟨hu, hx⟩
        cases hu
        have hx : Ext H3 H4 := hx
        have hd := hx.get hd
        have lc := glt hd
        have hfr := hfr.trans (ext_frm (F := fun _ => False) hx) (fun _ h => h.elim)
        have lt1 : ltM (swp d a pv)[k]! (swp d a pv)[a]! = decide (cmpM (swp d a pv)[k]! (swp d a pv)[a]! < 0) := rfl
        by_cases c1 : cmpM (swp d a pv)[k]! (swp d a pv)[a]! < 0
        · simp -implicitDefEqProofs (maxSteps := 1000000) (disch := omega) only [natOf_nat, iadm, ldm1, ldm2, stm0, stm1, stm2, wA, wA1, wS, wS1, wM, S2, op, ef, cl, sq, reduceIte, Int.reduceLT, Int.reduceLE, Int.reduceBEq, Int.reduceBNe, Int.reduceEq, Nat.reduceAdd, Nat.reduceLeDiff, Nat.reduceLT, Nat.reduceEqDiff, S1, h0, h1, h4, h12, h13, hkk, c1]
          rw [if_neg (and_f2 (by rw [lt1, dect c1]; rfl))] at hk
          subst hk
          exact ⟨.i ⟨hd, hfr⟩, rfl, hkj⟩
        · simp -implicitDefEqProofs (maxSteps := 1000000) (disch := omega) only [natOf_nat, iadm, ldm1, ldm2, stm0, stm1, stm2, wA, wA1, wS, wS1, wM, S2, op, ef, cl, sq, reduceIte, Int.reduceLT, Int.reduceLE, Int.reduceBEq, Int.reduceBNe, Int.reduceEq, Nat.reduceAdd, Nat.reduceLeDiff, Nat.reduceLT, Nat.reduceEqDiff, S1, h0, h1, h4, h12, h13, hkk, c1]
          rw [if_pos (and_t (dect hkk) (not_f (lt1.trans (decf c1))))] at hk
          exact ⟨k - 1, by omega, .i ⟨hd, hfr⟩, rfl, by omega, hk⟩
      · simp -implicitDefEqProofs only [op, ef, cl, sq, reduceIte, Int.reduceLT, Int.reduceLE, Int.reduceBEq, Int.reduceBNe, Int.reduceEq, Nat.reduceAdd, Nat.reduceLeDiff, Nat.reduceLT, Nat.reduceEqDiff, S1, h0, h1, h4, h12, h13, hkk]
        rw [if_neg (and_f1 (decf hkk))] at hk
        subst hk
        exact ⟨.i ⟨hd, hfr⟩, rfl, hkj⟩
    · rintro R H3 ⟨⟨hd, hfr⟩, h0, h1, h4, h12, h13, hsjj⟩
      have lc := glt hd
      by_cases hgt : sj < si
      · have e : partition ltM d a b pv = (sj, true, swp (swp d a pv) sj a) := by
          simp -implicitDefEqProofs only [partition, ← hsi, ← hsj, gt_iff_lt, if_pos hgt]
        rw [e]
        simp -implicitDefEqProofs (maxSteps := 1000000) (disch := omega) only [natOf_nat, iadm, ldm1, ldm2, stm0, stm1, stm2, wA, wA1, wS, wS1, wM, S2, op, ef, cl, sq, reduceIte, Int.reduceLT, Int.reduceLE, Int.reduceBEq, Int.reduceBNe, Int.reduceEq, Nat.reduceAdd, Nat.reduceLeDiff, Nat.reduceLT, Nat.reduceEqDiff, S1, h0, h1, h4, h12, h13, hgt, hd, lc]
        exact .swp hd (by rw [swp_size]; exact hs1) rfl hfr
      · obtain ⟨r, hr⟩ : ∃ r, r = partLoop ltM a (si + 1) (sj - 1) (swp (swp d a pv) si sj) := ⟨_, rfl⟩
        have e : partition ltM d a b pv = (r.1, false, swp r.2 r.1 a) := by
          simp -implicitDefEqProofs only [partition, ← hsi, ← hsj, gt_iff_lt, if_neg hgt, ← hr]
        rw [e]
        simp -implicitDefEqProofs (maxSteps := 1000000) (disch := omega) only [natOf_nat, iadm, ldm1, ldm2, stm0, stm1, stm2, wA, wA1, wS, wS1, wM, S2, op, ef, cl, sq, reduceIte, Int.reduceLT, Int.reduceLE, Int.reduceBEq, Int.reduceBNe, Int.reduceEq, Nat.reduceAdd, Nat.reduceLeDiff, Nat.reduceLT, Nat.reduceEqDiff, S1, h0, h1, h4, h12, h13, hgt, hd, lc]
        obtain ⟨d2, hd2, hs2, e2, hf2⟩ := SC.swp (n := n) (P := fun x => x = swp (swp d a pv) si sj) (x := .cells (msC eN ((swp d a pv).toList.set si (swp d a pv)[sj]!))) hd (by rw [swp_size]; exact hs1) rfl hfr
        subst e2
        generalize ((H3.set c (.cells (msC eN ((swp d a pv).toList.set si (swp d a pv)[sj]!)))).set c (.cells (msC eN (swp (swp d a pv) si sj).toList))) = H5 at *
        refine W.loopE 4 (fun (q : Nat × Nat) R H' => At H' (fun H' => SC c n H (fun di => partLoop ltM a q.1 q.2 di = r) H') ∧ R 0 = .msl c 0 n 2 ∧ R 1 = .int .i64 a ∧ R 4 = .fn 36 [] ∧ R 12 = .int .i64 q.1 ∧ R 13 = .int .i64 q.2 ∧ a < q.1 ∧ q.2 < n ∧ q.1 ≤ n) (fun q => q.2 + 1 - q.1) (si + 1, sj - 1)
          (fun R H' => At H' (fun H' => SC c n H (fun di => di = r.2) H') ∧ R 0 = .msl c 0 n 2 ∧ R 1 = .int .i64 a ∧ R 4 = .fn 36 [] ∧ R 13 = .int .i64 r.1 ∧ r.1 < n) ⟨.i ⟨_, hd2, hs2, hr.symm, hf2⟩, ?_, ?_, ?_, ?_, ?_, by simp only; omega, by simp only; omega, by simp only; omega⟩ ?_ ?_
        · simp -implicitDefEqProofs only [op, ef, cl, sq, reduceIte, Int.reduceLT, Int.reduceLE, Int.reduceBEq, Int.reduceBNe, Int.reduceEq, Nat.reduceAdd, Nat.reduceLeDiff, Nat.reduceLT, Nat.reduceEqDiff, S1, h0]
        · simp -implicitDefEqProofs only [op, ef, cl, sq, reduceIte, Int.reduceLT, Int.reduceLE, Int.reduceBEq, Int.reduceBNe, Int.reduceEq, Nat.reduceAdd, Nat.reduceLeDiff, Nat.reduceLT, Nat.reduceEqDiff, S1, h1]
        · simp -implicitDefEqProofs only [op, ef, cl, sq, reduceIte, Int.reduceLT, Int.reduceLE, Int.reduceBEq, Int.reduceBNe, Int.reduceEq, Nat.reduceAdd, Nat.reduceLeDiff, Nat.reduceLT, Nat.reduceEqDiff, S1, h4]
        · simp -implicitDefEqProofs only [op, ef, cl, sq, reduceIte, Int.reduceLT, Int.reduceLE, Int.reduceBEq, Int.reduceBNe, Int.reduceEq, Nat.reduceAdd, Nat.reduceLeDiff, Nat.reduceLT, Nat.reduceEqDiff, S1, h12]
        · simp -implicitDefEqProofs only [op, ef, cl, sq, reduceIte, Int.reduceLT, Int.reduceLE, Int.reduceBEq, Int.reduceBNe, Int.reduceEq, Nat.reduceAdd, Nat.reduceLeDiff, Nat.reduceLT, Nat.reduceEqDiff, S1, h13]
        · rintro ⟨i, j⟩ R H1 ⟨⟨di, hd, hsz, hP, hfr⟩, h0, h1, h4, h12, h13, hai, hjn, hin⟩
          simp only at hP h12 h13 hai hjn hin ⊢
          simp -implicitDefEqProofs only [op, ef, cl, sq, reduceIte, Int.reduceLT, Int.reduceLE, Int.reduceBEq, Int.reduceBNe, Int.reduceEq, Nat.reduceAdd, Nat.reduceLeDiff, Nat.reduceLT, Nat.reduceEqDiff, S1, h0, h1, h4, h12, h13]
          clear hsi hsj
          obtain ⟨si, hsi⟩ : ∃ si, si = scanUp (fun x => ltM x di[a]!) di j i := ⟨_, rfl⟩
          refine W.loopE 6 (fun (k : Nat) R H' => At H' (fun H' => H'[c]? = some (.cells (msC eN di.toList)) ∧ Frm (fun x => x = c) H H') ∧ R 0 = .msl c 0 n 2 ∧ R 1 = .int .i64 a ∧ R 4 = .fn 36 [] ∧ R 12 = .int .i64 k ∧ R 13 = .int .i64 (j : Nat) ∧ i ≤ k ∧ k ≤ n ∧ scanUp (fun x => ltM x di[a]!) di (j) k = si) (fun k => j + 1 - k) (i)
            (fun R H' => At H' (fun H' => H'[c]? = some (.cells (msC eN di.toList)) ∧ Frm (fun x => x = c) H H') ∧ R 0 = .msl c 0 n 2 ∧ R 1 = .int .i64 a ∧ R 4 = .fn 36 [] ∧ R 12 = .int .i64 si ∧ R 13 = .int .i64 (j : Nat) ∧ i ≤ si ∧ si ≤ n) ⟨.i ⟨hd, hfr⟩, h0, h1, h4, h12, h13, Nat.le_refl _, by omega, hsi.symm⟩ ?_ ?_
          · rintro k R H2 ⟨⟨hd, hfr⟩, h0, h1, h4, h12, h13, hik, hkn, hk⟩
            have lc := glt hd
            by_cases hkj : k ≤ j
            · simp -implicitDefEqProofs (maxSteps := 1000000) (disch := omega) only [natOf_nat, iadm, ldm1, ldm2, stm0, stm1, stm2, wA, wA1, wS, wS1, wM, S2, op, ef, cl, sq, reduceIte, Int.reduceLT, Int.reduceLE, Int.reduceBEq, Int.reduceBNe, Int.reduceEq, Nat.reduceAdd, Nat.reduceLeDiff, Nat.reduceLT, Nat.reduceEqDiff, S1, h0, h1, h4, h12, h13, hkj, hd, lc]
              refine b_vg _ _ _ _ _ _ _ (by simp -implicitDefEqProofs (maxSteps := 1000000) (disch := omega) only [natOf_nat, iadm, ldm1, ldm2, stm0, stm1, stm2, wA, wA1, wS, wS1, wM, S2, op, ef, cl, sq, reduceIte, Int.reduceLT, Int.reduceLE, Int.reduceBEq, Int.reduceBNe, Int.reduceEq, Nat.reduceAdd, Nat.reduceLeDiff, Nat.reduceLT, Nat.reduceEqDiff, S1, h0, h1, h4, h12, h13, hkj, hd, lc]) ?_
              simp -implicitDefEqProofs (maxSteps := 1000000) (disch := omega) only [natOf_nat, iadm, ldm1, ldm2, stm0, stm1, stm2, wA, wA1, wS, wS1, wM, S2, op, ef, cl, sq, reduceIte, Int.reduceLT, Int.reduceLE, Int.reduceBEq, Int.reduceBNe, Int.reduceEq, Nat.reduceAdd, Nat.reduceLeDiff, Nat.reduceLT, Nat.reduceEqDiff, S1, callvB, h0, h1, h4, h12, h13, hkj, hd, lc, List.append_nil]
              refine callB_of _ _ _ _ _ _ _ _ (byName36 di[k]! di[a]! _) ?_
              rintro u H3 ⟨hu, hx⟩
              cases hu
              have hx : Ext H2 H3 := hx
              have hd := hx.get hd
              have lc := glt hd
              have hfr := hfr.trans (ext_frm (F := fun _ => False) hx) (fun _ h => h.elim)
              have lt1 : ltM di[k]! di[a]! = decide (cmpM di[k]! di[a]! < 0) := rfl
              by_cases c1 : cmpM di[k]! di[a]! < 0
              · simp -implicitDefEqProofs (maxSteps := 1000000) (disch := omega) only [natOf_nat, iadm, ldm1, ldm2, stm0, stm1, stm2, wA, wA1, wS, wS1, wM, S2, op, ef, cl, sq, reduceIte, Int.reduceLT, Int.reduceLE, Int.reduceBEq, Int.reduceBNe, Int.reduceEq, Nat.reduceAdd, Nat.reduceLeDiff, Nat.reduceLT, Nat.reduceEqDiff, S1, h0, h1, h4, h12, h13, hkj, c1]
                rw [scanUp, if_pos (and_t (dect hkj) (lt1.trans (dect c1)))] at hk
                exact ⟨k + 1, by omega, .i ⟨hd, hfr⟩, rfl, by omega, by omega, hk⟩
              · simp -implicitDefEqProofs (maxSteps := 1000000) (disch := omega) only [natOf_nat, iadm, ldm1, ldm2, stm0, stm1, stm2, wA, wA1, wS, wS1, wM, S2, op, ef, cl, sq, reduceIte, Int.reduceLT, Int.reduceLE, Int.reduceBEq, Int.reduceBNe, Int.reduceEq, Nat.reduceAdd, Nat.reduceLeDiff, Nat.reduceLT, Nat.reduceEqDiff, S1, h0, h1, h4, h12, h13, hkj, c1]
                rw [scanUp, if_neg (and_f2 (lt1.trans (decf c1)))] at hk
                subst hk
                exact ⟨.i ⟨hd, hfr⟩, rfl, hik, hkn⟩
            · simp -implicitDefEqProofs only [op, ef, cl, sq, reduceIte, Int.reduceLT, Int.reduceLE, Int.reduceBEq, Int.reduceBNe, Int.reduceEq, Nat.reduceAdd, Nat.reduceLeDiff, Nat.reduceLT, Nat.reduceEqDiff, S1, h0, h1, h4, h12, h13, hkj]
              rw [scanUp, if_neg (and_f1 (decf hkj))] at hk
              subst hk
              exact ⟨.i ⟨hd, hfr⟩, rfl, hik, hkn⟩
          · rintro R H2 ⟨⟨hd, hfr⟩, h0, h1, h4, h12, h13, hisi, hsin⟩
            simp -implicitDefEqProofs only [op, ef, cl, sq, reduceIte, Int.reduceLT, Int.reduceLE, Int.reduceBEq, Int.reduceBNe, Int.reduceEq, Nat.reduceAdd, Nat.reduceLeDiff, Nat.reduceLT, Nat.reduceEqDiff, S1, h0, h1, h4, h12, h13]
            obtain ⟨sj, hsj⟩ : ∃ sj, sj = scanDown (fun x => !ltM x di[a]!) di si j := ⟨_, rfl⟩
            refine W.loopE 8 (fun (k : Nat) R H' => At H' (fun H' => H'[c]? = some (.cells (msC eN di.toList)) ∧ Frm (fun x => x = c) H H') ∧ R 0 = .msl c 0 n 2 ∧ R 1 = .int .i64 a ∧ R 4 = .fn 36 [] ∧ R 12 = .int .i64 si ∧ R 13 = .int .i64 k ∧ k ≤ j ∧ scanDown (fun x => !ltM x di[a]!) di si k = sj) (fun k => k) (j)
              (fun R H' => At H' (fun H' => H'[c]? = some (.cells (msC eN di.toList)) ∧ Frm (fun x => x = c) H H') ∧ R 0 = .msl c 0 n 2 ∧ R 1 = .int .i64 a ∧ R 4 = .fn 36 [] ∧ R 12 = .int .i64 si ∧ R 13 = .int .i64 sj ∧ sj ≤ j) ⟨.i ⟨hd, hfr⟩, h0, h1, h4, h12, h13, Nat.le_refl _, hsj.symm⟩ ?_ ?_
            · rintro k R H3 ⟨⟨hd, hfr⟩, h0, h1, h4, h12, h13, hkj, hk⟩
              have lc := glt hd
              rw [scanDown_eq (by omega)] at hk
              by_cases hkk : si ≤ k
              · simp -implicitDefEqProofs (maxSteps := 1000000) (disch := omega) only [natOf_nat, iadm, ldm1, ldm2, stm0, stm1, stm2, wA, wA1, wS, wS1, wM, S2, op, ef, cl, sq, reduceIte, Int.reduceLT, Int.reduceLE, Int.reduceBEq, Int.reduceBNe, Int.reduceEq, Nat.reduceAdd, Nat.reduceLeDiff, Nat.reduceLT, Nat.reduceEqDiff, S1, h0, h1, h4, h12, h13, hkk, hd, lc]
                refine b_vg _ _ _ _ _ _ _ (by simp -implicitDefEqProofs (maxSteps := 1000000) (disch := omega) only [natOf_nat, iadm, ldm1, ldm2, stm0, stm1, stm2, wA, wA1, wS, wS1, wM, S2, op, ef, cl, sq, reduceIte, Int.reduceLT, Int.reduceLE, Int.reduceBEq, Int.reduceBNe, Int.reduceEq, Nat.reduceAdd, Nat.reduceLeDiff, Nat.reduceLT, Nat.reduceEqDiff, S1, h0, h1, h4, h12, h13, hkk, hd, lc]) ?_
                simp -implicitDefEqProofs (maxSteps := 1000000) (disch := omega) only [natOf_nat, iadm, ldm1, ldm2, stm0, stm1, stm2, wA, wA1, wS, wS1, wM, S2, op, ef, cl, sq, reduceIte, Int.reduceLT, Int.reduceLE, Int.reduceBEq, Int.reduceBNe, Int.reduceEq, Nat.reduceAdd, Nat.reduceLeDiff, Nat.reduceLT, Nat.reduceEqDiff, S1, callvB, h0, h1, h4, h12, h13, hkk, hd, lc, List.append_nil]
                refine callB_of _ _ _ _ _ _ _ _ (byName36 di[k]! di[a]! _) ?_
                rintro u H4 ⟨hu, hx⟩
                cases hu
                have hx : Ext H3 H4 := hx
                have hd := hx.get hd
                have lc := glt hd
                have hfr := hfr.trans (ext_frm (F := fun _ => False) hx) (fun _ h => h.elim)
                have lt1 : ltM di[k]! di[a]! = decide (cmpM di[k]! di[a]! < 0) := rfl
                by_cases c1 : cmpM di[k]! di[a]! < 0
                · simp -implicitDefEqProofs (maxSteps := 1000000) (disch := omega) only [natOf_nat, iadm, ldm1, ldm2, stm0, stm1, stm2, wA, wA1, wS, wS1, wM, S2, op, ef, cl, sq, reduceIte, Int.reduceLT, Int.reduceLE, Int.reduceBEq, Int.reduceBNe, Int.reduceEq, Nat.reduceAdd, Nat.reduceLeDiff, Nat.reduceLT, Nat.reduceEqDiff, S1, h0, h1, h4, h12, h13, hkk, c1]
                  rw [if_neg (and_f2 (by rw [lt1, dect c1]; rfl))] at hk
                  subst hk
                  exact ⟨.i ⟨hd, hfr⟩, rfl, hkj⟩
                · simp -implicitDefEqProofs (maxSteps := 1000000) (disch := omega) only [natOf_nat, iadm, ldm1, ldm2, stm0, stm1, stm2, wA, wA1, wS, wS1, wM, S2, op, ef, cl, sq, reduceIte, Int.reduceLT, Int.reduceLE, Int.reduceBEq, Int.reduceBNe, Int.reduceEq, Nat.reduceAdd, Nat.reduceLeDiff, Nat.reduceLT, Nat.reduceEqDiff, S1, h0, h1, h4, h12, h13, hkk, c1]
                  rw [if_pos (and_t (dect hkk) (not_f (lt1.trans (decf c1))))] at hk
                  exact ⟨k - 1, by omega, .i ⟨hd, hfr⟩, rfl, by omega, hk⟩
              · simp -implicitDefEqProofs only [op, ef, cl, sq, reduceIte, Int.reduceLT, Int.reduceLE, Int.reduceBEq, Int.reduceBNe, Int.reduceEq, Nat.reduceAdd, Nat.reduceLeDiff, Nat.reduceLT, Nat.reduceEqDiff, S1, h0, h1, h4, h12, h13, hkk]
                rw [if_neg (and_f1 (decf hkk))] at hk
                subst hk
                exact ⟨.i ⟨hd, hfr⟩, rfl, hkj⟩
            · rintro R H3 ⟨⟨hd, hfr⟩, h0, h1, h4, h12, h13, hsjj⟩
              have lc := glt hd
              rw [part_eq hsi hsj] at hP
              by_cases hgt : sj < si
              · rw [if_pos hgt] at hP
                simp -implicitDefEqProofs only [op, ef, cl, sq, reduceIte, Int.reduceLT, Int.reduceLE, Int.reduceBEq, Int.reduceBNe, Int.reduceEq, Nat.reduceAdd, Nat.reduceLeDiff, Nat.reduceLT, Nat.reduceEqDiff, S1, h0, h1, h4, h12, h13, hgt]
                exact ⟨.i ⟨di, hd, hsz, by rw [← hP], hfr⟩, by rw [← hP], by rw [← hP]; simp only; omega⟩
              · rw [if_neg hgt, if_pos (by omega)] at hP
                simp -implicitDefEqProofs (maxSteps := 1000000) (disch := omega) only [natOf_nat, iadm, ldm1, ldm2, stm0, stm1, stm2, wA, wA1, wS, wS1, wM, S2, op, ef, cl, sq, reduceIte, Int.reduceLT, Int.reduceLE, Int.reduceBEq, Int.reduceBNe, Int.reduceEq, Nat.reduceAdd, Nat.reduceLeDiff, Nat.reduceLT, Nat.reduceEqDiff, S1, h0, h1, h4, h12, h13, hgt, hd, lc]
                exact ⟨(si + 1, sj - 1), by simp only; omega, .i (.swp hd (by rw [swp_size]; exact hsz) hP hfr), rfl, rfl, by simp only; omega, by simp only; omega, by simp only; omega⟩
        · rintro R H1 ⟨⟨di, hd, hsz, rfl, hfr⟩, h0, h1, h4, h13, hr1⟩
          have lc := glt hd
          simp -implicitDefEqProofs (maxSteps := 1000000) (disch := omega) only [natOf_nat, iadm, ldm1, ldm2, stm0, stm1, stm2, wA, wA1, wS, wS1, wM, S2, op, ef, cl, sq, reduceIte, Int.reduceLT, Int.reduceLE, Int.reduceBEq, Int.reduceBNe, Int.reduceEq, Nat.reduceAdd, Nat.reduceLeDiff, Nat.reduceLT, Nat.reduceEqDiff, S1, h0, h1, h4, h13, hd, lc]
          exact .swp hd (by rw [swp_size]; exact hsz) rfl hfr
end Go.Proofs.Ytbkgokabcnogdaa.St
end

/-! text StoreXh -/
section
namespace Go.Proofs.Ytbkgokabcnogdaa.St
open Go.Rmp Go.Proofs.Ytbkgokabcnogdaa.Ir
set_option maxRecDepth 10000
set_option maxHeartbeats 8000000
open Go.Sort in
theorem shiftDown_eq {d : Array Nm} {k : Nat} (h : 1 ≤ k) : shiftDown ltM k d = if (!ltM d[k]! d[k - 1]!) = true then d else shiftDown ltM (k - 1) (swp d k (k - 1)) := by
  cases k with
  | zero => omega
  | succ k => rw [shiftDown]; rfl
open Go.Sort in
theorem pins80 (c n : Nat) (d : Array Nm) (a b : Nat) (H : Heap) (hn : d.size = n) (hc : H[c]? = some (.cells (msC eN d.toList))) (hb : b ≤ n) (hab : a < b) (hs : n < 2305843009213693951) :
    W env (.call 80 [.msl c 0 n 2, .int .i64 a, .int .i64 b, .fn 36 []]) H (fun o H' => o = .val (.bool (partialInsertionSort ltM d a b).2) ∧ SC c n H (fun x => x = (partialInsertionSort ltM d a b).1) H') := by
  refine W.fnI rfl rfl rfl ?_
  obtain ⟨r, hr⟩ : ∃ r, r = partialInsertionSort ltM d a b := ⟨_, rfl⟩
  rw [← hr]
  simp -implicitDefEqProofs (maxSteps := 1000000) (disch := omega) only [ir80, natOf_nat, iadm, ldm1, ldm2, stm0, stm1, stm2, wA, wA1, wS, wS1, wM, S2, op, ef, cl, sq, reduceIte, Int.reduceLT, Int.reduceLE, Int.reduceBEq, Int.reduceBNe, Int.reduceEq, Nat.reduceAdd, Nat.reduceLeDiff, Nat.reduceLT, Nat.reduceEqDiff, S1]
  refine W.loopE 0 (fun (j : Nat) R H' => At H' (fun H' => ∃ i, R 9 = .int .i64 (i : Nat) ∧ a < i ∧ i ≤ b ∧ SC c n H (fun di => partialIns ltM a b (5 - j) i di = r) H') ∧ R 0 = .msl c 0 n 2 ∧ R 1 = .int .i64 a ∧ R 2 = .int .i64 b ∧ R 3 = .fn 36 [] ∧ R 10 = .int .i64 j ∧ j ≤ 5) (fun j => 5 - j) 0
    (fun R H' => At H' (fun H' => SC c n H (fun di => (di, false) = r) H')) ⟨.i ⟨a + 1, rfl, by omega, by omega, d, hc, hn, hr.symm, Frm.refl _ _⟩, rfl, rfl, rfl, rfl, rfl, by omega⟩ ?_ ?_
  · rintro j R H1 ⟨⟨i, h9, hai, hib, di, hd, hsz, hP, hfr⟩, h0, h1, h2, h3, h10, hj⟩
    by_cases hj5 : j < 5
    rotate_left
    · have : j = 5 := by omega
      subst this
      simp -implicitDefEqProofs only [op, ef, cl, sq, reduceIte, Int.reduceLT, Int.reduceLE, Int.reduceBEq, Int.reduceBNe, Int.reduceEq, Nat.reduceAdd, Nat.reduceLeDiff, Nat.reduceLT, Nat.reduceEqDiff, S1, h0, h1, h2, h3, h10]
      exact .i ⟨di, hd, hsz, hP, hfr⟩
    obtain ⟨s, hs5⟩ : ∃ s, 5 - j = s + 1 := ⟨4 - j, by omega⟩
    have hs5' : 5 - (j + 1) = s := by omega
    rw [hs5, partialIns] at hP
    simp -implicitDefEqProofs only [op, ef, cl, sq, reduceIte, Int.reduceLT, Int.reduceLE, Int.reduceBEq, Int.reduceBNe, Int.reduceEq, Nat.reduceAdd, Nat.reduceLeDiff, Nat.reduceLT, Nat.reduceEqDiff, S1, h0, h1, h2, h3, h10, hj5]
    obtain ⟨si, hsi⟩ : ∃ si, si = scanSorted ltM di b i := ⟨_, rfl⟩
    rw [← hsi] at hP
    refine W.loopE 2 (fun (k : Nat) R H' => At H' (fun H' => H'[c]? = some (.cells (msC eN di.toList)) ∧ Frm (fun x => x = c) H H') ∧ R 0 = .msl c 0 n 2 ∧ R 1 = .int .i64 a ∧ R 2 = .int .i64 b ∧ R 3 = .fn 36 [] ∧ R 9 = .int .i64 k ∧ R 10 = .int .i64 j ∧ i ≤ k ∧ k ≤ b ∧ scanSorted ltM di b k = si) (fun k => b - k) i
      (fun R H' => At H' (fun H' => H'[c]? = some (.cells (msC eN di.toList)) ∧ Frm (fun x => x = c) H H') ∧ R 0 = .msl c 0 n 2 ∧ R 1 = .int .i64 a ∧ R 2 = .int .i64 b ∧ R 3 = .fn 36 [] ∧ R 9 = .int .i64 si ∧ R 10 = .int .i64 j ∧ i ≤ si ∧ si ≤ b) ⟨.i ⟨hd, hfr⟩, ?_, ?_, ?_, ?_, ?_, ?_, Nat.le_refl _, hib, hsi.symm⟩ ?_ ?_
    · simp -implicitDefEqProofs only [op, ef, cl, sq, reduceIte, Int.reduceLT, Int.reduceLE, Int.reduceBEq, Int.reduceBNe, Int.reduceEq, Nat.reduceAdd, Nat.reduceLeDiff, Nat.reduceLT, Nat.reduceEqDiff, S1, h0]
    · simp -implicitDefEqProofs only [op, ef, cl, sq, reduceIte, Int.reduceLT, Int.reduceLE, Int.reduceBEq, Int.reduceBNe, Int.reduceEq, Nat.reduceAdd, Nat.reduceLeDiff, Nat.reduceLT, Nat.reduceEqDiff, S1, h1]
    · simp -implicitDefEqProofs only [op, ef, cl, sq, reduceIte, Int.reduceLT, Int.reduceLE, Int.reduceBEq, Int.reduceBNe, Int.reduceEq, Nat.reduceAdd, Nat.reduceLeDiff, Nat.reduceLT, Nat.reduceEqDiff, S1, h2]
    · simp -implicitDefEqProofs only [op, ef, cl, sq, reduceIte, Int.reduceLT, Int.reduceLE, Int.reduceBEq, Int.reduceBNe, Int.reduceEq, Nat.reduceAdd, Nat.reduceLeDiff, Nat.reduceLT, Nat.reduceEqDiff, S1, h3]
    · simp -implicitDefEqProofs only [op, ef, cl, sq, reduceIte, Int.reduceLT, Int.reduceLE, Int.reduceBEq, Int.reduceBNe, Int.reduceEq, Nat.reduceAdd, Nat.reduceLeDiff, Nat.reduceLT, Nat.reduceEqDiff, S1, h9]
    · simp -implicitDefEqProofs only [op, ef, cl, sq, reduceIte, Int.reduceLT, Int.reduceLE, Int.reduceBEq, Int.reduceBNe, Int.reduceEq, Nat.reduceAdd, Nat.reduceLeDiff, Nat.reduceLT, Nat.reduceEqDiff, S1, h10]
    · rintro k R H2 ⟨⟨hd, hfr⟩, h0, h1, h2, h3, h9, h10, hik, hkb, hk⟩
      have lc := glt hd
      by_cases hkk : k < b
      · simp -implicitDefEqProofs (maxSteps := 1000000) (disch := omega) only [natOf_nat, iadm, ldm1, ldm2, stm0, stm1, stm2, wA, wA1, wS, wS1, wM, S2, op, ef, cl, sq, reduceIte, Int.reduceLT, Int.reduceLE, Int.reduceBEq, Int.reduceBNe, Int.reduceEq, Nat.reduceAdd, Nat.reduceLeDiff, Nat.reduceLT, Nat.reduceEqDiff, S1, h0, h1, h2, h3, h9, h10, hkk, hd, lc]
        refine b_vg _ _ _ _ _ _ _ (by simp -implicitDefEqProofs (maxSteps := 1000000) (disch := omega) only [natOf_nat, iadm, ldm1, ldm2, stm0, stm1, stm2, wA, wA1, wS, wS1, wM, S2, op, ef, cl, sq, reduceIte, Int.reduceLT, Int.reduceLE, Int.reduceBEq, Int.reduceBNe, Int.reduceEq, Nat.reduceAdd, Nat.reduceLeDiff, Nat.reduceLT, Nat.reduceEqDiff, S1, h0, h1, h2, h3, h9, h10, hkk, hd, lc]) ?_
        simp -implicitDefEqProofs (maxSteps := 1000000) (disch := omega) only [natOf_nat, iadm, ldm1, ldm2, stm0, stm1, stm2, wA, wA1, wS, wS1, wM, S2, op, ef, cl, sq, reduceIte, Int.reduceLT, Int.reduceLE, Int.reduceBEq, Int.reduceBNe, Int.reduceEq, Nat.reduceAdd, Nat.reduceLeDiff, Nat.reduceLT, Nat.reduceEqDiff, S1, callvB, h0, h1, h2, h3, h9, h10, hkk, hd, lc, List.append_nil]
        refine callB_of _ _ _ _ _ _ _ _ (byName36 di[k]! di[k - 1]! _) ?_
        rintro u H3 ⟨hu, hx⟩
        cases hu
        have hx : Ext H2 H3 := hx
        have hd := hx.get hd
        have lc := glt hd
        have hfr := hfr.trans (ext_frm (F := fun _ => False) hx) (fun _ h => h.elim)
        have lt1 : ltM di[k]! di[k - 1]! = decide (cmpM di[k]! di[k - 1]! < 0) := rfl
        by_cases c1 : cmpM di[k]! di[k - 1]! < 0
        · simp -implicitDefEqProofs (maxSteps := 1000000) (disch := omega) only [natOf_nat, iadm, ldm1, ldm2, stm0, stm1, stm2, wA, wA1, wS, wS1, wM, S2, op, ef, cl, sq, reduceIte, Int.reduceLT, Int.reduceLE, Int.reduceBEq, Int.reduceBNe, Int.reduceEq, Nat.reduceAdd, Nat.reduceLeDiff, Nat.reduceLT, Nat.reduceEqDiff, S1, h0, h1, h2, h3, h9, h10, hkk, c1]
          rw [scanSorted, if_neg (and_f2 (by rw [lt1, dect c1]; rfl))] at hk
          subst hk
          exact ⟨.i ⟨hd, hfr⟩, rfl, hik, hkb⟩
        · simp -implicitDefEqProofs (maxSteps := 1000000) (disch := omega) only [natOf_nat, iadm, ldm1, ldm2, stm0, stm1, stm2, wA, wA1, wS, wS1, wM, S2, op, ef, cl, sq, reduceIte, Int.reduceLT, Int.reduceLE, Int.reduceBEq, Int.reduceBNe, Int.reduceEq, Nat.reduceAdd, Nat.reduceLeDiff, Nat.reduceLT, Nat.reduceEqDiff, S1, h0, h1, h2, h3, h9, h10, hkk, c1]
          rw [scanSorted, if_pos (and_t (dect hkk) (not_f (lt1.trans (decf c1))))] at hk
          exact ⟨k + 1, by omega, .i ⟨hd, hfr⟩, rfl, by omega, by omega, hk⟩
      · simp -implicitDefEqProofs only [op, ef, cl, sq, reduceIte, Int.reduceLT, Int.reduceLE, Int.reduceBEq, Int.reduceBNe, Int.reduceEq, Nat.reduceAdd, Nat.reduceLeDiff, Nat.reduceLT, Nat.reduceEqDiff, S1, h0, h1, h2, h3, h9, h10, hkk]
        rw [scanSorted, if_neg (and_f1 (decf hkk))] at hk
        subst hk
        exact ⟨.i ⟨hd, hfr⟩, rfl, hik, hkb⟩
    · rintro R H2 ⟨⟨hd, hfr⟩, h0, h1, h2, h3, h9, h10, hisi, hsib⟩
      have lc := glt hd
      by_cases hb1 : si = b
      · rw [if_pos hb1] at hP
        have e1 : ((si : Int) == (b : Int)) = true := by rw [hb1]; simp
        simp -implicitDefEqProofs (maxSteps := 1000000) (disch := omega) only [natOf_nat, iadm, ldm1, ldm2, stm0, stm1, stm2, wA, wA1, wS, wS1, wM, S2, op, ef, cl, sq, reduceIte, Int.reduceLT, Int.reduceLE, Int.reduceBEq, Int.reduceBNe, Int.reduceEq, Nat.reduceAdd, Nat.reduceLeDiff, Nat.reduceLT, Nat.reduceEqDiff, S1, h0, h1, h2, h3, h9, h10, e1]
        rw [← hP]
        exact ⟨rfl, di, hd, hsz, rfl, hfr⟩
      rw [if_neg hb1] at hP
      have e1 : ((si : Int) == (b : Int)) = false := by simp; omega
      by_cases h50 : b - a < 50
      · rw [if_pos h50] at hP
        simp -implicitDefEqProofs (maxSteps := 1000000) (disch := omega) only [natOf_nat, iadm, ldm1, ldm2, stm0, stm1, stm2, wA, wA1, wS, wS1, wM, S2, op, ef, cl, sq, reduceIte, Int.reduceLT, Int.reduceLE, Int.reduceBEq, Int.reduceBNe, Int.reduceEq, Nat.reduceAdd, Nat.reduceLeDiff, Nat.reduceLT, Nat.reduceEqDiff, S1, h0, h1, h2, h3, h9, h10, e1, h50]
        rw [← hP]
        exact ⟨rfl, di, hd, hsz, rfl, hfr⟩
      rw [if_neg h50] at hP
      simp -implicitDefEqProofs (maxSteps := 1000000) (disch := omega) only [natOf_nat, iadm, ldm1, ldm2, stm0, stm1, stm2, wA, wA1, wS, wS1, wM, S2, op, ef, cl, sq, reduceIte, Int.reduceLT, Int.reduceLE, Int.reduceBEq, Int.reduceBNe, Int.reduceEq, Nat.reduceAdd, Nat.reduceLeDiff, Nat.reduceLT, Nat.reduceEqDiff, S1, h0, h1, h2, h3, h9, h10, e1, h50, hd, lc]
      obtain ⟨d3, hd3⟩ : ∃ d3, d3 = if si - a ≥ 2 then shiftDown ltM (si - 1) (swp di si (si - 1)) else swp di si (si - 1) := ⟨_, rfl⟩
      obtain ⟨d4, hd4⟩ : ∃ d4, d4 = if b - si ≥ 2 then shiftUp ltM b (si + 1) d3 else d3 := ⟨_, rfl⟩
      have hP : partialIns ltM a b s si d4 = r := by rw [hd4, hd3]; exact hP
      obtain ⟨d2, hd2, hs2, e2, hf2⟩ := SC.swp (n := n) (P := fun x => x = swp di si (si - 1)) (x := .cells (msC eN (di.toList.set si di[si - 1]!))) hd (by rw [swp_size]; exact hsz) rfl hfr
      subst e2
      generalize ((H2.set c (.cells (msC eN (di.toList.set si di[si - 1]!)))).set c (.cells (msC eN (swp di si (si - 1)).toList))) = H5 at *
      by_cases hA : 2 ≤ si - a
      · rw [if_pos hA] at hd3
        simp -implicitDefEqProofs (maxSteps := 1000000) (disch := omega) only [natOf_nat, iadm, ldm1, ldm2, stm0, stm1, stm2, wA, wA1, wS, wS1, wM, S2, op, ef, cl, sq, reduceIte, Int.reduceLT, Int.reduceLE, Int.reduceBEq, Int.reduceBNe, Int.reduceEq, Nat.reduceAdd, Nat.reduceLeDiff, Nat.reduceLT, Nat.reduceEqDiff, S1, h0, h1, h2, h3, h9, h10, hA]
        refine W.loopE 4 (fun (k : Nat) R H' => At H' (fun H' => SC c n H (fun dx => shiftDown ltM k dx = d3) H') ∧ R 0 = .msl c 0 n 2 ∧ R 1 = .int .i64 a ∧ R 2 = .int .i64 b ∧ R 3 = .fn 36 [] ∧ R 9 = .int .i64 si ∧ R 10 = .int .i64 j ∧ R 11 = .int .i64 k ∧ k < b) (fun k => k) (si - 1)
          (fun R H' => At H' (fun H' => SC c n H (fun dx => dx = d3) H') ∧ R 0 = .msl c 0 n 2 ∧ R 1 = .int .i64 a ∧ R 2 = .int .i64 b ∧ R 3 = .fn 36 [] ∧ R 9 = .int .i64 si ∧ R 10 = .int .i64 j) ⟨.i ⟨_, hd2, hs2, hd3.symm, hf2⟩, ?_, ?_, ?_, ?_, ?_, ?_, ?_, by omega⟩ ?_ ?_
        · simp -implicitDefEqProofs only [op, ef, cl, sq, reduceIte, Int.reduceLT, Int.reduceLE, Int.reduceBEq, Int.reduceBNe, Int.reduceEq, Nat.reduceAdd, Nat.reduceLeDiff, Nat.reduceLT, Nat.reduceEqDiff, S1, h0]
        · simp -implicitDefEqProofs only [op, ef, cl, sq, reduceIte, Int.reduceLT, Int.reduceLE, Int.reduceBEq, Int.reduceBNe, Int.reduceEq, Nat.reduceAdd, Nat.reduceLeDiff, Nat.reduceLT, Nat.reduceEqDiff, S1, h1]
        · simp -implicitDefEqProofs only [op, ef, cl, sq, reduceIte, Int.reduceLT, Int.reduceLE, Int.reduceBEq, Int.reduceBNe, Int.reduceEq, Nat.reduceAdd, Nat.reduceLeDiff, Nat.reduceLT, Nat.reduceEqDiff, S1, h2]
        · simp -implicitDefEqProofs only [op, ef, cl, sq, reduceIte, Int.reduceLT, Int.reduceLE, Int.reduceBEq, Int.reduceBNe, Int.reduceEq, Nat.reduceAdd, Nat.reduceLeDiff, Nat.reduceLT, Nat.reduceEqDiff, S1, h3]
        · simp -implicitDefEqProofs only [op, ef, cl, sq, reduceIte, Int.reduceLT, Int.reduceLE, Int.reduceBEq, Int.reduceBNe, Int.reduceEq, Nat.reduceAdd, Nat.reduceLeDiff, Nat.reduceLT, Nat.reduceEqDiff, S1, h9]
        · simp -implicitDefEqProofs only [op, ef, cl, sq, reduceIte, Int.reduceLT, Int.reduceLE, Int.reduceBEq, Int.reduceBNe, Int.reduceEq, Nat.reduceAdd, Nat.reduceLeDiff, Nat.reduceLT, Nat.reduceEqDiff, S1, h10]
        · simp -implicitDefEqProofs only [op, ef, cl, sq, reduceIte, Int.reduceLT, Int.reduceLE, Int.reduceBEq, Int.reduceBNe, Int.reduceEq, Nat.reduceAdd, Nat.reduceLeDiff, Nat.reduceLT, Nat.reduceEqDiff, S1]
        · rintro k R H2 ⟨⟨dx, hd, hsz, hk, hfr⟩, h0, h1, h2, h3, h9, h10, h11, hkb⟩
          have lc := glt hd
          by_cases hk1 : 1 ≤ k
          · simp -implicitDefEqProofs (maxSteps := 1000000) (disch := omega) only [natOf_nat, iadm, ldm1, ldm2, stm0, stm1, stm2, wA, wA1, wS, wS1, wM, S2, op, ef, cl, sq, reduceIte, Int.reduceLT, Int.reduceLE, Int.reduceBEq, Int.reduceBNe, Int.reduceEq, Nat.reduceAdd, Nat.reduceLeDiff, Nat.reduceLT, Nat.reduceEqDiff, S1, h0, h1, h2, h3, h9, h10, h11, hk1, hd, lc]
            refine b_vg _ _ _ _ _ _ _ (by simp -implicitDefEqProofs (maxSteps := 1000000) (disch := omega) only [natOf_nat, iadm, ldm1, ldm2, stm0, stm1, stm2, wA, wA1, wS, wS1, wM, S2, op, ef, cl, sq, reduceIte, Int.reduceLT, Int.reduceLE, Int.reduceBEq, Int.reduceBNe, Int.reduceEq, Nat.reduceAdd, Nat.reduceLeDiff, Nat.reduceLT, Nat.reduceEqDiff, S1, h0, h1, h2, h3, h9, h10, h11, hk1, hd, lc]) ?_
            simp -implicitDefEqProofs (maxSteps := 1000000) (disch := omega) only [natOf_nat, iadm, ldm1, ldm2, stm0, stm1, stm2, wA, wA1, wS, wS1, wM, S2, op, ef, cl, sq, reduceIte, Int.reduceLT, Int.reduceLE, Int.reduceBEq, Int.reduceBNe, Int.reduceEq, Nat.reduceAdd, Nat.reduceLeDiff, Nat.reduceLT, Nat.reduceEqDiff, S1, callvB, h0, h1, h2, h3, h9, h10, h11, hk1, hd, lc, List.append_nil]
            refine callB_of _ _ _ _ _ _ _ _ (byName36 dx[k]! dx[k - 1]! _) ?_
            rintro u H3 ⟨hu, hx⟩
            cases hu
            have hx : Ext H2 H3 := hx
            have hd := hx.get hd
            have lc := glt hd
            have hfr := hfr.trans (ext_frm (F := fun _ => False) hx) (fun _ h => h.elim)
            have lt1 : ltM dx[k]! dx[k - 1]! = decide (cmpM dx[k]! dx[k - 1]! < 0) := rfl
            rw [shiftDown_eq hk1] at hk
            by_cases c1 : cmpM dx[k]! dx[k - 1]! < 0
            · simp -implicitDefEqProofs (maxSteps := 1000000) (disch := omega) only [natOf_nat, iadm, ldm1, ldm2, stm0, stm1, stm2, wA, wA1, wS, wS1, wM, S2, op, ef, cl, sq, reduceIte, Int.reduceLT, Int.reduceLE, Int.reduceBEq, Int.reduceBNe, Int.reduceEq, Nat.reduceAdd, Nat.reduceLeDiff, Nat.reduceLT, Nat.reduceEqDiff, S1, h0, h1, h2, h3, h9, h10, h11, hk1, hd, lc, c1]
              rw [if_neg (not_t (lt1.trans (dect c1)))] at hk
              exact ⟨k - 1, by omega, .i (.swp hd (by rw [swp_size]; exact hsz) hk hfr), rfl, by omega⟩
            · simp -implicitDefEqProofs (maxSteps := 1000000) (disch := omega) only [natOf_nat, iadm, ldm1, ldm2, stm0, stm1, stm2, wA, wA1, wS, wS1, wM, S2, op, ef, cl, sq, reduceIte, Int.reduceLT, Int.reduceLE, Int.reduceBEq, Int.reduceBNe, Int.reduceEq, Nat.reduceAdd, Nat.reduceLeDiff, Nat.reduceLT, Nat.reduceEqDiff, S1, h0, h1, h2, h3, h9, h10, h11, hk1, hd, lc, c1]
              rw [if_pos (not_f (lt1.trans (decf c1)))] at hk
              exact .i ⟨dx, hd, hsz, hk, hfr⟩
          · have hk0 : k = 0 := by omega
            subst hk0
            simp -implicitDefEqProofs only [op, ef, cl, sq, reduceIte, Int.reduceLT, Int.reduceLE, Int.reduceBEq, Int.reduceBNe, Int.reduceEq, Nat.reduceAdd, Nat.reduceLeDiff, Nat.reduceLT, Nat.reduceEqDiff, S1, h0, h1, h2, h3, h9, h10, h11, hk1]
            rw [shiftDown] at hk
            exact .i ⟨dx, hd, hsz, hk, hfr⟩
        · rintro R H2 ⟨⟨dx, hd, hsz3, rfl, hfr⟩, h0, h1, h2, h3, h9, h10⟩
          have lc := glt hd
          by_cases hB : 2 ≤ b - si
          · simp -implicitDefEqProofs (maxSteps := 1000000) (disch := omega) only [natOf_nat, iadm, ldm1, ldm2, stm0, stm1, stm2, wA, wA1, wS, wS1, wM, S2, op, ef, cl, sq, reduceIte, Int.reduceLT, Int.reduceLE, Int.reduceBEq, Int.reduceBNe, Int.reduceEq, Nat.reduceAdd, Nat.reduceLeDiff, Nat.reduceLT, Nat.reduceEqDiff, S1, h0, h1, h2, h3, h9, h10, hB]
            rw [if_pos hB] at hd4
            refine W.loopE 6 (fun (k : Nat) R H' => At H' (fun H' => SC c n H (fun dx => shiftUp ltM b k dx = d4) H') ∧ R 0 = .msl c 0 n 2 ∧ R 1 = .int .i64 a ∧ R 2 = .int .i64 b ∧ R 3 = .fn 36 [] ∧ R 9 = .int .i64 si ∧ R 10 = .int .i64 j ∧ R 12 = .int .i64 k ∧ 1 ≤ k ∧ k ≤ b) (fun k => b - k) (si + 1)
              (fun R H' => At H' (fun H' => SC c n H (fun dx => dx = d4) H') ∧ R 0 = .msl c 0 n 2 ∧ R 1 = .int .i64 a ∧ R 2 = .int .i64 b ∧ R 3 = .fn 36 [] ∧ R 9 = .int .i64 si ∧ R 10 = .int .i64 j) ⟨.i ⟨dx, hd, hsz3, hd4.symm, hfr⟩, ?_, ?_, ?_, ?_, ?_, ?_, ?_, by omega, by omega⟩ ?_ ?_
            · simp -implicitDefEqProofs only [op, ef, cl, sq, reduceIte, Int.reduceLT, Int.reduceLE, Int.reduceBEq, Int.reduceBNe, Int.reduceEq, Nat.reduceAdd, Nat.reduceLeDiff, Nat.reduceLT, Nat.reduceEqDiff, S1, h0]
            · simp -implicitDefEqProofs only [op, ef, cl, sq, reduceIte, Int.reduceLT, Int.reduceLE, Int.reduceBEq, Int.reduceBNe, Int.reduceEq, Nat.reduceAdd, Nat.reduceLeDiff, Nat.reduceLT, Nat.reduceEqDiff, S1, h1]
            · simp -implicitDefEqProofs only [op, ef, cl, sq, reduceIte, Int.reduceLT, Int.reduceLE, Int.reduceBEq, Int.reduceBNe, Int.reduceEq, Nat.reduceAdd, Nat.reduceLeDiff, Nat.reduceLT, Nat.reduceEqDiff, S1, h2]
            · simp -implicitDefEqProofs only [op, ef, cl, sq, reduceIte, Int.reduceLT, Int.reduceLE, Int.reduceBEq, Int.reduceBNe, Int.reduceEq, Nat.reduceAdd, Nat.reduceLeDiff, Nat.reduceLT, Nat.reduceEqDiff, S1, h3]
            · simp -implicitDefEqProofs only [op, ef, cl, sq, reduceIte, Int.reduceLT, Int.reduceLE, Int.reduceBEq, Int.reduceBNe, Int.reduceEq, Nat.reduceAdd, Nat.reduceLeDiff, Nat.reduceLT, Nat.reduceEqDiff, S1, h9]
            · simp -implicitDefEqProofs only [op, ef, cl, sq, reduceIte, Int.reduceLT, Int.reduceLE, Int.reduceBEq, Int.reduceBNe, Int.reduceEq, Nat.reduceAdd, Nat.reduceLeDiff, Nat.reduceLT, Nat.reduceEqDiff, S1, h10]
            · simp -implicitDefEqProofs only [op, ef, cl, sq, reduceIte, Int.reduceLT, Int.reduceLE, Int.reduceBEq, Int.reduceBNe, Int.reduceEq, Nat.reduceAdd, Nat.reduceLeDiff, Nat.reduceLT, Nat.reduceEqDiff, S1]
            · rintro k R H2 ⟨⟨dx, hd, hsz, hk, hfr⟩, h0, h1, h2, h3, h9, h10, h12, hk1, hkb⟩
              have lc := glt hd
              by_cases hkk : k < b
              · simp -implicitDefEqProofs (maxSteps := 1000000) (disch := omega) only [natOf_nat, iadm, ldm1, ldm2, stm0, stm1, stm2, wA, wA1, wS, wS1, wM, S2, op, ef, cl, sq, reduceIte, Int.reduceLT, Int.reduceLE, Int.reduceBEq, Int.reduceBNe, Int.reduceEq, Nat.reduceAdd, Nat.reduceLeDiff, Nat.reduceLT, Nat.reduceEqDiff, S1, h0, h1, h2, h3, h9, h10, h12, hkk, hd, lc]
                refine b_vg _ _ _ _ _ _ _ (by simp -implicitDefEqProofs (maxSteps := 1000000) (disch := omega) only [natOf_nat, iadm, ldm1, ldm2, stm0, stm1, stm2, wA, wA1, wS, wS1, wM, S2, op, ef, cl, sq, reduceIte, Int.reduceLT, Int.reduceLE, Int.reduceBEq, Int.reduceBNe, Int.reduceEq, Nat.reduceAdd, Nat.reduceLeDiff, Nat.reduceLT, Nat.reduceEqDiff, S1, h0, h1, h2, h3, h9, h10, h12, hkk, hd, lc]) ?_
                simp -implicitDefEqProofs (maxSteps := 1000000) (disch := omega) only [natOf_nat, iadm, ldm1, ldm2, stm0, stm1, stm2, wA, wA1, wS, wS1, wM, S2, op, ef, cl, sq, reduceIte, Int.reduceLT, Int.reduceLE, Int.reduceBEq, Int.reduceBNe, Int.reduceEq, Nat.reduceAdd, Nat.reduceLeDiff, Nat.reduceLT, Nat.reduceEqDiff, S1, callvB, h0, h1, h2, h3, h9, h10, h12, hkk, hd, lc, List.append_nil]
                refine callB_of _ _ _ _ _ _ _ _ (byName36 dx[k]! dx[k - 1]! _) ?_
                rintro u H3 ⟨hu, hx⟩
                cases hu
                have hx : Ext H2 H3 := hx
                have hd := hx.get hd
                have lc := glt hd
                have hfr := hfr.trans (ext_frm (F := fun _ => False) hx) (fun _ h => h.elim)
                have lt1 : ltM dx[k]! dx[k - 1]! = decide (cmpM dx[k]! dx[k - 1]! < 0) := rfl
                rw [shiftUp, if_pos hkk] at hk
                by_cases c1 : cmpM dx[k]! dx[k - 1]! < 0
                · simp -implicitDefEqProofs (maxSteps := 1000000) (disch := omega) only [natOf_nat, iadm, ldm1, ldm2, stm0, stm1, stm2, wA, wA1, wS, wS1, wM, S2, op, ef, cl, sq, reduceIte, Int.reduceLT, Int.reduceLE, Int.reduceBEq, Int.reduceBNe, Int.reduceEq, Nat.reduceAdd, Nat.reduceLeDiff, Nat.reduceLT, Nat.reduceEqDiff, S1, h0, h1, h2, h3, h9, h10, h12, hkk, hd, lc, c1]
                  rw [if_neg (not_t (lt1.trans (dect c1)))] at hk
                  exact ⟨k + 1, by omega, .i (.swp hd (by rw [swp_size]; exact hsz) hk hfr), rfl, by omega, by omega⟩
                · simp -implicitDefEqProofs (maxSteps := 1000000) (disch := omega) only [natOf_nat, iadm, ldm1, ldm2, stm0, stm1, stm2, wA, wA1, wS, wS1, wM, S2, op, ef, cl, sq, reduceIte, Int.reduceLT, Int.reduceLE, Int.reduceBEq, Int.reduceBNe, Int.reduceEq, Nat.reduceAdd, Nat.reduceLeDiff, Nat.reduceLT, Nat.reduceEqDiff, S1, h0, h1, h2, h3, h9, h10, h12, hkk, hd, lc, c1]
                  rw [if_pos (not_f (lt1.trans (decf c1)))] at hk
                  exact .i ⟨dx, hd, hsz, hk, hfr⟩
              · simp -implicitDefEqProofs only [op, ef, cl, sq, reduceIte, Int.reduceLT, Int.reduceLE, Int.reduceBEq, Int.reduceBNe, Int.reduceEq, Nat.reduceAdd, Nat.reduceLeDiff, Nat.reduceLT, Nat.reduceEqDiff, S1, h0, h1, h2, h3, h9, h10, h12, hkk]
                rw [shiftUp, if_neg hkk] at hk
                exact .i ⟨dx, hd, hsz, hk, hfr⟩
            · rintro R H2 ⟨⟨dx, hd, hsz, rfl, hfr⟩, h0, h1, h2, h3, h9, h10⟩
              simp -implicitDefEqProofs (maxSteps := 1000000) (disch := omega) only [natOf_nat, iadm, ldm1, ldm2, stm0, stm1, stm2, wA, wA1, wS, wS1, wM, S2, op, ef, cl, sq, reduceIte, Int.reduceLT, Int.reduceLE, Int.reduceBEq, Int.reduceBNe, Int.reduceEq, Nat.reduceAdd, Nat.reduceLeDiff, Nat.reduceLT, Nat.reduceEqDiff, S1, h0, h1, h2, h3, h9, h10]
              exact ⟨j + 1, by omega, .i ⟨si, rfl, by omega, by omega, dx, hd, hsz, by rw [hs5']; exact hP, hfr⟩, rfl, by omega⟩
          · rw [if_neg hB] at hd4
            subst hd4
            simp -implicitDefEqProofs (maxSteps := 1000000) (disch := omega) only [natOf_nat, iadm, ldm1, ldm2, stm0, stm1, stm2, wA, wA1, wS, wS1, wM, S2, op, ef, cl, sq, reduceIte, Int.reduceLT, Int.reduceLE, Int.reduceBEq, Int.reduceBNe, Int.reduceEq, Nat.reduceAdd, Nat.reduceLeDiff, Nat.reduceLT, Nat.reduceEqDiff, S1, h0, h1, h2, h3, h9, h10, hB]
            exact ⟨j + 1, by omega, .i ⟨si, rfl, by omega, by omega, d4, hd, hsz3, by rw [hs5']; exact hP, hfr⟩, rfl, by omega⟩
      · rw [if_neg hA] at hd3
        simp -implicitDefEqProofs (maxSteps := 1000000) (disch := omega) only [natOf_nat, iadm, ldm1, ldm2, stm0, stm1, stm2, wA, wA1, wS, wS1, wM, S2, op, ef, cl, sq, reduceIte, Int.reduceLT, Int.reduceLE, Int.reduceBEq, Int.reduceBNe, Int.reduceEq, Nat.reduceAdd, Nat.reduceLeDiff, Nat.reduceLT, Nat.reduceEqDiff, S1, h0, h1, h2, h3, h9, h10, hA]
        have hd := hd2
        have hsz3 := hs2
        have hfr := hf2
        rw [← hd3] at hd hsz3
        by_cases hB : 2 ≤ b - si
        · simp -implicitDefEqProofs (maxSteps := 1000000) (disch := omega) only [natOf_nat, iadm, ldm1, ldm2, stm0, stm1, stm2, wA, wA1, wS, wS1, wM, S2, op, ef, cl, sq, reduceIte, Int.reduceLT, Int.reduceLE, Int.reduceBEq, Int.reduceBNe, Int.reduceEq, Nat.reduceAdd, Nat.reduceLeDiff, Nat.reduceLT, Nat.reduceEqDiff, S1, h0, h1, h2, h3, h9, h10, hB]
          rw [if_pos hB] at hd4
          refine W.loopE 6 (fun (k : Nat) R H' => At H' (fun H' => SC c n H (fun dx => shiftUp ltM b k dx = d4) H') ∧ R 0 = .msl c 0 n 2 ∧ R 1 = .int .i64 a ∧ R 2 = .int .i64 b ∧ R 3 = .fn 36 [] ∧ R 9 = .int .i64 si ∧ R 10 = .int .i64 j ∧ R 12 = .int .i64 k ∧ 1 ≤ k ∧ k ≤ b) (fun k => b - k) (si + 1)
            (fun R H' => At H' (fun H' => SC c n H (fun dx => dx = d4) H') ∧ R 0 = .msl c 0 n 2 ∧ R 1 = .int .i64 a ∧ R 2 = .int .i64 b ∧ R 3 = .fn 36 [] ∧ R 9 = .int .i64 si ∧ R 10 = .int .i64 j) ⟨.i ⟨d3, hd, hsz3, hd4.symm, hfr⟩, ?_, ?_, ?_, ?_, ?_, ?_, ?_, by omega, by omega⟩ ?_ ?_
          · simp -implicitDefEqProofs only [op, ef, cl, sq, reduceIte, Int.reduceLT, Int.reduceLE, Int.reduceBEq, Int.reduceBNe, Int.reduceEq, Nat.reduceAdd, Nat.reduceLeDiff, Nat.reduceLT, Nat.reduceEqDiff, S1, h0]
          · simp -implicitDefEqProofs only [op, ef, cl, sq, reduceIte, Int.reduceLT, Int.reduceLE, Int.reduceBEq, Int.reduceBNe, Int.reduceEq, Nat.reduceAdd, Nat.reduceLeDiff, Nat.reduceLT, Nat.reduceEqDiff, S1, h1]
          · simp -implicitDefEqProofs only [op, ef, cl, sq, reduceIte, Int.reduceLT, Int.reduceLE, Int.reduceBEq, Int.reduceBNe, Int.reduceEq, Nat.reduceAdd, Nat.reduceLeDiff, Nat.reduceLT, Nat.reduceEqDiff, S1, h2]
          · simp -implicitDefEqProofs only [op, ef, cl, sq, reduceIte, Int.reduceLT, Int.reduceLE, Int.reduceBEq, Int.reduceBNe, Int.reduceEq, Nat.reduceAdd, Nat.reduceLeDiff, Nat.reduceLT, Nat.reduceEqDiff, S1, h3]
          · simp -implicitDefEqProofs only [op, ef, cl, sq, reduceIte, Int.reduceLT, Int.reduceLE, Int.reduceBEq, Int.reduceBNe, Int.reduceEq, Nat.reduceAdd, Nat.reduceLeDiff, Nat.reduceLT, Nat.reduceEqDiff, S1, h9]
          · simp -implicitDefEqProofs only [op, ef, cl, sq, reduceIte, Int.reduceLT, Int.reduceLE, Int.reduceBEq, Int.reduceBNe, Int.reduceEq, Nat.reduceAdd, Nat.reduceLeDiff, Nat.reduceLT, Nat.reduceEqDiff, S1, h10]
          · simp -implicitDefEqProofs only [op, ef, cl, sq, reduceIte, Int.reduceLT, Int.reduceLE, Int.reduceBEq, Int.reduceBNe, Int.reduceEq, Nat.reduceAdd, Nat.reduceLeDiff, Nat.reduceLT, Nat.reduceEqDiff, S1]
          · rintro k R H2 ⟨⟨dx, hd, hsz, hk, hfr⟩, h0, h1, h2, h3, h9, h10, h12, hk1, hkb⟩
            have lc := glt hd
            by_cases hkk : k < b
            · simp -implicitDefEqProofs (maxSteps := 1000000) (disch := omega) only [natOf_nat, iadm, ldm1, ldm2, stm0, stm1, stm2, wA, wA1, wS, wS1, wM, S2, op, ef, cl, sq, reduceIte, Int.reduceLT, Int.reduceLE, Int.reduceBEq, Int.reduceBNe, Int.reduceEq, Nat.reduceAdd, Nat.reduceLeDiff, Nat.reduceLT, Nat.reduceEqDiff, S1, h0, h1, h2, h3, h9, h10, h12, hkk, hd, lc]
              refine b_vg _ _ _ _ _ _ _ (by simp -implicitDefEqProofs (maxSteps := 1000000) (disch := omega) only [natOf_nat, iadm, ldm1, ldm2, stm0, stm1, stm2, wA, wA1, wS, wS1, wM, S2, op, ef, cl, sq, reduceIte, Int.reduceLT, Int.reduceLE, Int.reduceBEq, Int.reduceBNe, Int.reduceEq, Nat.reduceAdd, Nat.reduceLeDiff, Nat.reduceLT, Nat.reduceEqDiff, S1, h0, h1, h2, h3, h9, h10, h12, hkk, hd, lc]) ?_
              simp -implicitDefEqProofs (maxSteps := 1000000) (disch := omega) only [natOf_nat, iadm, ldm1, ldm2, stm0, stm1, stm2, wA, wA1, wS, wS1, wM, S2, op, ef, cl, sq, reduceIte, Int.reduceLT, Int.reduceLE, Int.reduceBEq, Int.reduceBNe, Int.reduceEq, Nat.reduceAdd, Nat.reduceLeDiff, Nat.reduceLT, Nat.reduceEqDiff, S1, callvB, h0, h1, h2, h3, h9, h10, h12, hkk, hd, lc, List.append_nil]
              refine callB_of _ _ _ _ _ _ _ _ (byName36 dx[k]! dx[k - 1]! _) ?_
              rintro u H3 ⟨hu, hx⟩
              cases hu
              have hx : Ext H2 H3 := hx
              have hd := hx.get hd
              have lc := glt hd
              have hfr := hfr.trans (ext_frm (F := fun _ => False) hx) (fun _ h => h.elim)
              have lt1 : ltM dx[k]! dx[k - 1]! = decide (cmpM dx[k]! dx[k - 1]! < 0) := rfl
              rw [shiftUp, if_pos hkk] at hk
              by_cases c1 : cmpM dx[k]! dx[k - 1]! < 0
              · simp -implicitDefEqProofs (maxSteps := 1000000) (disch := omega) only [natOf_nat, iadm, ldm1, ldm2, stm0, stm1, stm2, wA, wA1, wS, wS1, wM, S2, op, ef, cl, sq, reduceIte, Int.reduceLT, Int.reduceLE, Int.reduceBEq, Int.reduceBNe, Int.reduceEq, Nat.reduceAdd, Nat.reduceLeDiff, Nat.reduceLT, Nat.reduceEqDiff, S1, h0, h1, h2, h3, h9, h10, h12, hkk, hd, lc, c1]
                rw [if_neg (not_t (lt1.trans (dect c1)))] at hk
                exact ⟨k + 1, by omega, .i (.swp hd (by rw [swp_size]; exact hsz) hk hfr), rfl, by omega, by omega⟩
              · simp -implicitDefEqProofs (maxSteps := 1000000) (disch := omega) only [natOf_nat, iadm, ldm1, ldm2, stm0, stm1, stm2, wA, wA1, wS, wS1, wM, S2, op, ef, cl, sq, reduceIte, Int.reduceLT, Int.reduceLE, Int.reduceBEq, Int.reduceBNe, Int.reduceEq, Nat.reduceAdd, Nat.reduceLeDiff, Nat.reduceLT, Nat.reduceEqDiff, S1, h0, h1, h2, h3, h9, h10, h12, hkk, hd, lc, c1]
                rw [if_pos (not_f (lt1.trans (decf c1)))] at hk
                exact .i ⟨dx, hd, hsz, hk, hfr⟩
            · simp -implicitDefEqProofs only [op, ef, cl, sq, reduceIte, Int.reduceLT, Int.reduceLE, Int.reduceBEq, Int.reduceBNe, Int.reduceEq, Nat.reduceAdd, Nat.reduceLeDiff, Nat.reduceLT, Nat.reduceEqDiff, S1, h0, h1, h2, h3, h9, h10, h12, hkk]
              rw [shiftUp, if_neg hkk] at hk
              exact .i ⟨dx, hd, hsz, hk, hfr⟩
          · rintro R H2 ⟨⟨dx, hd, hsz, rfl, hfr⟩, h0, h1, h2, h3, h9, h10⟩
            simp -implicitDefEqProofs (maxSteps := 1000000) (disch := omega) only [natOf_nat, iadm, ldm1, ldm2, stm0, stm1, stm2, wA, wA1, wS, wS1, wM, S2, op, ef, cl, sq, reduceIte, Int.reduceLT, Int.reduceLE, Int.reduceBEq, Int.reduceBNe, Int.reduceEq, Nat.reduceAdd, Nat.reduceLeDiff, Nat.reduceLT, Nat.reduceEqDiff, S1, h0, h1, h2, h3, h9, h10]
            exact ⟨j + 1, by omega, .i ⟨si, rfl, by omega, by omega, dx, hd, hsz, by rw [hs5']; exact hP, hfr⟩, rfl, by omega⟩
        · rw [if_neg hB] at hd4
          subst hd4
          simp -implicitDefEqProofs (maxSteps := 1000000) (disch := omega) only [natOf_nat, iadm, ldm1, ldm2, stm0, stm1, stm2, wA, wA1, wS, wS1, wM, S2, op, ef, cl, sq, reduceIte, Int.reduceLT, Int.reduceLE, Int.reduceBEq, Int.reduceBNe, Int.reduceEq, Nat.reduceAdd, Nat.reduceLeDiff, Nat.reduceLT, Nat.reduceEqDiff, S1, h0, h1, h2, h3, h9, h10, hB]
          exact ⟨j + 1, by omega, .i ⟨si, rfl, by omega, by omega, d4, hd, hsz3, by rw [hs5']; exact hP, hfr⟩, rfl, by omega⟩
  · rintro R H1 ⟨di, hd, hsz, hP, hfr⟩
    simp -implicitDefEqProofs only [op, ef, cl, sq, reduceIte, Int.reduceLT, Int.reduceLE, Int.reduceBEq, Int.reduceBNe, Int.reduceEq, Nat.reduceAdd, Nat.reduceLeDiff, Nat.reduceLT, Nat.reduceEqDiff, S1]
    rw [← hP]
    exact ⟨rfl, di, hd, hsz, rfl, hfr⟩
end Go.Proofs.Ytbkgokabcnogdaa.St
end

/-! text StoreQ -/
section
namespace Go.Proofs.Ytbkgokabcnogdaa.St
open Go.Rmp Go.Proofs.Ytbkgokabcnogdaa.Ir
set_option maxRecDepth 10000
theorem ltM_iff (a b : Nm) : ltM a b = true ↔ strLt a.1 b.1 = true ∨ (a.1 = b.1 ∧ a.2 < b.2) := by
  unfold ltM cmpM or2 cmpS cmpN
  rw [decide_eq_true_eq]
  cases h1 : strLt a.1 b.1
  · cases h2 : strLt b.1 a.1
    · have e := lt_tri h1 h2
      simp -implicitDefEqProofs only [Bool.false_eq_true, if_false, if_true, false_or, e, true_and]
      split
      · simp [*]
      · split <;> simp [*]
    · have hne : a.1 ≠ b.1 := by intro e; rw [e, lt_irr] at h2; cases h2
      simp [hne]
  · simp
theorem ltM_irr (a : Nm) : ltM a a = false := by
  cases h : ltM a a with
  | false => rfl
  | true => rcases (ltM_iff a a).1 h with h | h; rw [lt_irr] at h; cases h; omega
theorem ltM_trans {a b c : Nm} (h1 : ltM a b = true) (h2 : ltM b c = true) : ltM a c = true := by
  rw [ltM_iff] at h1 h2 ⊢
  rcases h1 with h1 | ⟨e1, h1⟩ <;> rcases h2 with h2 | ⟨e2, h2⟩
  · exact .inl (lt_trans' h1 h2)
  · exact .inl (e2 ▸ h1)
  · exact .inl (e1 ▸ h2)
  · exact .inr ⟨e1.trans e2, by omega⟩
theorem ltM_tri {a b : Nm} (h1 : ltM a b = false) (h2 : ltM b a = false) : a = b := by
  have n1 : ¬ (strLt a.1 b.1 = true ∨ (a.1 = b.1 ∧ a.2 < b.2)) := fun h => by rw [(ltM_iff a b).2 h] at h1; cases h1
  have n2 : ¬ (strLt b.1 a.1 = true ∨ (b.1 = a.1 ∧ b.2 < a.2)) := fun h => by rw [(ltM_iff b a).2 h] at h2; cases h2
  have e1 : a.1 = b.1 := lt_tri (by cases h : strLt a.1 b.1 with | false => rfl | true => exact absurd (.inl h) n1) (by cases h : strLt b.1 a.1 with | false => rfl | true => exact absurd (.inl h) n2)
  have q1 : ¬ a.2 < b.2 := fun h => n1 (.inr ⟨e1, h⟩)
  have q2 : ¬ b.2 < a.2 := fun h => n2 (.inr ⟨e1.symm, h⟩)
  exact Prod.ext e1 (by omega)
theorem ltM_swo : Go.Sort.SWO ltM where
  irrefl := ltM_irr
  trans _ _ _ h1 h2 := ltM_trans h1 h2
  ntrans x y z h1 h2 := by
    cases h : ltM x z with
    | false => rfl
    | true =>
      cases h3 : ltM y x with
      | true => rw [ltM_trans h3 h] at h2; cases h2
      | false => have := ltM_tri h1 h3; subst this; rw [h] at h2; cases h2
/-- a sorted list of names -/
theorem sorted_list {d : Array Nm} (hn : d.toList.Nodup) : (Go.Sort.insertionSort ltM d 0 d.size).toList.Perm d.toList ∧ (Go.Sort.insertionSort ltM d 0 d.size).toList.Pairwise (fun a b => ltM a b = true) := by
  obtain ⟨⟨hs, _, hp⟩, hsort⟩ := Go.Sort.insertionSort_holds (lt := ltM) ltM_swo d 0 d.size (Nat.zero_le _) (Nat.le_refl _)
  have e1 : (Go.Sort.insertionSort ltM d 0 d.size).extract 0 d.size = Go.Sort.insertionSort ltM d 0 d.size := by
    conv => lhs; arg 3; rw [← hs]
    simp
  have hperm : (Go.Sort.insertionSort ltM d 0 d.size).toList.Perm d.toList := by
    rw [e1] at hp
    simpa using hp
  refine ⟨hperm, ?_⟩
  have hn2 : (Go.Sort.insertionSort ltM d 0 d.size).toList.Nodup := hperm.nodup_iff.2 hn
  rw [List.pairwise_iff_getElem]
  intro i j hi hj hij
  have h1 := hsort i j (Nat.zero_le _) hij (by rw [← hs]; simpa using hj)
  have gi := arr_get (d := Go.Sort.insertionSort ltM d 0 d.size) (i := i) (by simpa using hi)
  have gj := arr_get (d := Go.Sort.insertionSort ltM d 0 d.size) (i := j) (by simpa using hj)
  rw [List.getElem?_eq_getElem hi] at gi
  rw [List.getElem?_eq_getElem hj] at gj
  rw [Option.some.inj gi, Option.some.inj gj]
  cases h : ltM (Go.Sort.insertionSort ltM d 0 d.size)[i]! (Go.Sort.insertionSort ltM d 0 d.size)[j]! with
  | true => rfl
  | false =>
    have e := ltM_tri h h1
    rw [← Option.some.inj gi, ← Option.some.inj gj] at e
    have := (List.getElem_inj hn2).1 e
    omega
/-! nothing to sort -/
theorem ins75e (H : Heap) : W env (.call 75 [.sl .nil [], .int .i64 0, .int .i64 0, .fn 36 []]) H (Ret (.tup []) H) := by
  refine W.fnI rfl rfl rfl ?_
  have wa : IntKind.i64.wrap ((0 : Int) + 1) = 1 := by decide
  simp -implicitDefEqProofs only [ir75, op, ef, cl, sq, reduceIte, Int.reduceLT, Int.reduceLE, Int.reduceBEq, Int.reduceBNe, Int.reduceEq, Nat.reduceAdd, Nat.reduceLeDiff, Nat.reduceLT, Nat.reduceEqDiff, S1, wa]
  refine W.loopI (fun (_ : Nat) R H' => H' = H ∧ R 2 = .int .i64 0 ∧ R 8 = .int .i64 1) (fun _ => 0) 0 ⟨rfl, rfl, rfl⟩ ?_
  rintro _ R _ ⟨rfl, h2, h8⟩
  have l0 : ¬ ((1 : Int) < 0) := by decide
  simp -implicitDefEqProofs only [op, ef, cl, sq, reduceIte, Int.reduceLT, Int.reduceLE, Int.reduceBEq, Int.reduceBNe, Int.reduceEq, Nat.reduceAdd, Nat.reduceLeDiff, Nat.reduceLT, Nat.reduceEqDiff, S1, h2, h8, l0]
  trivial
theorem pdqE (m : Nat) (H : Heap) : W env (.call 64 [.sl .nil [], .int .i64 0, .int .i64 0, .int .i64 m, .fn 36 []]) H (Ret (.tup []) H) := by
  refine W.fnI rfl rfl rfl ?_
  have w1 : IntKind.i64.wrap ((0 : Int) - 0) = 0 := by decide
  simp -implicitDefEqProofs only [ir64, op, ef, cl, sq, reduceIte, Int.reduceLT, Int.reduceLE, Int.reduceBEq, Int.reduceBNe, Int.reduceEq, Nat.reduceAdd, Nat.reduceLeDiff, Nat.reduceLT, Nat.reduceEqDiff, S1]
  refine W.loopI (fun (_ : Nat) R H' => H' = H ∧ R 0 = .sl .nil [] ∧ R 1 = .int .i64 0 ∧ R 2 = .int .i64 0 ∧ R 4 = .fn 36 []) (fun _ => 0) 0 ⟨rfl, rfl, rfl, rfl, rfl⟩ ?_
  rintro _ R _ ⟨rfl, h0, h1, h2, h4⟩
  have l0 : (0 : Int) ≤ 12 := by decide
  simp -implicitDefEqProofs only [op, ef, cl, sq, reduceIte, Int.reduceLT, Int.reduceLE, Int.reduceBEq, Int.reduceBNe, Int.reduceEq, Nat.reduceAdd, Nat.reduceLeDiff, Nat.reduceLT, Nat.reduceEqDiff, S1, h0, h1, h2, h4, w1, l0]
  refine callB_of _ _ _ _ _ _ _ _ (ins75e _) ?_
  rintro u H2 ⟨hu, rfl⟩
  cases hu
  simp -implicitDefEqProofs only [op, ef, cl, sq, reduceIte, Int.reduceLT, Int.reduceLE, Int.reduceBEq, Int.reduceBNe, Int.reduceEq, Nat.reduceAdd, Nat.reduceLeDiff, Nat.reduceLT, Nat.reduceEqDiff, S1]
  trivial
theorem sortE (H : Heap) : W env (.call 49 [.sl .nil [], .fn 36 []]) H (Ret (.tup []) H) := by
  refine W.fnI rfl rfl rfl ?_
  have w1 : IntKind.u64.wrap ((0 : Nat) : Int) = ((0 : Nat) : Int) := by decide
  have e0 : ((0 : Nat) : Int) = 0 := rfl
  simp -implicitDefEqProofs only [ir49, op, ef, cl, sq, reduceIte, Int.reduceLT, Int.reduceLE, Int.reduceBEq, Int.reduceBNe, Int.reduceEq, Nat.reduceAdd, Nat.reduceLeDiff, Nat.reduceLT, Nat.reduceEqDiff, S1, w1]
  refine callB_of _ _ _ _ _ _ _ _ (lenN 0 (by omega) _) ?_
  rintro u H1 ⟨rfl, m, hu⟩
  cases hu
  simp -implicitDefEqProofs only [op, ef, cl, sq, reduceIte, Int.reduceLT, Int.reduceLE, Int.reduceBEq, Int.reduceBNe, Int.reduceEq, Nat.reduceAdd, Nat.reduceLeDiff, Nat.reduceLT, Nat.reduceEqDiff, S1, e0]
  refine callB_of _ _ _ _ _ _ _ _ (pdqE m _) ?_
  rintro u H2 ⟨hu, rfl⟩
  cases hu
  simp -implicitDefEqProofs only [op, ef, cl, sq, reduceIte, Int.reduceLT, Int.reduceLE, Int.reduceBEq, Int.reduceBNe, Int.reduceEq, Nat.reduceAdd, Nat.reduceLeDiff, Nat.reduceLT, Nat.reduceEqDiff, S1]
  trivial
def SortQ (es : List (Nm × T)) (H : Heap) : Out → Heap → Prop := fun o H' => Ext H H' ∧ ∃ t l, o = .val t ∧ Mut eN 2 H.length H' t l ∧ l.Perm (es.map (·.1)) ∧ l.Pairwise (fun a b => ltM a b = true)
theorem sorted34 (es : List (Nm × T)) (c mb : Nat) (H : Heap) (hnd : (es.map (·.1)).Nodup) (hes : es.length ≤ 12) (hc : H[c]? = some (.cells [.map mb])) (hm : H[mb]? = some (.map (encK kN es))) :
    W env (.call 34 [.fn 50 [.ptr c 0], .fn 36 []]) H (SortQ es H) := by
  refine W.fnI rfl rfl rfl ?_
  simp -implicitDefEqProofs only [ir34, op, ef, cl, sq, reduceIte, Int.reduceLT, Int.reduceLE, Int.reduceBEq, Int.reduceBNe, Int.reduceEq, Nat.reduceAdd, Nat.reduceLeDiff, Nat.reduceLT, Nat.reduceEqDiff, S1]
  refine callB_of _ _ _ _ _ _ _ _ (coll48 es c mb H hnd (by omega) hc hm) ?_
  rintro u H1 ⟨hx, t, vis, hu, hmt, hri⟩
  cases hu
  have hperm : vis.Perm (es.map (·.1)) := (List.perm_ext_iff_of_nodup hri.nvis hnd).2 fun k => hri.end' k
  have hvl : vis.length = es.length := by have := hri.len; simpa using this
  rcases hmt with ⟨rfl, rfl⟩ | ⟨d, rfl, hd, hdn⟩
  · simp -implicitDefEqProofs only [op, ef, cl, sq, reduceIte, Int.reduceLT, Int.reduceLE, Int.reduceBEq, Int.reduceBNe, Int.reduceEq, Nat.reduceAdd, Nat.reduceLeDiff, Nat.reduceLT, Nat.reduceEqDiff, S1]
    refine callB_of _ _ _ _ _ _ _ _ (sortE _) ?_
    rintro u H2 ⟨hu, rfl⟩
    cases hu
    simp -implicitDefEqProofs only [op, ef, cl, sq, reduceIte, Int.reduceLT, Int.reduceLE, Int.reduceBEq, Int.reduceBNe, Int.reduceEq, Nat.reduceAdd, Nat.reduceLeDiff, Nat.reduceLT, Nat.reduceEqDiff, S1]
    exact ⟨hx, _, [], rfl, mut_nil _ _ _ _, hperm, List.Pairwise.nil⟩
  · simp -implicitDefEqProofs only [op, ef, cl, sq, reduceIte, Int.reduceLT, Int.reduceLE, Int.reduceBEq, Int.reduceBNe, Int.reduceEq, Nat.reduceAdd, Nat.reduceLeDiff, Nat.reduceLT, Nat.reduceEqDiff, S1]
    have := sortS d vis.toArray H1 (by simpa using hd) (by simpa using (by omega : vis.length ≤ 12))
    simp -implicitDefEqProofs only [List.size_toArray] at this
    refine callB_of _ _ _ _ _ _ _ _ this ?_
    rintro u H2 ⟨hu, h2, hfr⟩
    cases hu
    simp -implicitDefEqProofs only [op, ef, cl, sq, reduceIte, Int.reduceLT, Int.reduceLE, Int.reduceBEq, Int.reduceBNe, Int.reduceEq, Nat.reduceAdd, Nat.reduceLeDiff, Nat.reduceLT, Nat.reduceEqDiff, S1]
    have hs := sorted_list (d := vis.toArray) (by simpa using hri.nvis)
    simp -implicitDefEqProofs only [List.size_toArray] at hs
    refine ⟨ext_of fun a x hax => hfr.get (hx.get hax) (by have := glt hax; omega), _, _, rfl, .inr ⟨d, ?_, h2, hdn⟩, hs.1.trans hperm, hs.2⟩
    rw [hs.1.length_eq]
end Go.Proofs.Ytbkgokabcnogdaa.St
end

/-! text StoreXi -/
section
namespace Go.Proofs.Ytbkgokabcnogdaa.St
open Go.Rmp Go.Proofs.Ytbkgokabcnogdaa.Ir
set_option maxRecDepth 10000
set_option maxHeartbeats 8000000
def bkOf : C → Nat → Option C
  | .block id a, n => if id = n then some a else bkOf a n
  | .seq a b, n => match bkOf a n with | some c => some c | .none => bkOf b n
  | .cond _ a b, n => match bkOf a n with | some c => some c | .none => bkOf b n
  | .loop a, n => bkOf a n
  | _, _ => .none
def seqN : C → Nat → C
  | .seq a _, 0 => a
  | .seq _ b, k + 1 => seqN b k
  | c, _ => c
/-- the registers of pdqsort's loop -/
structure PR (R : Regs) (c n a b lim : Nat) (wb wp : Bool) : Prop where
  r0 : R 0 = .msl c 0 n 2
  r1 : R 1 = .int .i64 a
  r2 : R 2 = .int .i64 b
  r3 : R 3 = .int .i64 lim
  r4 : R 4 = .fn 36 []
  r10 : R 10 = .bool wb
  r11 : R 11 = .bool wp
  r12 : R 12 = .int .i64 (b - a : Nat)
open Go.Sort in
theorem seg3 (A : C) (hA : (bkOf ir64.body 1).map (seqN · 3) = some A) (c n a b lim : Nat) (wb wp : Bool) (d : Array Nm) (R : Regs) (H0 H : Heap) (K : Out → Heap → Prop) (hp : PR R c n a b lim wb wp) (hd : SC c n H0 (fun x => x = d) H) (hb : b ≤ n) (hab : a + 12 < b) (hs : n < 16777216) (hl : 1 ≤ lim ∧ lim < 1000)
    (rest : ∀ R' H', PR R' c n a b (if (!wb) = true then lim - 1 else lim) wb wp → SC c n H0 (fun x => x = if (!wb) = true then breakPatterns d a b else d) H' → K (.ex .normal R') H') : wpC env A R H K := by
  simp [ir64, bkOf, seqN, sq] at hA
  subst hA
  obtain ⟨h0, h1, h2, h3, h4, h10, h11, h12⟩ := hp
  obtain ⟨di, hc, hn, rfl, hfr⟩ := hd
  cases wb with
  | true =>
    simp -implicitDefEqProofs (maxSteps := 1000000) (disch := omega) only [op, ef, cl, sq, reduceIte, Int.reduceLT, Int.reduceLE, Int.reduceBEq, Int.reduceBNe, Int.reduceEq, Nat.reduceAdd, Nat.reduceLeDiff, Nat.reduceLT, Nat.reduceEqDiff, S1, h0, h1, h2, h3, h4, h10, h11, h12]
    exact rest _ _ ⟨by simp -implicitDefEqProofs only [op, ef, cl, sq, reduceIte, Int.reduceLT, Int.reduceLE, Int.reduceBEq, Int.reduceBNe, Int.reduceEq, Nat.reduceAdd, Nat.reduceLeDiff, Nat.reduceLT, Nat.reduceEqDiff, S1, h0], by simp -implicitDefEqProofs only [op, ef, cl, sq, reduceIte, Int.reduceLT, Int.reduceLE, Int.reduceBEq, Int.reduceBNe, Int.reduceEq, Nat.reduceAdd, Nat.reduceLeDiff, Nat.reduceLT, Nat.reduceEqDiff, S1, h1], by simp -implicitDefEqProofs only [op, ef, cl, sq, reduceIte, Int.reduceLT, Int.reduceLE, Int.reduceBEq, Int.reduceBNe, Int.reduceEq, Nat.reduceAdd, Nat.reduceLeDiff, Nat.reduceLT, Nat.reduceEqDiff, S1, h2], by simp -implicitDefEqProofs only [op, ef, cl, sq, reduceIte, Int.reduceLT, Int.reduceLE, Int.reduceBEq, Int.reduceBNe, Int.reduceEq, Nat.reduceAdd, Nat.reduceLeDiff, Nat.reduceLT, Nat.reduceEqDiff, S1, h3], by simp -implicitDefEqProofs only [op, ef, cl, sq, reduceIte, Int.reduceLT, Int.reduceLE, Int.reduceBEq, Int.reduceBNe, Int.reduceEq, Nat.reduceAdd, Nat.reduceLeDiff, Nat.reduceLT, Nat.reduceEqDiff, S1, h4], by simp -implicitDefEqProofs only [op, ef, cl, sq, reduceIte, Int.reduceLT, Int.reduceLE, Int.reduceBEq, Int.reduceBNe, Int.reduceEq, Nat.reduceAdd, Nat.reduceLeDiff, Nat.reduceLT, Nat.reduceEqDiff, S1, h10], by simp -implicitDefEqProofs only [op, ef, cl, sq, reduceIte, Int.reduceLT, Int.reduceLE, Int.reduceBEq, Int.reduceBNe, Int.reduceEq, Nat.reduceAdd, Nat.reduceLeDiff, Nat.reduceLT, Nat.reduceEqDiff, S1, h11], by simp -implicitDefEqProofs only [op, ef, cl, sq, reduceIte, Int.reduceLT, Int.reduceLE, Int.reduceBEq, Int.reduceBNe, Int.reduceEq, Nat.reduceAdd, Nat.reduceLeDiff, Nat.reduceLT, Nat.reduceEqDiff, S1, h12]⟩ ⟨di, hc, hn, rfl, hfr⟩
  | false =>
    simp -implicitDefEqProofs (maxSteps := 1000000) (disch := omega) only [op, ef, cl, sq, reduceIte, Int.reduceLT, Int.reduceLE, Int.reduceBEq, Int.reduceBNe, Int.reduceEq, Nat.reduceAdd, Nat.reduceLeDiff, Nat.reduceLT, Nat.reduceEqDiff, S1, h0, h1, h2, h3, h4, h10, h11, h12]
    refine callB_of _ _ _ _ _ _ _ _ (break77 c n di a b _ hn hc hb hab hs) ?_
    rintro u H2 ⟨hu, d2, hd2, hs2, e2, hf2⟩
    cases hu
    simp -implicitDefEqProofs (maxSteps := 1000000) (disch := omega) only [natOf_nat, iadm, ldm1, ldm2, stm0, stm1, stm2, wA, wA1, wS, wS1, wM, S2, op, ef, cl, sq, reduceIte, Int.reduceLT, Int.reduceLE, Int.reduceBEq, Int.reduceBNe, Int.reduceEq, Nat.reduceAdd, Nat.reduceLeDiff, Nat.reduceLT, Nat.reduceEqDiff, S1, h0, h1, h2, h3, h4, h10, h11, h12]
    exact rest _ _ ⟨by simp -implicitDefEqProofs only [op, ef, cl, sq, reduceIte, Int.reduceLT, Int.reduceLE, Int.reduceBEq, Int.reduceBNe, Int.reduceEq, Nat.reduceAdd, Nat.reduceLeDiff, Nat.reduceLT, Nat.reduceEqDiff, S1, h0], by simp -implicitDefEqProofs only [op, ef, cl, sq, reduceIte, Int.reduceLT, Int.reduceLE, Int.reduceBEq, Int.reduceBNe, Int.reduceEq, Nat.reduceAdd, Nat.reduceLeDiff, Nat.reduceLT, Nat.reduceEqDiff, S1, h1], by simp -implicitDefEqProofs only [op, ef, cl, sq, reduceIte, Int.reduceLT, Int.reduceLE, Int.reduceBEq, Int.reduceBNe, Int.reduceEq, Nat.reduceAdd, Nat.reduceLeDiff, Nat.reduceLT, Nat.reduceEqDiff, S1, h2], by simp -implicitDefEqProofs only [op, ef, cl, sq, reduceIte, Int.reduceLT, Int.reduceLE, Int.reduceBEq, Int.reduceBNe, Int.reduceEq, Nat.reduceAdd, Nat.reduceLeDiff, Nat.reduceLT, Nat.reduceEqDiff, S1], by simp -implicitDefEqProofs only [op, ef, cl, sq, reduceIte, Int.reduceLT, Int.reduceLE, Int.reduceBEq, Int.reduceBNe, Int.reduceEq, Nat.reduceAdd, Nat.reduceLeDiff, Nat.reduceLT, Nat.reduceEqDiff, S1, h4], by simp -implicitDefEqProofs only [op, ef, cl, sq, reduceIte, Int.reduceLT, Int.reduceLE, Int.reduceBEq, Int.reduceBNe, Int.reduceEq, Nat.reduceAdd, Nat.reduceLeDiff, Nat.reduceLT, Nat.reduceEqDiff, S1, h10], by simp -implicitDefEqProofs only [op, ef, cl, sq, reduceIte, Int.reduceLT, Int.reduceLE, Int.reduceBEq, Int.reduceBNe, Int.reduceEq, Nat.reduceAdd, Nat.reduceLeDiff, Nat.reduceLT, Nat.reduceEqDiff, S1, h11], by simp -implicitDefEqProofs only [op, ef, cl, sq, reduceIte, Int.reduceLT, Int.reduceLE, Int.reduceBEq, Int.reduceBNe, Int.reduceEq, Nat.reduceAdd, Nat.reduceLeDiff, Nat.reduceLT, Nat.reduceEqDiff, S1, h12]⟩ ⟨d2, hd2, hs2, e2, hfr.trans hf2 fun _ h => .inl h⟩
open Go.Sort in
theorem seg5 (A : C) (hA : (bkOf ir64.body 1).map (seqN · 5) = some A) (c n a b lim : Nat) (wb wp : Bool) (d : Array Nm) (pv : Nat) (hi : Hint) (R : Regs) (H0 H : Heap) (K : Out → Heap → Prop) (hp : PR R c n a b lim wb wp) (h13 : R 13 = .int .i64 pv) (h14 : R 14 = .int .i64 (hintN hi)) (hd : SC c n H0 (fun x => x = d) H) (hb : b ≤ n) (hab : a + 12 < b) (hs : n < 16777216) (hpv : a ≤ pv ∧ pv < b)
    (rest : ∀ R' H', PR R' c n a b lim wb wp → R' 13 = .int .i64 (if hi = .decreasing then (b - 1) - (pv - a) else pv : Nat) → R' 14 = .int .i64 (hintN (if hi = .decreasing then Hint.increasing else hi)) → SC c n H0 (fun x => x = if hi = .decreasing then reverseRange d a b else d) H' → K (.ex .normal R') H') : wpC env A R H K := by
  simp [ir64, bkOf, seqN, sq] at hA
  subst hA
  obtain ⟨h0, h1, h2, h3, h4, h10, h11, h12⟩ := hp
  obtain ⟨di, hc, hn, rfl, hfr⟩ := hd
  have e : ((hintN hi) == 2) = decide (hi = .decreasing) := by cases hi <;> decide
  by_cases hh : hi = .decreasing
  · rw [decide_eq_true hh] at e
    simp -implicitDefEqProofs (maxSteps := 1000000) (disch := omega) only [op, ef, cl, sq, reduceIte, Int.reduceLT, Int.reduceLE, Int.reduceBEq, Int.reduceBNe, Int.reduceEq, Nat.reduceAdd, Nat.reduceLeDiff, Nat.reduceLT, Nat.reduceEqDiff, S1, h0, h1, h2, h3, h4, h10, h11, h12, h13, h14, e]
    refine callB_of _ _ _ _ _ _ _ _ (rev79 c n di a b _ hn hc hb (by omega) (by omega)) ?_
    rintro u H2 ⟨hu, d2, hd2, hs2, e2, hf2⟩
    cases hu
    simp -implicitDefEqProofs (maxSteps := 1000000) (disch := omega) only [natOf_nat, iadm, ldm1, ldm2, stm0, stm1, stm2, wA, wA1, wS, wS1, wM, S2, op, ef, cl, sq, reduceIte, Int.reduceLT, Int.reduceLE, Int.reduceBEq, Int.reduceBNe, Int.reduceEq, Nat.reduceAdd, Nat.reduceLeDiff, Nat.reduceLT, Nat.reduceEqDiff, S1, h0, h1, h2, h3, h4, h10, h11, h12, h13, h14]
    refine rest _ _ ⟨?_, ?_, ?_, ?_, ?_, ?_, ?_, ?_⟩ ?_ ?_ ⟨d2, hd2, hs2, ?_, hfr.trans hf2 fun _ h => .inl h⟩
    all_goals simp -implicitDefEqProofs only [op, ef, cl, sq, reduceIte, Int.reduceLT, Int.reduceLE, Int.reduceBEq, Int.reduceBNe, Int.reduceEq, Nat.reduceAdd, Nat.reduceLeDiff, Nat.reduceLT, Nat.reduceEqDiff, S1, h0, h1, h2, h3, h4, h10, h11, h12, if_pos hh, hintN]
    exact e2
  · rw [decide_eq_false hh] at e
    simp -implicitDefEqProofs (maxSteps := 1000000) (disch := omega) only [op, ef, cl, sq, reduceIte, Int.reduceLT, Int.reduceLE, Int.reduceBEq, Int.reduceBNe, Int.reduceEq, Nat.reduceAdd, Nat.reduceLeDiff, Nat.reduceLT, Nat.reduceEqDiff, S1, h0, h1, h2, h3, h4, h10, h11, h12, h13, h14, e]
    refine rest _ _ ⟨?_, ?_, ?_, ?_, ?_, ?_, ?_, ?_⟩ ?_ ?_ ⟨di, hc, hn, ?_, hfr⟩
    all_goals simp -implicitDefEqProofs only [op, ef, cl, sq, reduceIte, Int.reduceLT, Int.reduceLE, Int.reduceBEq, Int.reduceBNe, Int.reduceEq, Nat.reduceAdd, Nat.reduceLeDiff, Nat.reduceLT, Nat.reduceEqDiff, S1, h0, h1, h2, h3, h4, h10, h11, h12, h13, h14, if_neg hh]
open Go.Sort in
theorem seg6 (A : C) (hA : (bkOf ir64.body 1).map (seqN · 6) = some A) (c n a b lim : Nat) (wb wp : Bool) (d : Array Nm) (pv : Nat) (hi : Hint) (R : Regs) (H0 H : Heap) (K : Out → Heap → Prop) (hp : PR R c n a b lim wb wp) (h13 : R 13 = .int .i64 pv) (h14 : R 14 = .int .i64 (hintN hi)) (hd : SC c n H0 (fun x => x = d) H) (hb : b ≤ n) (hab : a + 12 < b) (hs : n < 16777216)
    (pi : Array Nm × Bool) (hpi : pi = if (wb && wp && hi = .increasing) = true then partialInsertionSort ltM d a b else (d, false))
    (rest1 : ∀ R' H', pi.2 = true → SC c n H0 (fun x => x = pi.1) H' → K (.ex .ret R') H')
    (rest2 : ∀ R' H', pi.2 = false → PR R' c n a b lim wb wp → R' 13 = .int .i64 pv → SC c n H0 (fun x => x = pi.1) H' → K (.ex .normal R') H') : wpC env A R H K := by
  simp [ir64, bkOf, seqN, sq] at hA
  subst hA
  obtain ⟨h0, h1, h2, h3, h4, h10, h11, h12⟩ := hp
  obtain ⟨di, hc, hn, rfl, hfr⟩ := hd
  have e : ((hintN hi) == 1) = decide (hi = .increasing) := by cases hi <;> decide
  have no : (wb && wp && decide (hi = .increasing)) = false → ∀ R', PR R' c n a b lim wb wp → R' 13 = .int .i64 pv → K (.ex .normal R') H := fun h R' q q' => rest2 R' H (by rw [hpi, h]; rfl) q q' ⟨di, hc, hn, by rw [hpi, h]; rfl, hfr⟩
  cases wb with
  | false =>
    simp -implicitDefEqProofs only [op, ef, cl, sq, reduceIte, Int.reduceLT, Int.reduceLE, Int.reduceBEq, Int.reduceBNe, Int.reduceEq, Nat.reduceAdd, Nat.reduceLeDiff, Nat.reduceLT, Nat.reduceEqDiff, S1, h0, h1, h2, h3, h4, h10, h11, h12, h13, h14]
    refine no rfl _ ⟨?_, ?_, ?_, ?_, ?_, ?_, ?_, ?_⟩ ?_
    all_goals simp -implicitDefEqProofs only [op, ef, cl, sq, reduceIte, Int.reduceLT, Int.reduceLE, Int.reduceBEq, Int.reduceBNe, Int.reduceEq, Nat.reduceAdd, Nat.reduceLeDiff, Nat.reduceLT, Nat.reduceEqDiff, S1, h0, h1, h2, h3, h4, h10, h11, h12, h13]
  | true =>
    cases wp with
    | false =>
      simp -implicitDefEqProofs only [op, ef, cl, sq, reduceIte, Int.reduceLT, Int.reduceLE, Int.reduceBEq, Int.reduceBNe, Int.reduceEq, Nat.reduceAdd, Nat.reduceLeDiff, Nat.reduceLT, Nat.reduceEqDiff, S1, h0, h1, h2, h3, h4, h10, h11, h12, h13, h14]
      refine no rfl _ ⟨?_, ?_, ?_, ?_, ?_, ?_, ?_, ?_⟩ ?_
      all_goals simp -implicitDefEqProofs only [op, ef, cl, sq, reduceIte, Int.reduceLT, Int.reduceLE, Int.reduceBEq, Int.reduceBNe, Int.reduceEq, Nat.reduceAdd, Nat.reduceLeDiff, Nat.reduceLT, Nat.reduceEqDiff, S1, h0, h1, h2, h3, h4, h10, h11, h12, h13]
    | true =>
      by_cases hh : hi = .increasing
      · rw [decide_eq_true hh] at e
        rw [decide_eq_true hh] at hpi
        simp -implicitDefEqProofs only [op, ef, cl, sq, reduceIte, Int.reduceLT, Int.reduceLE, Int.reduceBEq, Int.reduceBNe, Int.reduceEq, Nat.reduceAdd, Nat.reduceLeDiff, Nat.reduceLT, Nat.reduceEqDiff, S1, h0, h1, h2, h3, h4, h10, h11, h12, h13, h14, e]
        refine callB_of _ _ _ _ _ _ _ _ (pins80 c n di a b _ hn hc hb (by omega) (by omega)) ?_
        rintro u H2 ⟨hu, d2, hd2, hs2, e2, hf2⟩
        cases hu
        rw [if_pos (show (true && true && true) = true from rfl)] at hpi
        rw [← hpi] at e2 ⊢
        cases hb2 : pi.2 with
        | true =>
          simp -implicitDefEqProofs only [op, ef, cl, sq, reduceIte, Int.reduceLT, Int.reduceLE, Int.reduceBEq, Int.reduceBNe, Int.reduceEq, Nat.reduceAdd, Nat.reduceLeDiff, Nat.reduceLT, Nat.reduceEqDiff, S1]
          exact rest1 _ _ hb2 ⟨d2, hd2, hs2, e2, hfr.trans hf2 fun _ h => .inl h⟩
        | false =>
          simp -implicitDefEqProofs only [op, ef, cl, sq, reduceIte, Int.reduceLT, Int.reduceLE, Int.reduceBEq, Int.reduceBNe, Int.reduceEq, Nat.reduceAdd, Nat.reduceLeDiff, Nat.reduceLT, Nat.reduceEqDiff, S1]
          refine rest2 _ _ hb2 ⟨?_, ?_, ?_, ?_, ?_, ?_, ?_, ?_⟩ ?_ ⟨d2, hd2, hs2, e2, hfr.trans hf2 fun _ h => .inl h⟩
          all_goals simp -implicitDefEqProofs only [op, ef, cl, sq, reduceIte, Int.reduceLT, Int.reduceLE, Int.reduceBEq, Int.reduceBNe, Int.reduceEq, Nat.reduceAdd, Nat.reduceLeDiff, Nat.reduceLT, Nat.reduceEqDiff, S1, h0, h1, h2, h3, h4, h10, h11, h12, h13]
      · rw [decide_eq_false hh] at e
        simp -implicitDefEqProofs only [op, ef, cl, sq, reduceIte, Int.reduceLT, Int.reduceLE, Int.reduceBEq, Int.reduceBNe, Int.reduceEq, Nat.reduceAdd, Nat.reduceLeDiff, Nat.reduceLT, Nat.reduceEqDiff, S1, h0, h1, h2, h3, h4, h10, h11, h12, h13, h14, e]
        refine no (by rw [decide_eq_false hh]; rfl) _ ⟨?_, ?_, ?_, ?_, ?_, ?_, ?_, ?_⟩ ?_
        all_goals simp -implicitDefEqProofs only [op, ef, cl, sq, reduceIte, Int.reduceLT, Int.reduceLE, Int.reduceBEq, Int.reduceBNe, Int.reduceEq, Nat.reduceAdd, Nat.reduceLeDiff, Nat.reduceLT, Nat.reduceEqDiff, S1, h0, h1, h2, h3, h4, h10, h11, h12, h13]
open Go.Sort in
theorem seg7 (A : C) (hA : (bkOf ir64.body 1).map (seqN · 7) = some A) (c n a b lim : Nat) (wb wp : Bool) (d : Array Nm) (pv : Nat) (R : Regs) (H0 H : Heap) (K : Out → Heap → Prop) (hp : PR R c n a b lim wb wp) (h13 : R 13 = .int .i64 pv) (hd : SC c n H0 (fun x => x = d) H) (hb : b ≤ n) (hab : a + 12 < b) (hs : n < 16777216) (hpv : a ≤ pv ∧ pv < b)
    (rest1 : ∀ R' H', (a > 0 && !ltM d[a - 1]! d[pv]!) = true → R' 0 = .msl c 0 n 2 → R' 1 = .int .i64 (partitionEqual ltM d a b pv).1 → R' 2 = .int .i64 b → R' 3 = .int .i64 lim → R' 4 = .fn 36 [] → R' 10 = .bool wb → R' 11 = .bool wp → SC c n H0 (fun x => x = (partitionEqual ltM d a b pv).2) H' → K (.ex (.exit 1) R') H')
    (rest2 : ∀ R' H', (a > 0 && !ltM d[a - 1]! d[pv]!) = false → PR R' c n a b lim wb wp → R' 13 = .int .i64 pv → SC c n H0 (fun x => x = d) H' → K (.ex .normal R') H') : wpC env A R H K := by
  simp [ir64, bkOf, seqN, sq] at hA
  subst hA
  obtain ⟨h0, h1, h2, h3, h4, h10, h11, h12⟩ := hp
  obtain ⟨di, hd, hn, rfl, hfr⟩ := hd
  have lc := glt hd
  by_cases ha : 0 < a
  · simp -implicitDefEqProofs (maxSteps := 1000000) (disch := omega) only [natOf_nat, iadm, ldm1, ldm2, stm0, stm1, stm2, wA, wA1, wS, wS1, wM, S2, op, ef, cl, sq, reduceIte, Int.reduceLT, Int.reduceLE, Int.reduceBEq, Int.reduceBNe, Int.reduceEq, Nat.reduceAdd, Nat.reduceLeDiff, Nat.reduceLT, Nat.reduceEqDiff, S1, h0, h1, h2, h3, h4, h10, h11, h12, h13, ha, hd, lc]
    refine b_vg _ _ _ _ _ _ _ (by simp -implicitDefEqProofs (maxSteps := 1000000) (disch := omega) only [natOf_nat, iadm, ldm1, ldm2, stm0, stm1, stm2, wA, wA1, wS, wS1, wM, S2, op, ef, cl, sq, reduceIte, Int.reduceLT, Int.reduceLE, Int.reduceBEq, Int.reduceBNe, Int.reduceEq, Nat.reduceAdd, Nat.reduceLeDiff, Nat.reduceLT, Nat.reduceEqDiff, S1, h0, h1, h2, h3, h4, h10, h11, h12, h13, ha, hd, lc]) ?_
    simp -implicitDefEqProofs (maxSteps := 1000000) (disch := omega) only [natOf_nat, iadm, ldm1, ldm2, stm0, stm1, stm2, wA, wA1, wS, wS1, wM, S2, op, ef, cl, sq, reduceIte, Int.reduceLT, Int.reduceLE, Int.reduceBEq, Int.reduceBNe, Int.reduceEq, Nat.reduceAdd, Nat.reduceLeDiff, Nat.reduceLT, Nat.reduceEqDiff, S1, callvB, h0, h1, h2, h3, h4, h10, h11, h12, h13, ha, hd, lc, List.append_nil]
    refine callB_of _ _ _ _ _ _ _ _ (byName36 di[a - 1]! di[pv]! _) ?_
    rintro u H3 ⟨hu, hx⟩
    cases hu
    have hx : Ext H H3 := hx
    have hd := hx.get hd
    have lc := glt hd
    have hfr := hfr.trans (ext_frm (F := fun _ => False) hx) (fun _ h => h.elim)
    have lt1 : ltM di[a - 1]! di[pv]! = decide (cmpM di[a - 1]! di[pv]! < 0) := rfl
    by_cases c1 : cmpM di[a - 1]! di[pv]! < 0
    · simp -implicitDefEqProofs (maxSteps := 1000000) (disch := omega) only [natOf_nat, iadm, ldm1, ldm2, stm0, stm1, stm2, wA, wA1, wS, wS1, wM, S2, op, ef, cl, sq, reduceIte, Int.reduceLT, Int.reduceLE, Int.reduceBEq, Int.reduceBNe, Int.reduceEq, Nat.reduceAdd, Nat.reduceLeDiff, Nat.reduceLT, Nat.reduceEqDiff, S1, h0, h1, h2, h3, h4, h10, h11, h12, h13, ha, hd, lc, c1]
      refine rest2 _ _ (by rw [lt1, dect c1]; simp) ⟨?_, ?_, ?_, ?_, ?_, ?_, ?_, ?_⟩ ?_ ⟨di, hd, hn, rfl, hfr⟩
      all_goals simp -implicitDefEqProofs only [op, ef, cl, sq, reduceIte, Int.reduceLT, Int.reduceLE, Int.reduceBEq, Int.reduceBNe, Int.reduceEq, Nat.reduceAdd, Nat.reduceLeDiff, Nat.reduceLT, Nat.reduceEqDiff, S1, h0, h1, h2, h3, h4, h10, h11, h12, h13]
    · simp -implicitDefEqProofs (maxSteps := 1000000) (disch := omega) only [natOf_nat, iadm, ldm1, ldm2, stm0, stm1, stm2, wA, wA1, wS, wS1, wM, S2, op, ef, cl, sq, reduceIte, Int.reduceLT, Int.reduceLE, Int.reduceBEq, Int.reduceBNe, Int.reduceEq, Nat.reduceAdd, Nat.reduceLeDiff, Nat.reduceLT, Nat.reduceEqDiff, S1, h0, h1, h2, h3, h4, h10, h11, h12, h13, ha, hd, lc, c1]
      refine callB_of _ _ _ _ _ _ _ _ (peq81 c n di a b pv _ hn hd hb (by omega) (by omega) (by omega)) ?_
      rintro u H4 ⟨hu, d2, hd2, hs2, e2, hf2⟩
      cases hu
      simp -implicitDefEqProofs only [op, ef, cl, sq, reduceIte, Int.reduceLT, Int.reduceLE, Int.reduceBEq, Int.reduceBNe, Int.reduceEq, Nat.reduceAdd, Nat.reduceLeDiff, Nat.reduceLT, Nat.reduceEqDiff, S1]
      refine rest1 _ _ (by rw [lt1, decf c1]; simp; exact ha) ?_ ?_ ?_ ?_ ?_ ?_ ?_ ⟨d2, hd2, hs2, e2, hfr.trans hf2 fun _ h => .inl h⟩
      all_goals simp -implicitDefEqProofs only [op, ef, cl, sq, reduceIte, Int.reduceLT, Int.reduceLE, Int.reduceBEq, Int.reduceBNe, Int.reduceEq, Nat.reduceAdd, Nat.reduceLeDiff, Nat.reduceLT, Nat.reduceEqDiff, S1, h0, h1, h2, h3, h4, h10, h11, h12, h13]
  · simp -implicitDefEqProofs only [op, ef, cl, sq, reduceIte, Int.reduceLT, Int.reduceLE, Int.reduceBEq, Int.reduceBNe, Int.reduceEq, Nat.reduceAdd, Nat.reduceLeDiff, Nat.reduceLT, Nat.reduceEqDiff, S1, h0, h1, h2, h3, h4, h10, h11, h12, h13, ha]
    refine rest2 _ _ (by rw [decide_eq_false ha]; rfl) ⟨?_, ?_, ?_, ?_, ?_, ?_, ?_, ?_⟩ ?_ ⟨di, hd, hn, rfl, hfr⟩
    all_goals simp -implicitDefEqProofs only [op, ef, cl, sq, reduceIte, Int.reduceLT, Int.reduceLE, Int.reduceBEq, Int.reduceBNe, Int.reduceEq, Nat.reduceAdd, Nat.reduceLeDiff, Nat.reduceLT, Nat.reduceEqDiff, S1, h0, h1, h2, h3, h4, h10, h11, h12, h13]
end Go.Proofs.Ytbkgokabcnogdaa.St
end

/-! text StoreXj -/
section
namespace Go.Proofs.Ytbkgokabcnogdaa.St
open Go.Rmp Go.Proofs.Ytbkgokabcnogdaa.Ir
set_option maxRecDepth 10000
set_option maxHeartbeats 8000000
def seqT : C → Nat → C
  | c, 0 => c
  | .seq _ b, k + 1 => seqT b k
  | c, _ => c
open Go.Sort in
theorem pdq_step {d d1 d2 : Array Nm} {a b lim lim1 pv : Nat} {wb wp : Bool} {cp : Nat × Hint} {hi : Hint} {pi : Array Nm × Bool} (h12 : ¬ b - a ≤ 12) (hl : ¬ lim = 0)
    (e1 : d1 = if (!wb) = true then breakPatterns d a b else d) (el : lim1 = if (!wb) = true then lim - 1 else lim) (ec : cp = choosePivot ltM d1 a b) (e2 : d2 = if cp.2 = .decreasing then reverseRange d1 a b else d1)
    (ep : pv = if cp.2 = .decreasing then (b - 1) - (cp.1 - a) else cp.1) (eh : hi = if cp.2 = .decreasing then .increasing else cp.2) (epi : pi = if (wb && wp && hi = .increasing) = true then partialInsertionSort ltM d2 a b else (d2, false)) :
    pdq ltM d a b lim wb wp = if pi.2 = true then pi.1 else if (a > 0 && !ltM pi.1[a - 1]! pi.1[pv]!) = true then (if a < (partitionEqual ltM pi.1 a b pv).1 ∧ (partitionEqual ltM pi.1 a b pv).1 ≤ b then pdq ltM (partitionEqual ltM pi.1 a b pv).2 (partitionEqual ltM pi.1 a b pv).1 b lim1 wb wp else (partitionEqual ltM pi.1 a b pv).2)
      else (if a ≤ (partition ltM pi.1 a b pv).1 ∧ (partition ltM pi.1 a b pv).1 < b then if (partition ltM pi.1 a b pv).1 - a < b - (partition ltM pi.1 a b pv).1 then pdq ltM (pdq ltM (partition ltM pi.1 a b pv).2.2 a (partition ltM pi.1 a b pv).1 lim1 true true) ((partition ltM pi.1 a b pv).1 + 1) b lim1 (decide ((partition ltM pi.1 a b pv).1 - a ≥ (b - a) / 8)) (partition ltM pi.1 a b pv).2.1
        else pdq ltM (pdq ltM (partition ltM pi.1 a b pv).2.2 ((partition ltM pi.1 a b pv).1 + 1) b lim1 true true) a (partition ltM pi.1 a b pv).1 lim1 (decide (b - (partition ltM pi.1 a b pv).1 ≥ (b - a) / 8)) (partition ltM pi.1 a b pv).2.1 else (partition ltM pi.1 a b pv).2.2) := by
  subst epi eh ep e2 ec el e1
  rw [pdq, if_neg h12, if_neg hl]
  rfl
open Go.Sort in
theorem peq_range (d : Array Nm) {a b pv : Nat} (h1 : a ≤ pv) (h2 : pv < b) (hb : b ≤ d.size) : a < (partitionEqual ltM d a b pv).1 ∧ (partitionEqual ltM d a b pv).1 ≤ b := by
  have := partEqLoop_spec (lt := ltM) a b b (a + 1) (b - 1) (swp d a pv) (by omega) (by omega) (by omega) (by omega) (by rw [swp_size]; exact hb) (fun t h h' => by omega) (fun t h h' => by omega)
  exact ⟨this.1, this.2.1⟩
theorem seg0 (A : C) (hA : (bkOf ir64.body 1).map (seqN · 0) = some A) (c n a b lim : Nat) (wb wp : Bool) (R : Regs) (H : Heap) (K : Out → Heap → Prop) (h0 : R 0 = .msl c 0 n 2) (h1 : R 1 = .int .i64 a) (h2 : R 2 = .int .i64 b) (h3 : R 3 = .int .i64 lim) (h4 : R 4 = .fn 36 []) (h10 : R 10 = .bool wb) (h11 : R 11 = .bool wp) (hab : a ≤ b) (hb : b < 16777216)
    (rest : ∀ R', PR R' c n a b lim wb wp → K (.ex .normal R') H) : wpC env A R H K := by
  simp [ir64, bkOf, seqN, sq] at hA
  subst hA
  simp -implicitDefEqProofs (maxSteps := 1000000) (disch := omega) only [natOf_nat, iadm, ldm1, ldm2, stm0, stm1, stm2, wA, wA1, wS, wS1, wM, S2, op, ef, cl, sq, reduceIte, Int.reduceLT, Int.reduceLE, Int.reduceBEq, Int.reduceBNe, Int.reduceEq, Nat.reduceAdd, Nat.reduceLeDiff, Nat.reduceLT, Nat.reduceEqDiff, S1, h0, h1, h2, h3, h4, h10, h11]
  refine rest _ ⟨?_, ?_, ?_, ?_, ?_, ?_, ?_, ?_⟩
  all_goals simp -implicitDefEqProofs only [op, ef, cl, sq, reduceIte, Int.reduceLT, Int.reduceLE, Int.reduceBEq, Int.reduceBNe, Int.reduceEq, Nat.reduceAdd, Nat.reduceLeDiff, Nat.reduceLT, Nat.reduceEqDiff, S1, h0, h1, h2, h3, h4, h10, h11]
open Go.Sort in
theorem seg1 (A : C) (hA : (bkOf ir64.body 1).map (seqN · 1) = some A) (c n a b lim : Nat) (wb wp : Bool) (d : Array Nm) (R : Regs) (H0 H : Heap) (K : Out → Heap → Prop) (hp : PR R c n a b lim wb wp) (hd : SC c n H0 (fun x => x = d) H) (hb : b ≤ n) (hab : a ≤ b) (hs : n < 16777216)
    (rest1 : ∀ R' H', b - a ≤ 12 → SC c n H0 (fun x => x = insertionSort ltM d a b) H' → K (.ex .ret R') H')
    (rest2 : ∀ R', ¬ b - a ≤ 12 → PR R' c n a b lim wb wp → K (.ex .normal R') H) : wpC env A R H K := by
  simp [ir64, bkOf, seqN, sq] at hA
  subst hA
  obtain ⟨h0, h1, h2, h3, h4, h10, h11, h12⟩ := hp
  obtain ⟨di, hc, hn, rfl, hfr⟩ := hd
  by_cases hle : b - a ≤ 12
  · simp -implicitDefEqProofs only [op, ef, cl, sq, reduceIte, Int.reduceLT, Int.reduceLE, Int.reduceBEq, Int.reduceBNe, Int.reduceEq, Nat.reduceAdd, Nat.reduceLeDiff, Nat.reduceLT, Nat.reduceEqDiff, S1, h0, h1, h2, h3, h4, h10, h11, h12, hle]
    have hi := ins75 c di a b H hc (by omega) hab (by omega)
    rw [hn] at hi
    refine callB_of _ _ _ _ _ _ _ _ hi ?_
    rintro u H2 ⟨hu, hd2, hf2⟩
    cases hu
    simp -implicitDefEqProofs only [op, ef, cl, sq, reduceIte, Int.reduceLT, Int.reduceLE, Int.reduceBEq, Int.reduceBNe, Int.reduceEq, Nat.reduceAdd, Nat.reduceLeDiff, Nat.reduceLT, Nat.reduceEqDiff, S1]
    exact rest1 _ _ hle ⟨_, hd2, by rw [(insertionSort_holds ltM_swo di a b hab (by omega)).1.1]; exact hn, rfl, hfr.trans hf2 fun _ h => .inl h⟩
  · simp -implicitDefEqProofs only [op, ef, cl, sq, reduceIte, Int.reduceLT, Int.reduceLE, Int.reduceBEq, Int.reduceBNe, Int.reduceEq, Nat.reduceAdd, Nat.reduceLeDiff, Nat.reduceLT, Nat.reduceEqDiff, S1, h0, h1, h2, h3, h4, h10, h11, h12, hle]
    refine rest2 _ hle ⟨?_, ?_, ?_, ?_, ?_, ?_, ?_, ?_⟩
    all_goals simp -implicitDefEqProofs only [op, ef, cl, sq, reduceIte, Int.reduceLT, Int.reduceLE, Int.reduceBEq, Int.reduceBNe, Int.reduceEq, Nat.reduceAdd, Nat.reduceLeDiff, Nat.reduceLT, Nat.reduceEqDiff, S1, h0, h1, h2, h3, h4, h10, h11, h12]
open Go.Sort in
theorem seg2 (A : C) (hA : (bkOf ir64.body 1).map (seqN · 2) = some A) (c n a b lim : Nat) (wb wp : Bool) (d : Array Nm) (R : Regs) (H0 H : Heap) (K : Out → Heap → Prop) (hp : PR R c n a b lim wb wp) (hd : SC c n H0 (fun x => x = d) H) (hb : b ≤ n) (hab : a + 12 < b) (hs : n < 16777216)
    (rest1 : ∀ R' H', lim = 0 → SC c n H0 (fun x => x = heapSort ltM d a b) H' → K (.ex .ret R') H')
    (rest2 : ∀ R', ¬ lim = 0 → PR R' c n a b lim wb wp → K (.ex .normal R') H) : wpC env A R H K := by
  simp [ir64, bkOf, seqN, sq] at hA
  subst hA
  obtain ⟨h0, h1, h2, h3, h4, h10, h11, h12⟩ := hp
  obtain ⟨di, hc, hn, rfl, hfr⟩ := hd
  by_cases hl : lim = 0
  · subst hl
    have e : (((0 : Nat) : Int) == 0) = true := rfl
    simp -implicitDefEqProofs only [op, ef, cl, sq, reduceIte, Int.reduceLT, Int.reduceLE, Int.reduceBEq, Int.reduceBNe, Int.reduceEq, Nat.reduceAdd, Nat.reduceLeDiff, Nat.reduceLT, Nat.reduceEqDiff, S1, h0, h1, h2, h3, h4, h10, h11, h12, e]
    refine callB_of _ _ _ _ _ _ _ _ (heap76 c n di a b _ hn hc hb (by omega) (by omega)) ?_
    rintro u H2 ⟨hu, d2, hd2, hs2, e2, hf2⟩
    cases hu
    simp -implicitDefEqProofs only [op, ef, cl, sq, reduceIte, Int.reduceLT, Int.reduceLE, Int.reduceBEq, Int.reduceBNe, Int.reduceEq, Nat.reduceAdd, Nat.reduceLeDiff, Nat.reduceLT, Nat.reduceEqDiff, S1]
    exact rest1 _ _ rfl ⟨_, hd2, hs2, e2, hfr.trans hf2 fun _ h => .inl h⟩
  · have e : ((lim : Int) == 0) = false := by simp; omega
    simp -implicitDefEqProofs only [op, ef, cl, sq, reduceIte, Int.reduceLT, Int.reduceLE, Int.reduceBEq, Int.reduceBNe, Int.reduceEq, Nat.reduceAdd, Nat.reduceLeDiff, Nat.reduceLT, Nat.reduceEqDiff, S1, h0, h1, h2, h3, h4, h10, h11, h12, e]
    refine rest2 _ hl ⟨?_, ?_, ?_, ?_, ?_, ?_, ?_, ?_⟩
    all_goals simp -implicitDefEqProofs only [op, ef, cl, sq, reduceIte, Int.reduceLT, Int.reduceLE, Int.reduceBEq, Int.reduceBNe, Int.reduceEq, Nat.reduceAdd, Nat.reduceLeDiff, Nat.reduceLT, Nat.reduceEqDiff, S1, h0, h1, h2, h3, h4, h10, h11, h12]
open Go.Sort in
theorem seg4 (A : C) (hA : (bkOf ir64.body 1).map (seqN · 4) = some A) (c n a b lim : Nat) (wb wp : Bool) (d : Array Nm) (R : Regs) (H0 H : Heap) (K : Out → Heap → Prop) (hp : PR R c n a b lim wb wp) (hd : SC c n H0 (fun x => x = d) H) (hb : b ≤ n) (hab : a + 12 < b) (hs : n < 16777216)
    (rest : ∀ R' H', PR R' c n a b lim wb wp → R' 13 = .int .i64 (choosePivot ltM d a b).1 → R' 14 = .int .i64 (hintN (choosePivot ltM d a b).2) → SC c n H0 (fun x => x = d) H' → K (.ex .normal R') H') : wpC env A R H K := by
  simp [ir64, bkOf, seqN, sq] at hA
  subst hA
  obtain ⟨h0, h1, h2, h3, h4, h10, h11, h12⟩ := hp
  obtain ⟨di, hc, hn, rfl, hfr⟩ := hd
  simp -implicitDefEqProofs only [op, ef, cl, sq, reduceIte, Int.reduceLT, Int.reduceLE, Int.reduceBEq, Int.reduceBNe, Int.reduceEq, Nat.reduceAdd, Nat.reduceLeDiff, Nat.reduceLT, Nat.reduceEqDiff, S1, h0, h1, h2, h3, h4, h10, h11, h12]
  refine callB_of _ _ _ _ _ _ _ _ (choose78 c n di a b _ hn hc hb hab (by omega)) ?_
  rintro u H2 ⟨hu, hx⟩
  cases hu
  simp -implicitDefEqProofs only [op, ef, cl, sq, reduceIte, Int.reduceLT, Int.reduceLE, Int.reduceBEq, Int.reduceBNe, Int.reduceEq, Nat.reduceAdd, Nat.reduceLeDiff, Nat.reduceLT, Nat.reduceEqDiff, S1]
  refine rest _ _ ⟨?_, ?_, ?_, ?_, ?_, ?_, ?_, ?_⟩ ?_ ?_ ⟨di, hx.get hc, hn, rfl, hfr.trans (ext_frm (F := fun _ => False) hx) (fun _ h => h.elim)⟩
  all_goals simp -implicitDefEqProofs only [op, ef, cl, sq, reduceIte, Int.reduceLT, Int.reduceLE, Int.reduceBEq, Int.reduceBNe, Int.reduceEq, Nat.reduceAdd, Nat.reduceLeDiff, Nat.reduceLT, Nat.reduceEqDiff, S1, h0, h1, h2, h3, h4, h10, h11, h12]
theorem wQ8 {a : Nat} (h : a < 9223372036854775808) : IntKind.i64.wrap ((a : Int).tdiv 8) = ((a / 8 : Nat) : Int) := by rw [Int.tdiv_eq_ediv_of_nonneg (by omega), wrap64 (by omega)]; omega
open Go.Sort in
theorem seg8 (A : C) (hA : (bkOf ir64.body 1).map (seqT · 8) = some A) (c n a b lim : Nat) (wb wp : Bool) (d : Array Nm) (pv : Nat) (R : Regs) (H0 H : Heap) (K : Out → Heap → Prop) (hp : PR R c n a b lim wb wp) (h13 : R 13 = .int .i64 pv) (hd : SC c n H0 (fun x => x = d) H) (hb : b ≤ n) (hab : a + 12 < b) (hs : n < 16777216) (hpv : a ≤ pv ∧ pv < b)
    (ih : ∀ a' b' (d' : Array Nm) H', b' - a' < b - a → a' ≤ b' → b' ≤ n → d'.size = n → H'[c]? = some (.cells (msC eN d'.toList)) → W env (.call 64 [.msl c 0 n 2, .int .i64 a', .int .i64 b', .int .i64 lim, .fn 36 []]) H' (SrtN c n (pdq ltM d' a' b' lim true true) H'))
    (rest : ∀ R' H' a' b' (d' : Array Nm) (wb' : Bool), a ≤ a' → a' ≤ b' → b' ≤ b → b' - a' < b - a → R' 0 = .msl c 0 n 2 → R' 1 = .int .i64 (a' : Nat) → R' 2 = .int .i64 (b' : Nat) → R' 3 = .int .i64 lim → R' 4 = .fn 36 [] → R' 10 = .bool wb' → R' 11 = .bool (partition ltM d a b pv).2.1 →
      pdq ltM d' a' b' lim wb' (partition ltM d a b pv).2.1 = (if (partition ltM d a b pv).1 - a < b - (partition ltM d a b pv).1 then pdq ltM (pdq ltM (partition ltM d a b pv).2.2 a (partition ltM d a b pv).1 lim true true) ((partition ltM d a b pv).1 + 1) b lim (decide ((partition ltM d a b pv).1 - a ≥ (b - a) / 8)) (partition ltM d a b pv).2.1
        else pdq ltM (pdq ltM (partition ltM d a b pv).2.2 ((partition ltM d a b pv).1 + 1) b lim true true) a (partition ltM d a b pv).1 lim (decide (b - (partition ltM d a b pv).1 ≥ (b - a) / 8)) (partition ltM d a b pv).2.1) →
      SC c n H0 (fun x => x = d') H' → K (.ex .normal R') H') : wpC env A R H K := by
  simp [ir64, bkOf, seqT, sq] at hA
  subst hA
  obtain ⟨h0, h1, h2, h3, h4, h10, h11, h12⟩ := hp
  obtain ⟨di, hc, hn, rfl, hfr⟩ := hd
  have hrg := partition_holds ltM ltM_swo di a b pv hpv.1 hpv.2 (by omega)
  simp -implicitDefEqProofs only [op, ef, cl, sq, reduceIte, Int.reduceLT, Int.reduceLE, Int.reduceBEq, Int.reduceBNe, Int.reduceEq, Nat.reduceAdd, Nat.reduceLeDiff, Nat.reduceLT, Nat.reduceEqDiff, S1, h0, h1, h2, h3, h4, h10, h11, h12, h13]
  refine callB_of _ _ _ _ _ _ _ _ (part82 c n di a b pv _ hn hc hb (by omega) (by omega) (by omega)) ?_
  rintro u H2 ⟨hu, d2, hd2, hs2, e2, hf2⟩
  cases hu
  generalize partition ltM di a b pv = r at *
  obtain ⟨mid, ap, d4⟩ := r
  simp only at hrg e2 rest ⊢
  subst e2
  obtain ⟨m1, m2, _⟩ := hrg
  have hfr2 := hfr.trans hf2 fun _ h => .inl h
  by_cases hlt : mid - a < b - mid
  · rw [if_pos hlt] at rest
    simp -implicitDefEqProofs (maxSteps := 1000000) (disch := omega) only [natOf_nat, iadm, ldm1, ldm2, stm0, stm1, stm2, wA, wA1, wS, wS1, wM, S2, op, ef, cl, sq, reduceIte, Int.reduceLT, Int.reduceLE, Int.reduceBEq, Int.reduceBNe, Int.reduceEq, Nat.reduceAdd, Nat.reduceLeDiff, Nat.reduceLT, Nat.reduceEqDiff, S1, wQ8, h0, h1, h2, h3, h4, h10, h11, h12, h13, hlt]
    refine callB_of _ _ _ _ _ _ _ _ (ih a mid d2 _ (by omega) m1 (by omega) hs2 hd2) ?_
    rintro u H3 ⟨hu, d3, hd3, hs3, e3, hf3⟩
    cases hu
    simp -implicitDefEqProofs (maxSteps := 1000000) (disch := omega) only [natOf_nat, iadm, ldm1, ldm2, stm0, stm1, stm2, wA, wA1, wS, wS1, wM, S2, op, ef, cl, sq, reduceIte, Int.reduceLT, Int.reduceLE, Int.reduceBEq, Int.reduceBNe, Int.reduceEq, Nat.reduceAdd, Nat.reduceLeDiff, Nat.reduceLT, Nat.reduceEqDiff, S1, h0, h1, h2, h3, h4, h10, h11, h12, h13]
    refine rest _ _ (mid + 1) b d3 (decide ((b - a) / 8 ≤ mid - a)) (by omega) (by omega) (Nat.le_refl _) (by omega) ?_ ?_ ?_ ?_ ?_ ?_ ?_ (by rw [e3]) ⟨d3, hd3, hs3, rfl, hfr2.trans hf3 fun _ h => .inl h⟩
    all_goals simp -implicitDefEqProofs only [op, ef, cl, sq, reduceIte, Int.reduceLT, Int.reduceLE, Int.reduceBEq, Int.reduceBNe, Int.reduceEq, Nat.reduceAdd, Nat.reduceLeDiff, Nat.reduceLT, Nat.reduceEqDiff, S1, h0, h1, h2, h3, h4, h10, h11, h12]
  · rw [if_neg hlt] at rest
    simp -implicitDefEqProofs (maxSteps := 1000000) (disch := omega) only [natOf_nat, iadm, ldm1, ldm2, stm0, stm1, stm2, wA, wA1, wS, wS1, wM, S2, op, ef, cl, sq, reduceIte, Int.reduceLT, Int.reduceLE, Int.reduceBEq, Int.reduceBNe, Int.reduceEq, Nat.reduceAdd, Nat.reduceLeDiff, Nat.reduceLT, Nat.reduceEqDiff, S1, wQ8, h0, h1, h2, h3, h4, h10, h11, h12, h13, hlt]
    refine callB_of _ _ _ _ _ _ _ _ (ih (mid + 1) b d2 _ (by omega) m2 (by omega) hs2 hd2) ?_
    rintro u H3 ⟨hu, d3, hd3, hs3, e3, hf3⟩
    cases hu
    simp -implicitDefEqProofs (maxSteps := 1000000) (disch := omega) only [natOf_nat, iadm, ldm1, ldm2, stm0, stm1, stm2, wA, wA1, wS, wS1, wM, S2, op, ef, cl, sq, reduceIte, Int.reduceLT, Int.reduceLE, Int.reduceBEq, Int.reduceBNe, Int.reduceEq, Nat.reduceAdd, Nat.reduceLeDiff, Nat.reduceLT, Nat.reduceEqDiff, S1, h0, h1, h2, h3, h4, h10, h11, h12, h13]
    refine rest _ _ a mid d3 (decide ((b - a) / 8 ≤ b - mid)) (by omega) (by omega) (by omega) (by omega) ?_ ?_ ?_ ?_ ?_ ?_ ?_ (by rw [e3]) ⟨d3, hd3, hs3, rfl, hfr2.trans hf3 fun _ h => .inl h⟩
    all_goals simp -implicitDefEqProofs only [op, ef, cl, sq, reduceIte, Int.reduceLT, Int.reduceLE, Int.reduceBEq, Int.reduceBNe, Int.reduceEq, Nat.reduceAdd, Nat.reduceLeDiff, Nat.reduceLT, Nat.reduceEqDiff, S1, h0, h1, h2, h3, h4, h10, h11, h12]
end Go.Proofs.Ytbkgokabcnogdaa.St
end

/-! text StoreXk -/
section
namespace Go.Proofs.Ytbkgokabcnogdaa.St
open Go.Rmp Go.Proofs.Ytbkgokabcnogdaa.Ir
set_option maxRecDepth 10000
set_option maxHeartbeats 8000000
open Go.Sort in
theorem pdq64 (c n : Nat) (hs : n < 16777216) : ∀ m a b lim (d : Array Nm) H, b - a = m → a ≤ b → b ≤ n → lim < 1000 → d.size = n → H[c]? = some (.cells (msC eN d.toList)) →
    W env (.call 64 [.msl c 0 n 2, .int .i64 (a : Nat), .int .i64 (b : Nat), .int .i64 (lim : Nat), .fn 36 []]) H (SrtN c n (pdq ltM d a b lim true true) H) := by
  intro m
  induction m using Nat.strongRecOn with
  | _ m ih =>
  intro a b lim d H hm hab hb hlim hn hc
  subst hm
  refine W.fnI rfl rfl rfl ?_
  simp -implicitDefEqProofs only [ir64, op, ef, cl, sq, reduceIte, Int.reduceLT, Int.reduceLE, Int.reduceBEq, Int.reduceBNe, Int.reduceEq, Nat.reduceAdd, Nat.reduceLeDiff, Nat.reduceLT, Nat.reduceEqDiff, S1]
  refine W.loopI (fun (q : Nat × Nat × Nat × Bool × Bool) R H' => At H' (fun H' => SC c n H (fun di => pdq ltM di q.1 q.2.1 q.2.2.1 q.2.2.2.1 q.2.2.2.2 = pdq ltM d a b lim true true) H') ∧ R 0 = .msl c 0 n 2 ∧ R 1 = .int .i64 q.1 ∧ R 2 = .int .i64 q.2.1 ∧ R 3 = .int .i64 q.2.2.1 ∧ R 4 = .fn 36 [] ∧ R 10 = .bool q.2.2.2.1 ∧ R 11 = .bool q.2.2.2.2 ∧ a ≤ q.1 ∧ q.1 ≤ q.2.1 ∧ q.2.1 ≤ b ∧ q.2.2.1 ≤ lim) (fun q => q.2.1 - q.1) (a, b, lim, true, true) ⟨.i ⟨d, hc, hn, rfl, Frm.refl _ _⟩, rfl, rfl, rfl, rfl, rfl, rfl, rfl, Nat.le_refl _, hab, Nat.le_refl _, Nat.le_refl _⟩ ?_
  rintro ⟨a1, b1, l1, wb, wp⟩ R H1 ⟨⟨di, hd, hsz, hP, hfr⟩, h0, h1, h2, h3, h4, h10, h11, q1, q2, q3, q4⟩
  simp only at hP h1 h2 h3 h10 h11 q1 q2 q3 q4 ⊢
  rw [c_block, c_seq]
  refine seg0 _ rfl c n a1 b1 l1 wb wp R H1 _ h0 h1 h2 h3 h4 h10 h11 q2 (by omega) ?_
  intro R1 p1
  rw [then_n, cont_ap, c_seq]
  refine seg1 _ rfl c n a1 b1 l1 wb wp di R1 H H1 _ p1 ⟨di, hd, hsz, rfl, hfr⟩ (by omega) q2 hs ?_ ?_
  · rintro R' H' hle ⟨d', hd', hs', rfl, hf'⟩
    rw [pdq, if_pos hle] at hP
    simp -implicitDefEqProofs only [op, ef, cl, sq, reduceIte, Int.reduceLT, Int.reduceLE, Int.reduceBEq, Int.reduceBNe, Int.reduceEq, Nat.reduceAdd, Nat.reduceLeDiff, Nat.reduceLT, Nat.reduceEqDiff, S1]
    exact ⟨rfl, _, hd', hs', hP, hf'⟩
  intro R2 h12 p2
  rw [then_n, cont_ap, c_seq]
  refine seg2 _ rfl c n a1 b1 l1 wb wp di R2 H H1 _ p2 ⟨di, hd, hsz, rfl, hfr⟩ (by omega) (by omega) hs ?_ ?_
  · rintro R' H' hl0 ⟨d', hd', hs', rfl, hf'⟩
    rw [pdq, if_neg h12, if_pos hl0] at hP
    simp -implicitDefEqProofs only [op, ef, cl, sq, reduceIte, Int.reduceLT, Int.reduceLE, Int.reduceBEq, Int.reduceBNe, Int.reduceEq, Nat.reduceAdd, Nat.reduceLeDiff, Nat.reduceLT, Nat.reduceEqDiff, S1]
    exact ⟨rfl, _, hd', hs', hP, hf'⟩
  intro R3 hl0 p3
  rw [then_n, cont_ap, c_seq]
  refine seg3 _ rfl c n a1 b1 l1 wb wp di R3 H H1 _ p3 ⟨di, hd, hsz, rfl, hfr⟩ (by omega) (by omega) hs (by omega) ?_
  rintro R4 H4 p4 ⟨d1, hd4, hs4, e1, hf4⟩
  obtain ⟨lim1, el⟩ : ∃ l, l = if (!wb) = true then l1 - 1 else l1 := ⟨_, rfl⟩
  have hll : lim1 ≤ l1 := by rw [el]; split <;> omega
  rw [← el] at p4
  rw [then_n, cont_ap, c_seq]
  refine seg4 _ rfl c n a1 b1 lim1 wb wp d1 R4 H H4 _ p4 ⟨d1, hd4, hs4, rfl, hf4⟩ (by omega) (by omega) hs ?_
  rintro R5 H5 p5 h13 h14 ⟨d1', hd5, hs5, e1', hf5⟩
  subst e1'
  have hcr := choosePivot_holds ltM d1' a1 b1 (by omega)
  obtain ⟨cp, ec⟩ : ∃ x, x = choosePivot ltM d1' a1 b1 := ⟨_, rfl⟩
  rw [← ec] at h13 h14 hcr
  rw [then_n, cont_ap, c_seq]
  refine seg5 _ rfl c n a1 b1 lim1 wb wp d1' cp.1 cp.2 R5 H H5 _ p5 h13 h14 ⟨d1', hd5, hs5, rfl, hf5⟩ (by omega) (by omega) hs hcr ?_
  rintro R6 H6 p6 h13 h14 ⟨d2, hd6, hs6, e2, hf6⟩
  obtain ⟨pv, ep⟩ : ∃ x, x = if cp.2 = .decreasing then (b1 - 1) - (cp.1 - a1) else cp.1 := ⟨_, rfl⟩
  obtain ⟨hi, eh⟩ : ∃ x, x = if cp.2 = .decreasing then Hint.increasing else cp.2 := ⟨_, rfl⟩
  rw [← ep] at h13
  rw [← eh] at h14
  have hpv : a1 ≤ pv ∧ pv < b1 := by rw [ep]; split <;> omega
  rw [then_n, cont_ap, c_seq]
  obtain ⟨pi, epi⟩ : ∃ x, x = if (wb && wp && hi = .increasing) = true then partialInsertionSort ltM d2 a1 b1 else (d2, false) := ⟨_, rfl⟩
  rw [pdq_step h12 hl0 e1 el ec e2 ep eh epi] at hP
  refine seg6 _ rfl c n a1 b1 lim1 wb wp d2 pv hi R6 H H6 _ p6 h13 h14 ⟨d2, hd6, hs6, rfl, hf6⟩ (by omega) (by omega) hs pi epi ?_ ?_
  · rintro R' H' hpt ⟨d', hd', hs', rfl, hf'⟩
    rw [if_pos hpt] at hP
    simp -implicitDefEqProofs only [op, ef, cl, sq, reduceIte, Int.reduceLT, Int.reduceLE, Int.reduceBEq, Int.reduceBNe, Int.reduceEq, Nat.reduceAdd, Nat.reduceLeDiff, Nat.reduceLT, Nat.reduceEqDiff, S1]
    exact ⟨rfl, _, hd', hs', hP, hf'⟩
  rintro R7 H7 hpf p7 h13 ⟨d3, hd7, hs7, e3, hf7⟩
  rw [if_neg (by rw [hpf]; simp), ← e3] at hP
  rw [then_n, cont_ap, c_seq]
  refine seg7 _ rfl c n a1 b1 lim1 wb wp d3 pv R7 H H7 _ p7 h13 ⟨d3, hd7, hs7, rfl, hf7⟩ (by omega) (by omega) hs hpv ?_ ?_
  · rintro R' H' hgt g0 g1 g2 g3 g4 g10 g11 ⟨d', hd', hs', e', hf'⟩
    have hr := peq_range d3 hpv.1 hpv.2 (by omega)
    rw [if_pos hgt, if_pos hr, ← e'] at hP
    simp -implicitDefEqProofs only [op, ef, cl, sq, reduceIte, Int.reduceLT, Int.reduceLE, Int.reduceBEq, Int.reduceBNe, Int.reduceEq, Nat.reduceAdd, Nat.reduceLeDiff, Nat.reduceLT, Nat.reduceEqDiff, S1]
    exact ⟨((partitionEqual ltM d3 a1 b1 pv).1, b1, lim1, wb, wp), by simp only; omega, .i ⟨_, hd', hs', hP, hf'⟩, g0, g1, g2, g3, g4, g10, g11, by simp only; omega, by simp only; omega, by simp only; omega, by simp only; omega⟩
  rintro R8 H8 hgt p8 h13 ⟨d3', hd8, hs8, e3', hf8⟩
  subst e3'
  have hr := partition_holds ltM ltM_swo d3' a1 b1 pv hpv.1 hpv.2 (by omega)
  rw [if_neg (by rw [hgt]; simp), if_pos ⟨hr.1, hr.2.1⟩] at hP
  rw [then_n, cont_ap]
  refine seg8 _ rfl c n a1 b1 lim1 wb wp d3' pv R8 H H8 _ p8 h13 ⟨d3', hd8, hs8, rfl, hf8⟩ (by omega) (by omega) hs hpv (fun a' b' d' H' hlt ha' hb' hs' hc' => ih _ (by omega) a' b' lim1 d' H' rfl ha' hb' (by omega) hs' hc') ?_
  rintro R' H' a' b' d' wb' ha' hab' hb' hlt g0 g1 g2 g3 g4 g10 g11 e' ⟨d'', hd', hs', rfl, hf'⟩
  simp -implicitDefEqProofs only [op, ef, cl, sq, reduceIte, Int.reduceLT, Int.reduceLE, Int.reduceBEq, Int.reduceBNe, Int.reduceEq, Nat.reduceAdd, Nat.reduceLeDiff, Nat.reduceLT, Nat.reduceEqDiff, S1]
  exact ⟨(a', b', lim1, wb', (partition ltM d3' a1 b1 pv).2.1), by simp only; omega, .i ⟨_, hd', hs', by simp only; rw [e']; exact hP, hf'⟩, g0, g1, g2, g3, g4, g10, g11, by simp only; omega, hab', by simp only; omega, by simp only; omega⟩
open Go.Sort in
theorem sortF49 (c : Nat) (d : Array Nm) (H : Heap) (hc : H[c]? = some (.cells (msC eN d.toList))) (hs : d.size < 16777216) :
    W env (.call 49 [.msl c 0 d.size 2, .fn 36 []]) H (SrtN c d.size (sort ltM d) H) := by
  refine W.fnI rfl rfl rfl ?_
  have w1 : IntKind.u64.wrap (d.size : Int) = (d.size : Int) := wrapu (by omega)
  simp -implicitDefEqProofs only [ir49, op, ef, cl, sq, reduceIte, Int.reduceLT, Int.reduceLE, Int.reduceBEq, Int.reduceBNe, Int.reduceEq, Nat.reduceAdd, Nat.reduceLeDiff, Nat.reduceLT, Nat.reduceEqDiff, S1, w1]
  refine callB_of _ _ _ _ _ _ _ _ (len65 d.size hs _) ?_
  rintro u H1 ⟨hu, rfl⟩
  cases hu
  have hb := bits_lt (n := d.size) (k := 24) hs
  simp -implicitDefEqProofs only [op, ef, cl, sq, reduceIte, Int.reduceLT, Int.reduceLE, Int.reduceBEq, Int.reduceBNe, Int.reduceEq, Nat.reduceAdd, Nat.reduceLeDiff, Nat.reduceLT, Nat.reduceEqDiff, S1]
  refine callB_of _ _ _ _ _ _ _ _ (pdq64 c d.size hs _ 0 d.size (bitsLen d.size) d _ rfl (Nat.zero_le _) (Nat.le_refl _) (by omega) rfl hc) ?_
  rintro u H2 ⟨hu, h2⟩
  cases hu
  simp -implicitDefEqProofs only [op, ef, cl, sq, reduceIte, Int.reduceLT, Int.reduceLE, Int.reduceBEq, Int.reduceBNe, Int.reduceEq, Nat.reduceAdd, Nat.reduceLeDiff, Nat.reduceLT, Nat.reduceEqDiff, S1]
  exact ⟨rfl, h2⟩
end Go.Proofs.Ytbkgokabcnogdaa.St
end

/-! text StoreQa -/
section
namespace Go.Proofs.Ytbkgokabcnogdaa.St
open Go.Rmp Go.Proofs.Ytbkgokabcnogdaa.Ir
set_option maxRecDepth 10000
theorem sorted_listF {d : Array Nm} (hn : d.toList.Nodup) : (Go.Sort.sort ltM d).toList.Perm d.toList ∧ (Go.Sort.sort ltM d).toList.Pairwise (fun a b => ltM a b = true) := by
  obtain ⟨⟨hs, _, hp⟩, hsort⟩ := Go.Sort.sort_sorts ltM ltM_swo d
  have e1 : (Go.Sort.sort ltM d).extract 0 d.size = Go.Sort.sort ltM d := by
    conv => lhs; arg 3; rw [← hs]
    simp
  have hperm : (Go.Sort.sort ltM d).toList.Perm d.toList := by
    rw [e1] at hp
    simpa using hp
  refine ⟨hperm, ?_⟩
  have hn2 : (Go.Sort.sort ltM d).toList.Nodup := hperm.nodup_iff.2 hn
  rw [List.pairwise_iff_getElem]
  intro i j hi hj hij
  have h1 := hsort i j (Nat.zero_le _) hij (by rw [← hs]; simpa using hj)
  have gi := arr_get (d := Go.Sort.sort ltM d) (i := i) (by simpa using hi)
  have gj := arr_get (d := Go.Sort.sort ltM d) (i := j) (by simpa using hj)
  rw [List.getElem?_eq_getElem hi] at gi
  rw [List.getElem?_eq_getElem hj] at gj
  rw [Option.some.inj gi, Option.some.inj gj]
  cases h : ltM (Go.Sort.sort ltM d)[i]! (Go.Sort.sort ltM d)[j]! with
  | true => rfl
  | false =>
    have e := ltM_tri h h1
    rw [← Option.some.inj gi, ← Option.some.inj gj] at e
    have := (List.getElem_inj hn2).1 e
    omega
/-! nothing to sort -/
theorem sortedF34 (es : List (Nm × T)) (c mb : Nat) (H : Heap) (hnd : (es.map (·.1)).Nodup) (hes : es.length ≤ 1000000) (hc : H[c]? = some (.cells [.map mb])) (hm : H[mb]? = some (.map (encK kN es))) :
    W env (.call 34 [.fn 50 [.ptr c 0], .fn 36 []]) H (SortQ es H) := by
  refine W.fnI rfl rfl rfl ?_
  simp -implicitDefEqProofs only [ir34, op, ef, cl, sq, reduceIte, Int.reduceLT, Int.reduceLE, Int.reduceBEq, Int.reduceBNe, Int.reduceEq, Nat.reduceAdd, Nat.reduceLeDiff, Nat.reduceLT, Nat.reduceEqDiff, S1]
  refine callB_of _ _ _ _ _ _ _ _ (coll48 es c mb H hnd (by omega) hc hm) ?_
  rintro u H1 ⟨hx, t, vis, hu, hmt, hri⟩
  cases hu
  have hperm : vis.Perm (es.map (·.1)) := (List.perm_ext_iff_of_nodup hri.nvis hnd).2 fun k => hri.end' k
  have hvl : vis.length = es.length := by have := hri.len; simpa using this
  rcases hmt with ⟨rfl, rfl⟩ | ⟨d, rfl, hd, hdn⟩
  · simp -implicitDefEqProofs only [op, ef, cl, sq, reduceIte, Int.reduceLT, Int.reduceLE, Int.reduceBEq, Int.reduceBNe, Int.reduceEq, Nat.reduceAdd, Nat.reduceLeDiff, Nat.reduceLT, Nat.reduceEqDiff, S1]
    refine callB_of _ _ _ _ _ _ _ _ (sortE _) ?_
    rintro u H2 ⟨hu, rfl⟩
    cases hu
    simp -implicitDefEqProofs only [op, ef, cl, sq, reduceIte, Int.reduceLT, Int.reduceLE, Int.reduceBEq, Int.reduceBNe, Int.reduceEq, Nat.reduceAdd, Nat.reduceLeDiff, Nat.reduceLT, Nat.reduceEqDiff, S1]
    exact ⟨hx, _, [], rfl, mut_nil _ _ _ _, hperm, List.Pairwise.nil⟩
  · simp -implicitDefEqProofs only [op, ef, cl, sq, reduceIte, Int.reduceLT, Int.reduceLE, Int.reduceBEq, Int.reduceBNe, Int.reduceEq, Nat.reduceAdd, Nat.reduceLeDiff, Nat.reduceLT, Nat.reduceEqDiff, S1]
    have := sortF49 d vis.toArray H1 (by simpa using hd) (by simpa using (by omega : vis.length < 16777216))
    simp -implicitDefEqProofs only [List.size_toArray] at this
    refine callB_of _ _ _ _ _ _ _ _ this ?_
    rintro u H2 ⟨hu, d2, h2, hsz2, rfl, hfr⟩
    cases hu
    simp -implicitDefEqProofs only [op, ef, cl, sq, reduceIte, Int.reduceLT, Int.reduceLE, Int.reduceBEq, Int.reduceBNe, Int.reduceEq, Nat.reduceAdd, Nat.reduceLeDiff, Nat.reduceLT, Nat.reduceEqDiff, S1]
    have hs := sorted_listF (d := vis.toArray) (by simpa using hri.nvis)
    simp -implicitDefEqProofs only [List.size_toArray] at hs
    refine ⟨ext_of fun a x hax => hfr.get (hx.get hax) (by have := glt hax; omega), _, _, rfl, .inr ⟨d, ?_, h2, hdn⟩, hs.1.trans hperm, hs.2⟩
    rw [hs.1.length_eq]
end Go.Proofs.Ytbkgokabcnogdaa.St
end

/-! text StoreR -/
section
namespace Go.Proofs.Ytbkgokabcnogdaa.St
open Go.Rmp Go.Proofs.Ytbkgokabcnogdaa.Ir
set_option maxRecDepth 10000
theorem mut_n {α : Type} {enc : α → List T} {n : Nat} (hn : ∀ x, (enc x).length = n) (h0 : n ≠ 0) {n0 : Nat} {H : Heap} {t : T} {l : List α} (hm : Mut enc n n0 H t l) {i : Nat} {x : α} (hx : l[i]? = some x) : ∃ b, H[b]? = some (.cells (msC enc l)) ∧ iadT n i t = some (.ptr b (i * n)) ∧ ldcB n (i * n) (some (.cells (msC enc l))) = some (enc x) := by
  have hi := (List.getElem?_eq_some_iff.1 hx).1
  rcases hm with ⟨rfl, _⟩ | ⟨b, rfl, hb, _⟩
  · simp at hi
  · refine ⟨b, hb, by rw [iad_m]; simp [hi, h0], ?_⟩
    have := msC_get hn hx 0 n (by omega)
    simp -implicitDefEqProofs only [Nat.add_zero, List.drop_zero] at this
    rw [this, List.take_of_length_le (by rw [hn]; omega)]
/-- a version as Kept tells it -/
def eK (x : Nm × Hd) : List T := [.str x.1.1, .int .u64 x.1.2, .str x.2.value, .sl .arg (x.2.keys.map eS), .int .i64 x.2.stamp]
def keptL (s : Sto) (l : List Nm) : List (Nm × Hd) := l.map fun n => (n, hdOf (mlook s.vs n))
def KeptQ (s : Sto) (H : Heap) : Out → Heap → Prop := fun o H' => Ext H H' ∧ ∃ k l, KOk k l ∧ o = .val (.sl k ((keptL s l).map eK)) ∧ l.Perm (s.vs.map (·.1)) ∧ l.Pairwise (fun a b => ltM a b = true)
theorem kept20 (b : Bk) (s : Sto) (F : Nat → Prop) (H : Heap) (hs : SH H b s F) (hi : SInv s) (hn : s.vs.length ≤ 1000000) : W env (.call 20 [.ptr b.s 0]) H (KeptQ s H) := by
  obtain ⟨im, pm, sa⟩ := hs
  refine W.fnI rfl rfl rfl ?_
  simp -implicitDefEqProofs only [ir20, op, ef, cl, sq, reduceIte, Int.reduceLT, Int.reduceLE, Int.reduceBEq, Int.reduceBNe, Int.reduceEq, Nat.reduceAdd, Nat.reduceLeDiff, Nat.reduceLT, Nat.reduceEqDiff, S1, sa.hs]
  refine callB_of _ _ _ _ _ _ _ (fun o H' => o = .val (.fn 50 [.ptr H.length 0]) ∧ H' = H ++ [.cells [.map b.v]]) ?_ ?_
  · refine W.fnI rfl rfl rfl ?_
    simp -implicitDefEqProofs only [ir35, op, ef, cl, sq, reduceIte, Int.reduceLT, Int.reduceLE, Int.reduceBEq, Int.reduceBNe, Int.reduceEq, Nat.reduceAdd, Nat.reduceLeDiff, Nat.reduceLT, Nat.reduceEqDiff, S1]
    exact rfl
  rintro u H1 ⟨hu, rfl⟩
  cases hu
  have lv := glt sa.hv
  have hkeys : (encV s.vs).map (·.1) = s.vs.map (·.1) := by simp [encV]
  simp -implicitDefEqProofs only [op, ef, cl, sq, reduceIte, Int.reduceLT, Int.reduceLE, Int.reduceBEq, Int.reduceBNe, Int.reduceEq, Nat.reduceAdd, Nat.reduceLeDiff, Nat.reduceLT, Nat.reduceEqDiff, S1]
  refine callB_of _ _ _ _ _ _ _ _ (sortedF34 (encV s.vs) H.length b.v _ (by rw [hkeys]; exact hi.nd) (by simpa [encV] using hn) (g_tail rfl) (by rw [g_app lv]; exact sa.hv)) ?_
  rintro t H2 ⟨hx2, _, l, hu, hmt, hperm, hpw⟩
  cases hu
  rw [hkeys] at hperm
  have hll : l.length ≤ 1000000 := by rw [hperm.length_eq]; simpa using hn
  have hlen := hmt.len
  have hx0 : Ext H H2 := (Ext.rfl'.app _).trans hx2
  simp -implicitDefEqProofs only [op, ef, cl, sq, reduceIte, Int.reduceLT, Int.reduceLE, Int.reduceBEq, Int.reduceBNe, Int.reduceEq, Nat.reduceAdd, Nat.reduceLeDiff, Nat.reduceLT, Nat.reduceEqDiff, S1, hlen]
  have hlenH : ∀ Hx, lenT Hx .sl t = some l.length := fun Hx => by
    rcases hmt with ⟨e, rfl⟩ | ⟨c, rfl, _, _⟩
    · rw [e]; rfl
    · rfl
  refine W.loopI (fun (i : Nat) R H' => At H' (fun H' => ∃ kw, R 3 = .sl kw ((keptL s (l.take i)).map eK) ∧ Ext H H' ∧ Ext H2 H' ∧ Apd H2.length H' kw ∧ KOk kw (l.take i)) ∧ R 0 = .ptr b.s 0 ∧ R 11 = t ∧ R 12 = .int .i64 l.length ∧ R 13 = .int .i64 i ∧ i ≤ l.length) (fun i => l.length - i) 0 ⟨.i ⟨.nil, rfl, hx0, Ext.rfl', apd_nil _ _, fun _ => rfl⟩, rfl, rfl, rfl, rfl, Nat.zero_le _⟩ ?_
  rintro i R H3 ⟨⟨kw, h3, hx3, hx23, hap, hko⟩, h0, h11, h12, h13, hil⟩
  by_cases hlt : i < l.length
  · obtain ⟨m, hm⟩ := getP hlt
    have ws := wrap_succ (show i < 9223372036854775807 by omega)
    obtain ⟨c, g1, g2, g3⟩ := mut_n (enc := eN) (n := 2) (fun _ => rfl) (by decide) (hmt.ext hx23) hm
    have sa3 := sa.frm (ext_frm (F := fun _ => False) hx3) (fun _ _ _ h => h)
    have l0 := glt sa3.hs
    have lv3 := glt sa3.hv
    have hlk := fun Hx z ok => lkpB_K kNok z ok Hx (encV s.vs) m
    simp -implicitDefEqProofs only [kN, eN] at hlk
    have hh := lkp_hd s.vs m
    simp -implicitDefEqProofs only [op, ef, cl, sq, reduceIte, Int.reduceLT, Int.reduceLE, Int.reduceBEq, Int.reduceBNe, Int.reduceEq, Nat.reduceAdd, Nat.reduceLeDiff, Nat.reduceLT, Nat.reduceEqDiff, S1, S2, S3, List.length_set, h0, h11, h12, h13, hlt, natOf_nat, g1, g2, g3, eN, sa3.hs, sa3.hv, l0, lv3, hlk, hh, encHd]
    refine callB_of _ _ _ _ _ _ _ _ (version30 b s F m.1 m.2 _ ⟨im, pm, sa3.frm (ext_frm (F := fun _ => False) (Ext.rfl'.app _)) (fun _ _ _ h => h)⟩ hi) ?_
    rintro u H4 ⟨hx4, kk, hkk, hu⟩
    cases hu
    have c0 : H4[H3.length]? = some (.cells [.str m.1, .int .u64 m.2]) := hx4.get (by rw [g_tail rfl])
    have hx34 : Ext H3 H4 := (Ext.rfl'.app _).trans hx4
    have s4 := hx34.get sa3.hs
    have v4 := hx34.get sa3.hv
    obtain ⟨hd, hhd⟩ : ∃ hd, hd = hdOf (mlook s.vs m) := ⟨_, rfl⟩
    rw [← hhd] at hh hkk
    have hall := all_map (enc := eK) (n := 5) (fun _ => rfl) (keptL s (l.take i))
    have hkl : ((keptL s (l.take i)).map eK).length ≤ 1000000 := by simp -implicitDefEqProofs only [keptL, List.length_map, List.length_take]; omega
    obtain ⟨k', H5, ha, hap', hst⟩ := app_ok (bytes := 72) ((keptL s (l.take i)).map eK) [[T.str m.1, .int .u64 m.2, .str hd.value, .sl .arg (hd.keys.map eS), .int .i64 hd.stamp]] (hap.ext hx34) (Nat.le_trans hx23.len hx34.len) (by simp) (roomT (by simp -implicitDefEqProofs only [List.length_cons, List.length_nil]; omega))
    have hnn := app_nn ha (by simp)
    simp -implicitDefEqProofs only [op, ef, cl, sq, reduceIte, Int.reduceLT, Int.reduceLE, Int.reduceBEq, Int.reduceBNe, Int.reduceEq, Nat.reduceAdd, Nat.reduceLeDiff, Nat.reduceLT, Nat.reduceEqDiff, S1] at ha
    simp -implicitDefEqProofs only [op, ef, cl, sq, reduceIte, Int.reduceLT, Int.reduceLE, Int.reduceBEq, Int.reduceBNe, Int.reduceEq, Nat.reduceAdd, Nat.reduceLeDiff, Nat.reduceLT, Nat.reduceEqDiff, S1, eVer, h3, c0, s4, v4, hlk, hh, encHd, ← hhd, hall, ha, h0, h11, h12, h13, ws]
    refine ⟨i + 1, by omega, .i ⟨k', ?_, hst.ext H (by have := hx0.len; omega) (hx3.trans hx34), hst.ext H2 (Nat.le_refl _) (hx23.trans hx34), hap', fun h => absurd h hnn⟩, rfl, by omega⟩
    rw [take_sn hm]
    simp -implicitDefEqProofs only [keptL, List.map_append, List.map_cons, List.map_nil, eK, ← hhd]
  · have hil' : i = l.length := by omega
    subst hil'
    rw [List.take_length] at h3 hko
    simp -implicitDefEqProofs only [op, ef, cl, sq, reduceIte, Int.reduceLT, Int.reduceLE, Int.reduceBEq, Int.reduceBNe, Int.reduceEq, Nat.reduceAdd, Nat.reduceLeDiff, Nat.reduceLT, Nat.reduceEqDiff, S1, h3, h12, h13, hlt]
    exact ⟨hx3, kw, l, hko, rfl, hperm, hpw⟩
end Go.Proofs.Ytbkgokabcnogdaa.St
end

/-! text StoreS -/
section
namespace Go.Proofs.Ytbkgokabcnogdaa.St
open Go.Rmp Go.Proofs.Ytbkgokabcnogdaa.Ir
set_option maxRecDepth 10000
def flatP (ps : List (ByteArray × ByteArray)) : List ByteArray := ps.flatMap fun p => [p.1, p.2]
theorem flatP_len (ps : List (ByteArray × ByteArray)) : (flatP ps).length = 2 * ps.length := by
  induction ps with
  | nil => rfl
  | cons p ps ih => simp -implicitDefEqProofs only [flatP, List.flatMap_cons, List.length_append, List.length_cons, List.length_nil] at ih ⊢; omega
theorem flatP_get : ∀ (ps : List (ByteArray × ByteArray)) (j : Nat) (p : ByteArray × ByteArray), ps[j]? = some p → (flatP ps)[2 * j]? = some p.1 ∧ (flatP ps)[2 * j + 1]? = some p.2
  | [], j, p, h => by simp at h
  | q :: ps, 0, p, h => by simp at h; subst h; exact ⟨rfl, rfl⟩
  | q :: ps, j + 1, p, h => by
    have := flatP_get ps j p (by simpa using h)
    have e : flatP (q :: ps) = q.1 :: q.2 :: flatP ps := rfl
    rw [e, show 2 * (j + 1) = 2 * j + 1 + 1 by omega]
    exact this
theorem pairs29 (k : SK) (ps : List (ByteArray × ByteArray)) (H : Heap) (hl : ps.length ≤ 1000) : W env (.call 29 [.sl k ((flatP ps).map eS)]) H (fun o H' => Ext H H' ∧ ∃ kw, o = .val (.sl kw (ps.map eP))) := by
  refine W.fnI rfl rfl rfl ?_
  simp -implicitDefEqProofs only [ir29, op, ef, cl, sq, reduceIte, Int.reduceLT, Int.reduceLE, Int.reduceBEq, Int.reduceBNe, Int.reduceEq, Nat.reduceAdd, Nat.reduceLeDiff, Nat.reduceLT, Nat.reduceEqDiff, S1]
  refine W.loopI (fun (j : Nat) R H' => At H' (fun H' => ∃ kw, R 3 = .sl kw ((ps.take j).map eP) ∧ Ext H H' ∧ Apd H.length H' kw) ∧ R 0 = .sl k ((flatP ps).map eS) ∧ R 4 = .int .i64 ((2 * j : Nat) : Int) ∧ j ≤ ps.length) (fun j => ps.length - j) 0 ⟨.i ⟨.nil, rfl, Ext.rfl', apd_nil _ _⟩, rfl, rfl, Nat.zero_le _⟩ ?_
  rintro j R H1 ⟨⟨kw, h3, hx, hap⟩, h0, h4, hj⟩
  have w1 : IntKind.i64.wrap (((2 * j : Nat) : Int) + 1) = ((2 * j + 1 : Nat) : Int) := wrap_succ (by omega)
  have w2 : IntKind.i64.wrap (((2 * j : Nat) : Int) + 2) = ((2 * (j + 1) : Nat) : Int) := by rw [wrap64 (by omega)]; omega
  have hfl := flatP_len ps
  by_cases hlt : j < ps.length
  · obtain ⟨p, hp⟩ := getP hlt
    obtain ⟨g1, g2⟩ := flatP_get ps j p hp
    have i1 := iadX (e := eS) (n := 1) (fun _ => rfl) (by decide) (k := k) g1
    have i2 := iadX (e := eS) (n := 1) (fun _ => rfl) (by decide) (k := k) g2
    have hc : 2 * j + 1 < (flatP ps).length := by omega
    have hall := all_map (enc := eP) (n := 2) (fun _ => rfl) (ps.take j)
    obtain ⟨k', H', ha, hap', hst⟩ := app_ok (bytes := 32) ((ps.take j).map eP) [[T.str p.1, .str p.2]] hap hx.len (by simp) (roomS (by simp; omega) (by omega))
    simp -implicitDefEqProofs only [op, ef, cl, sq, reduceIte, Int.reduceLT, Int.reduceLE, Int.reduceBEq, Int.reduceBNe, Int.reduceEq, Nat.reduceAdd, Nat.reduceLeDiff, Nat.reduceLT, Nat.reduceEqDiff, S1] at ha
    simp -implicitDefEqProofs only [op, ef, cl, sq, reduceIte, Int.reduceLT, Int.reduceLE, Int.reduceBEq, Int.reduceBNe, Int.reduceEq, Nat.reduceAdd, Nat.reduceLeDiff, Nat.reduceLT, Nat.reduceEqDiff, S1, h0, h3, h4, List.length_map, w1, hc, natOf_nat, i1, i2, eS, hall, ha, w2]
    refine ⟨j + 1, by omega, .i ⟨k', ?_, hst.ext H (Nat.le_refl _) hx, hap'⟩, rfl, by omega⟩
    simp [take_sn hp, eP]
  · have hil : j = ps.length := by omega
    subst hil
    have hc : ¬ (2 * ps.length + 1 < (flatP ps).length) := by omega
    rw [List.take_length] at h3
    simp -implicitDefEqProofs only [op, ef, cl, sq, reduceIte, Int.reduceLT, Int.reduceLE, Int.reduceBEq, Int.reduceBNe, Int.reduceEq, Nat.reduceAdd, Nat.reduceLeDiff, Nat.reduceLT, Nat.reduceEqDiff, S1, h0, h3, h4, List.length_map, w1, hc]
    exact ⟨hx, kw, rfl⟩
/-! sorted lists of names are told by what is in them -/
theorem sorted_eq : ∀ (l l' : List Nm), l.Pairwise (fun a b => ltM a b = true) → l'.Pairwise (fun a b => ltM a b = true) → (∀ x, x ∈ l ↔ x ∈ l') → l = l'
  | [], [], _, _, _ => rfl
  | [], b :: l', _, _, h => by have := (h b).2 (by simp); simp at this
  | a :: l, [], _, _, h => by have := (h a).1 (by simp); simp at this
  | a :: l, b :: l', h1, h2, h => by
    rw [List.pairwise_cons] at h1 h2
    have e : a = b := by
      rcases List.mem_cons.1 ((h a).1 (by simp)) with e | e
      · exact e
      · rcases List.mem_cons.1 ((h b).2 (by simp)) with e2 | e2
        · exact e2.symm
        · have q1 := h2.1 a e
          have q2 := h1.1 b e2
          have := ltM_trans q1 q2
          rw [ltM_irr] at this; cases this
    subst e
    rw [sorted_eq l l' h1.2 h2.2 fun x => ?_]
    have hx := h x
    simp -implicitDefEqProofs only [List.mem_cons] at hx
    constructor
    · intro hm
      rcases hx.1 (.inr hm) with e | e
      · subst e; have := h1.1 x hm; rw [ltM_irr] at this; cases this
      · exact e
    · intro hm
      rcases hx.2 (.inr hm) with e | e
      · subst e; have := h2.1 x hm; rw [ltM_irr] at this; cases this
      · exact e
theorem mem_keys {α β : Type} [DecidableEq α] {es : List (α × β)} {k : α} : k ∈ es.map (·.1) ↔ (mlook es k).isSome = true := by
  cases h : mlook es k with
  | none => simp [mlook_none.1 h]
  | some v =>
    simp -implicitDefEqProofs only [Option.isSome_some, iff_true]
    exact List.mem_map.2 ⟨_, mlook_mem h, rfl⟩
/-- lists without repeats, with the same in them, are as long -/
theorem len_eq {α : Type} {l l' : List α} (h1 : l.Nodup) (h2 : l'.Nodup) (h : ∀ x, x ∈ l ↔ x ∈ l') : l.length = l'.length := ((List.perm_ext_iff_of_nodup h1 h2).2 h).length_eq
def tA : ByteArray := ⟨#[97]⟩
def tB : ByteArray := ⟨#[98]⟩
def tC : ByteArray := ⟨#[99]⟩
def tX : ByteArray := ⟨#[120]⟩
def tY : ByteArray := ⟨#[121]⟩
def tZ : ByteArray := ⟨#[122]⟩
theorem nAB : tA ≠ tB := by decide
theorem nAC : tA ≠ tC := by decide
theorem nBC : tB ≠ tC := by decide
theorem lAB : strLt tA tB = true := by decide +kernel
theorem lAC : strLt tA tC = true := by decide +kernel
theorem mayKnown1 : MayP 65536 [(tA, tX), (tB, tY)] [tA, tB] := by
  refine ⟨by decide, ⟨fun i hi => ?_, by decide, by decide⟩, by decide, fun i hi => ?_⟩
  · match i, hi with
    | 0, _ => intro x hx; cases hx; exact ⟨by decide, fun h => by omega⟩
    | 1, _ => intro x hx; cases hx; exact ⟨by decide, fun _ y hy => by cases hy; exact lAB⟩
  · match i, hi with
    | 0, _ => intro x hx; cases hx; exact ⟨fun h => by omega, by simp, by decide⟩
    | 1, _ => intro x hx; cases hx; exact ⟨fun _ y hy => by cases hy; exact lAB, by simp, by decide⟩
theorem mayKnown2 : MayP 131072 [(tA, tZ)] [tA, tC] := by
  refine ⟨by decide, ⟨fun i hi => ?_, by decide, by decide⟩, by decide, fun i hi => ?_⟩
  · match i, hi with
    | 0, _ => intro x hx; cases hx; exact ⟨by decide, fun h => by omega⟩
    | 1, _ => intro x hx; cases hx; exact ⟨by decide, fun _ y hy => by cases hy; exact lAC⟩
  · match i, hi with
    | 0, _ => intro x hx; cases hx; exact ⟨fun h => by omega, by simp, by decide⟩
end Go.Proofs.Ytbkgokabcnogdaa.St
end

/-! text StoreT -/
section
namespace Go.Proofs.Ytbkgokabcnogdaa.St
open Go.Rmp Go.Proofs.Ytbkgokabcnogdaa.Ir
set_option maxRecDepth 10000
abbrev l1 : List (ByteArray × ByteArray) := [(tA, tX), (tB, tY)]
abbrev l2 : List (ByteArray × ByteArray) := [(tA, tZ)]
structure KnownL (s2 s4 s5 : Sto) (fr1 fr2 : Bool) : Prop where
  f1 : fr1 = true
  f2 : fr2 = false
  bot : lastOf s2 tA = 0
  n1 : (s2.pls 65536).length = 2
  n2 : (s4.pls 131072).length = 1
  kept : ∀ l : List Nm, l.Perm (s5.vs.map (·.1)) → l.Pairwise (fun a b => ltM a b = true) → l = [(tA, 65536), (tA, 131072), (tB, 65536)]
  len : s5.vs.length ≤ 12
  st0 : (hdOf (mlook s5.vs (tA, 65536))).stamp = 9
  st1 : (hdOf (mlook s5.vs (tA, 131072))).stamp = -1
  st2 : (hdOf (mlook s5.vs (tB, 65536))).stamp = -1
  lat : (latest s5 tA).value = tZ
  las : lastOf s5 tB = 65536
  dr1 : ∃ h, mlook s5.vs (tA, 131072) = some h ∧ h.stamp = -1
  dr2 : mlook s5.vs (tC, 131072) = none
theorem known_law {s1 s2 s3 s4 s5 : Sto} {fr1 fr2 fr4 : Bool} (p1 : PutV Sto.emp s1 65536 l1 [tA, tB] 5 fr1) (p2 : PutV s1 s2 65536 l1 [tA, tB] 5 fr2) (i2 : SInv s2) (c3 : ComV s2 s3 65536 6 (s2.pls 65536))
    (p4 : PutV s3 s4 131072 l2 [tA, tC] 7 fr4) (i4 : SInv s4) (c5 : ComV s4 s5 131072 9 (s4.pls 131072)) (i5 : SInv s5) : KnownL s2 s4 s5 fr1 fr2 := by
  have emp : ∀ m, mlook Sto.emp.vs m = none := fun m => rfl
  have mA : (tA, tX) ∈ l1 := by simp [l1]
  have mB : (tB, tY) ∈ l1 := by simp [l1]
  have neg : ∀ k, ¬ (65536 < lastOf Sto.emp k) := fun k => by simp [lastOf, Sto.emp, mlook_nil]
  -- after the first Put
  obtain ⟨k1, _, a1⟩ := p1.new _ mA (emp _)
  obtain ⟨k2, _, b1⟩ := p1.new _ mB (emp _)
  rw [if_neg (neg _)] at a1 b1
  have o1 : ∀ m : Nm, (m.2 ≠ 65536 ∨ m.1 ∉ [tA, tB]) → mlook s1.vs m = none := fun m h => (p1.other m (by simpa using h)).trans (emp m)
  -- the second changes nothing
  have e2 : ∀ m, mlook s2.vs m = mlook s1.vs m := fun m => by
    by_cases h : m.2 = 65536 ∧ m.1 ∈ l1.map (·.1)
    rotate_left
    · exact p2.other m (if h1 : m.2 = 65536 then .inr (fun h2 => h ⟨h1, h2⟩) else .inl h1)
    · obtain ⟨h1, h2⟩ := h
      simp -implicitDefEqProofs only [l1, List.map_cons, List.map_nil, List.mem_cons, List.not_mem_nil, or_false] at h2
      obtain ⟨k, n⟩ := m
      simp only at h1 h2
      subst h1
      rcases h2 with rfl | rfl
      · rw [a1]; exact p2.old _ mA _ a1
      · rw [b1]; exact p2.old _ mB _ b1
  have ls2 : s2.ls = [] := p2.ls.trans p1.ls
  have last2 : ∀ k, lastOf s2 k = 0 := fun k => by simp [lastOf, ls2, mlook_nil]
  have some1 : ∀ m, (mlook s1.vs m).isSome = true ↔ m = (tA, 65536) ∨ m = (tB, 65536) := fun m => by
    constructor
    · intro h
      have h1 : m.2 = 65536 ∧ m.1 ∈ [tA, tB] := Classical.byContradiction fun hh => by
        rw [o1 m (if h1 : m.2 = 65536 then .inr (fun h2 => hh ⟨h1, h2⟩) else .inl h1)] at h; cases h
      simp -implicitDefEqProofs only [List.mem_cons, List.not_mem_nil, or_false] at h1
      obtain ⟨h1, h2 | h2⟩ := h1
      · exact .inl (Prod.ext h2 h1)
      · exact .inr (Prod.ext h2 h1)
    · rintro (rfl | rfl)
      · rw [a1]; rfl
      · rw [b1]; rfl
  have pl2 : ∀ k, k ∈ s2.pls 65536 ↔ k ∈ [tA, tB] := fun k => by
    rw [i2.plm, e2, some1]; simp
  -- the first Commit stamps nothing
  have e3 : ∀ m, mlook s3.vs m = mlook s1.vs m := fun m => by
    rw [← e2]
    obtain ⟨h1, h2⟩ := c3.vs.2 m
    cases e : mlook s2.vs m with
    | none => exact h1 e
    | some x =>
      refine (h2 x e).2 fun hh => ?_
      have h3 := (some1 m).1 (by rw [← e2, e]; rfl)
      rcases h3 with rfl | rfl
      · exact absurd hh.1.2.2 (by simp)
      · exact absurd hh.1.2.2 (by simp)
  have ls3A : mlook s3.ls tA = some 65536 := c3.on tA ((pl2 _).2 (by simp)) (by rw [last2]; decide)
  have ls3B : mlook s3.ls tB = some 65536 := c3.on tB ((pl2 _).2 (by simp)) (by rw [last2]; decide)
  -- the third Put
  have a4n : mlook s3.vs (tA, 131072) = none := by rw [e3]; exact o1 _ (.inl (by simp))
  obtain ⟨k4, _, a4⟩ := p4.new (tA, tZ) (by simp [l2]) a4n
  have neg4 : ¬ (131072 < lastOf s3 tA) := by simp [lastOf, ls3A]
  rw [if_neg neg4] at a4
  have o4 : ∀ m : Nm, m ≠ (tA, 131072) → mlook s4.vs m = mlook s1.vs m := fun m h => by
    rw [← e3]
    refine p4.other m ?_
    by_cases h1 : m.2 = 131072
    · right
      simp -implicitDefEqProofs only [l2, List.map_cons, List.map_nil, List.mem_singleton]
      exact fun h2 => h (Prod.ext h2 h1)
    · exact .inl h1
  have last4A : lastOf s4 tA = 65536 := by simp [lastOf, p4.ls, ls3A]
  have some4 : ∀ m, (mlook s4.vs m).isSome = true ↔ m = (tA, 65536) ∨ m = (tB, 65536) ∨ m = (tA, 131072) := fun m => by
    by_cases h : m = (tA, 131072)
    · subst h; rw [a4]; simp
    · rw [o4 m h, some1]; simp [h]
  have pl4 : ∀ k, k ∈ s4.pls 131072 ↔ k ∈ [tA] := fun k => by
    rw [i4.plm, some4]; simp
  -- the second Commit
  have a4' : mlook s4.vs (tA, 65536) = some ⟨tX, k1, [tA, tB], -1⟩ := by rw [o4 _ (by simp)]; exact a1
  have b4' : mlook s4.vs (tB, 65536) = some ⟨tY, k2, [tA, tB], -1⟩ := by rw [o4 _ (by simp)]; exact b1
  have a5 := ((c5.vs.2 (tA, 65536)).2 _ a4').1 ⟨⟨(pl4 _).2 (by simp), by rw [last4A]; decide, by decide⟩, rfl⟩
  have z5 := ((c5.vs.2 (tA, 131072)).2 _ a4).2 fun hh => absurd hh.1.2.2 (by simp)
  have b5 := ((c5.vs.2 (tB, 65536)).2 _ b4').2 fun hh => by
    have := (pl4 tB).1 hh.1.1
    simp -implicitDefEqProofs only [List.mem_singleton] at this
    exact nAB this.symm
  have some5 : ∀ m, m ∈ s5.vs.map (·.1) ↔ m ∈ [((tA, 65536) : Nm), (tA, 131072), (tB, 65536)] := fun m => by
    rw [mem_keys, c5.vs.some, some4]
    simp -implicitDefEqProofs only [List.mem_cons, List.not_mem_nil, or_false]
    exact ⟨fun h => by rcases h with h | h | h <;> simp [h], fun h => by rcases h with h | h | h <;> simp [h]⟩
  have lt01 : ltM (tA, 65536) (tA, 131072) = true := (ltM_iff _ _).2 (.inr ⟨rfl, by decide⟩)
  have lt12 : ltM (tA, 131072) (tB, 65536) = true := (ltM_iff _ _).2 (.inl lAB)
  have srt : [((tA, 65536) : Nm), (tA, 131072), (tB, 65536)].Pairwise (fun a b => ltM a b = true) := by
    simp [lt01, lt12, ltM_trans lt01 lt12]
  have ls5A : mlook s5.ls tA = some 131072 := c5.on tA ((pl4 _).2 (by simp)) (by rw [last4A]; decide)
  have ls5B : mlook s5.ls tB = some 65536 := by
    rw [c5.off tB fun hh => by
      have := (pl4 tB).1 hh.1
      simp -implicitDefEqProofs only [List.mem_singleton] at this
      exact nAB this.symm, p4.ls]
    exact ls3B
  refine ⟨p1.fresh.2 ⟨_, mA, emp _⟩, ?_, last2 _, ?_, ?_, fun l hp hs => sorted_eq l _ hs srt fun x => by rw [hp.mem_iff, some5], ?_, by rw [a5]; rfl, by rw [z5]; rfl, by rw [b5]; rfl, ?_, by simp [lastOf, ls5B], ⟨_, z5, rfl⟩, ?_⟩
  · cases e : fr2 with
    | false => rfl
    | true =>
      obtain ⟨p, hp, hn⟩ := p2.fresh.1 e
      simp -implicitDefEqProofs only [l1, List.mem_cons, List.not_mem_nil, or_false] at hp
      rcases hp with rfl | rfl
      · rw [a1] at hn; cases hn
      · rw [b1] at hn; cases hn
  · exact len_eq (i2.pnd _) (by simp [nAB]) pl2
  · exact len_eq (i4.pnd _) (by simp) pl4
  · have := len_eq i5.nd (l' := [((tA, 65536) : Nm), (tA, 131072), (tB, 65536)]) (by simp [nAB]) some5
    simp -implicitDefEqProofs only [List.length_map, List.length_cons, List.length_nil] at this
    omega
  · simp [latest, ls5A, z5, hdOf]
  · have h := (some5 (tC, 131072))
    rw [mem_keys] at h
    cases e : mlook s5.vs (tC, 131072) with
    | none => rfl
    | some x =>
      rw [e] at h
      have := h.1 rfl
      simp [nAC.symm, nBC.symm] at this
end Go.Proofs.Ytbkgokabcnogdaa.St
end

/-! text StoreU -/
section
namespace Go.Proofs.Ytbkgokabcnogdaa.St
open Go.Rmp Go.Proofs.Ytbkgokabcnogdaa.Ir
set_option maxRecDepth 10000
theorem SH.ext {H H' : Heap} {b : Bk} {s : Sto} {F : Nat → Prop} (h : SH H b s F) (hx : Ext H H') : SH H' b s F := by
  obtain ⟨im, pm, sa⟩ := h
  exact ⟨im, pm, sa.frm (ext_frm (F := fun _ => False) hx) (fun _ _ _ h => h)⟩
theorem Frm.more {H H' H'' : Heap} {G : Nat → Prop} (h : Frm (fun _ => False) H H') (h' : Frm G H' H'') (hg : ∀ c, G c → H.length ≤ c) : Frm (fun _ => False) H H'' := h.trans h' fun c hc => .inr (hg c hc)
theorem Frm.ext {H H' H'' : Heap} {F : Nat → Prop} (h : Frm F H H') (h' : Ext H' H'') : Frm F H H'' := h.trans (ext_frm (F := fun _ => False) h') fun c hc => hc.elim
theorem frm_ext {H H' : Heap} (h : Frm (fun _ => False) H H') : Ext H H' := ext_of fun c x hx => h.get hx id
theorem li0 {k : SK} {a b c : List T} (h : a.length = 5) : iadT 5 0 (.sl k [a, b, c]) = some (.iptr a) := by simp [iadT, h]
theorem li1 {k : SK} {a b c : List T} (h : b.length = 5) : iadT 5 1 (.sl k [a, b, c]) = some (.iptr b) := by simp [iadT, h]
theorem li2 {k : SK} {a b c : List T} (h : c.length = 5) : iadT 5 2 (.sl k [a, b, c]) = some (.iptr c) := by simp [iadT, h]
theorem known8 (H : Heap) : W env (.call 8 []) H (RetG (.bool true) H) := by
  refine W.fnI rfl rfl rfl ?_
  simp -implicitDefEqProofs only [ir8, op, ef, cl, sq, reduceIte, Int.reduceLT, Int.reduceLE, Int.reduceBEq, Int.reduceBNe, Int.reduceEq, Nat.reduceAdd, Nat.reduceLeDiff, Nat.reduceLT, Nat.reduceEqDiff, S1]
  refine callB_of _ _ _ _ _ _ _ _ (new7 _) ?_
  rintro u H0 ⟨hx0, b, F0, hu, sh0, hF0⟩
  cases hu
  simp -implicitDefEqProofs only [op, ef, cl, sq, reduceIte, Int.reduceLT, Int.reduceLE, Int.reduceBEq, Int.reduceBNe, Int.reduceEq, Nat.reduceAdd, Nat.reduceLeDiff, Nat.reduceLT, Nat.reduceEqDiff, S1, eqRef, nilOf]
  have hp1 : ((flatP l1).map eS) = [[T.str ⟨#[97]⟩], [T.str ⟨#[120]⟩], [T.str ⟨#[98]⟩], [T.str ⟨#[121]⟩]] := rfl
  have hp2 : ((flatP l2).map eS) = [[T.str ⟨#[97]⟩], [T.str ⟨#[122]⟩]] := rfl
  refine callB_of _ _ _ _ _ _ _ _ (pairs29 .full l1 _ (by decide)) ?_
  rintro u H1 ⟨hx1, kw1, hu⟩
  cases hu
  simp -implicitDefEqProofs only [op, ef, cl, sq, reduceIte, Int.reduceLT, Int.reduceLE, Int.reduceBEq, Int.reduceBNe, Int.reduceEq, Nat.reduceAdd, Nat.reduceLeDiff, Nat.reduceLT, Nat.reduceEqDiff, S1]
  refine callB_of _ _ _ _ _ _ _ _ (put28 b Sto.emp F0 65536 kw1 .full l1 [tA, tB] 5 _ (sh0.ext hx1) SInv.emp (by decide) (fun h => by cases h) mayKnown1 ⟨by decide, by decide⟩) ?_
  rintro u H2 ⟨s1, F1, fr1, hu, sh1, i1, p1, n1, g1, hF1⟩
  cases hu
  simp -implicitDefEqProofs only [op, ef, cl, sq, reduceIte, Int.reduceLT, Int.reduceLE, Int.reduceBEq, Int.reduceBNe, Int.reduceEq, Nat.reduceAdd, Nat.reduceLeDiff, Nat.reduceLT, Nat.reduceEqDiff, S1]
  refine callB_of _ _ _ _ _ _ _ _ (pairs29 .full l1 _ (by decide)) ?_
  rintro u H3 ⟨hx3, kw3, hu⟩
  cases hu
  simp -implicitDefEqProofs only [op, ef, cl, sq, reduceIte, Int.reduceLT, Int.reduceLE, Int.reduceBEq, Int.reduceBNe, Int.reduceEq, Nat.reduceAdd, Nat.reduceLeDiff, Nat.reduceLT, Nat.reduceEqDiff, S1]
  refine callB_of _ _ _ _ _ _ _ _ (put28 b s1 F1 65536 kw3 .full l1 [tA, tB] 5 _ (sh1.ext hx3) i1 (by simp [Sto.emp] at n1; simp; omega) (fun h => by cases h) mayKnown1 ⟨by decide, by decide⟩) ?_
  rintro u H4 ⟨s2, F2, fr2, hu, sh2, i2, p2, n2, g2, hF2⟩
  cases hu
  simp -implicitDefEqProofs only [op, ef, cl, sq, reduceIte, Int.reduceLT, Int.reduceLE, Int.reduceBEq, Int.reduceBNe, Int.reduceEq, Nat.reduceAdd, Nat.reduceLeDiff, Nat.reduceLT, Nat.reduceEqDiff, S1]
  have f0 : Frm (fun _ => False) H H0 := ext_frm hx0
  have len0 := hx0.len
  have len1 := hx1.len
  have len2 := g1.1
  have len3 := hx3.len
  have len4 := g2.1
  have b1 : ∀ c, F1 c → H.length ≤ c ∧ c < H2.length := fun c h => by
    rcases hF1 c h with h | h
    · have := hF0 c h; omega
    · omega
  have b2 : ∀ c, F2 c → H.length ≤ c ∧ c < H4.length := fun c h => by
    rcases hF2 c h with h | h
    · have := b1 c h; omega
    · omega
  have f4 : Frm (fun _ => False) H H4 := (((f0.ext hx1).more g1 fun c h => (hF0 c h).1).ext hx3).more g2 fun c h => (b1 c h).1
  refine callB_of _ _ _ _ _ _ _ _ (latest16 b s2 F2 tA _ sh2 i2) ?_
  rintro u H5 ⟨hx5, kk5, _, hu⟩
  cases hu
  have len5 := hx5.len
  simp -implicitDefEqProofs only [op, ef, cl, sq, reduceIte, Int.reduceLT, Int.reduceLE, Int.reduceBEq, Int.reduceBNe, Int.reduceEq, Nat.reduceAdd, Nat.reduceLeDiff, Nat.reduceLT, Nat.reduceEqDiff, S1, S2, eVer]
  refine callB_of _ _ _ _ _ _ _ _ (commit14 b s2 F2 65536 6 _ ((sh2.ext hx5).ext ⟨_, rfl⟩) i2 (by simp [Sto.emp] at n1 n2; omega) (by decide) ⟨by decide, by decide⟩) ?_
  rintro u H6 ⟨s3, hu, sh3, i3, c3, n3, _, _, g3⟩
  cases hu
  have len6 := g3.1
  rw [List.length_append, List.length_singleton] at len6
  have c6 : H6[H5.length]? = some (.cells [.str tA, .int .u64 (lastOf s2 tA : Nat), .str (latest s2 tA).value, .sl kk5 ((latest s2 tA).keys.map eS)]) := g3.get (by rw [g_tail rfl]) fun h => by have := (b2 _ h).2; omega
  have f6 : Frm (fun _ => False) H H6 := ((f4.ext hx5).app _).more g3 fun c h => (b2 c h).1
  simp -implicitDefEqProofs only [op, ef, cl, sq, reduceIte, Int.reduceLT, Int.reduceLE, Int.reduceBEq, Int.reduceBNe, Int.reduceEq, Nat.reduceAdd, Nat.reduceLeDiff, Nat.reduceLT, Nat.reduceEqDiff, S1]
  refine callB_of _ _ _ _ _ _ _ _ (pairs29 .full l2 _ (by decide)) ?_
  rintro u H7 ⟨hx7, kw7, hu⟩
  cases hu
  have len7 := hx7.len
  simp -implicitDefEqProofs only [op, ef, cl, sq, reduceIte, Int.reduceLT, Int.reduceLE, Int.reduceBEq, Int.reduceBNe, Int.reduceEq, Nat.reduceAdd, Nat.reduceLeDiff, Nat.reduceLT, Nat.reduceEqDiff, S1]
  refine callB_of _ _ _ _ _ _ _ _ (put28 b s3 F2 131072 kw7 .full l2 [tA, tC] 7 _ (sh3.ext hx7) i3 (by simp [Sto.emp] at n1 n2; simp; omega) (fun h => by cases h) mayKnown2 ⟨by decide, by decide⟩) ?_
  rintro u H8 ⟨s4, F4, fr4, hu, sh4, i4, p4, n4, g4, hF4⟩
  cases hu
  have len8 := g4.1
  have b4 : ∀ c, F4 c → H.length ≤ c ∧ c ≠ H5.length := fun c h => by
    rcases hF4 c h with h | h
    · have := b2 c h; omega
    · omega
  have c8 := g4.get (hx7.get c6) fun h => by have := (b2 _ h).2; omega
  have f8 : Frm (fun _ => False) H H8 := (f6.ext hx7).more g4 fun c h => (b2 c h).1
  simp -implicitDefEqProofs only [op, ef, cl, sq, reduceIte, Int.reduceLT, Int.reduceLE, Int.reduceBEq, Int.reduceBNe, Int.reduceEq, Nat.reduceAdd, Nat.reduceLeDiff, Nat.reduceLT, Nat.reduceEqDiff, S1]
  refine callB_of _ _ _ _ _ _ _ _ (commit14 b s4 F4 131072 9 _ sh4 i4 (by simp [Sto.emp] at n1 n2 n4; omega) (by decide) ⟨by decide, by decide⟩) ?_
  rintro u H9 ⟨s5, hu, sh5, i5, c5, n5, _, _, g5⟩
  cases hu
  have kl := known_law p1 p2 i2 c3 p4 i4 c5 i5
  have c9 := g5.get c8 fun h => (b4 _ h).2 rfl
  have f9 : Frm (fun _ => False) H H9 := f8.more g5 fun c h => (b4 c h).1
  simp -implicitDefEqProofs only [op, ef, cl, sq, reduceIte, Int.reduceLT, Int.reduceLE, Int.reduceBEq, Int.reduceBNe, Int.reduceEq, Nat.reduceAdd, Nat.reduceLeDiff, Nat.reduceLT, Nat.reduceEqDiff, S1]
  refine callB_of _ _ _ _ _ _ _ _ (kept20 b s5 F4 _ sh5 i5 (Nat.le_trans kl.len (by decide))) ?_
  rintro u H10 ⟨hx10, kw, l, _, hu, hperm, hpw⟩
  cases hu
  have hl := kl.kept l hperm hpw
  subst hl
  have c10 := hx10.get c9
  have hz : (0 : Nat) = 0 := rfl
  obtain ⟨h5, hh5, hst5⟩ := kl.dr1
  rw [kl.n1, kl.n2, kl.f1, kl.f2]
  rw [kl.bot] at c10
  have z0 : natOf (.int .i64 0) = some 0 := rfl
  have z1 : natOf (.int .i64 1) = some 1 := rfl
  have z2 : natOf (.int .i64 2) = some 2 := rfl
  simp -implicitDefEqProofs only [op, ef, cl, sq, reduceIte, Int.reduceLT, Int.reduceLE, Int.reduceBEq, Int.reduceBNe, Int.reduceEq, Nat.reduceAdd, Nat.reduceLeDiff, Nat.reduceLT, Nat.reduceEqDiff, S1, c10, keptL, kl.st0, kl.st1, kl.st2, eK, li0, li1, li2, z0, z1, z2]
  refine callB_of _ _ _ _ _ _ _ _ (latest16 b s5 F4 tA _ (sh5.ext hx10) i5) ?_
  rintro u H11 ⟨hx11, kk11, _, hu⟩
  cases hu
  rw [kl.lat]
  have eZ : (tZ = (⟨#[122]⟩ : ByteArray)) = True := eq_true rfl
  simp -implicitDefEqProofs only [op, ef, cl, sq, reduceIte, Int.reduceLT, Int.reduceLE, Int.reduceBEq, Int.reduceBNe, Int.reduceEq, Nat.reduceAdd, Nat.reduceLeDiff, Nat.reduceLT, Nat.reduceEqDiff, S1, eVer, eZ]
  refine callB_of _ _ _ _ _ _ _ _ (last17 b s5 F4 tB _ ((sh5.ext hx10).ext hx11)) ?_
  rintro u H12 ⟨hu, rfl⟩
  cases hu
  rw [kl.las]
  simp -implicitDefEqProofs only [op, ef, cl, sq, reduceIte, Int.reduceLT, Int.reduceLE, Int.reduceBEq, Int.reduceBNe, Int.reduceEq, Nat.reduceAdd, Nat.reduceLeDiff, Nat.reduceLT, Nat.reduceEqDiff, S1]
  refine callB_of _ _ _ _ _ _ _ _ (drop15 b s5 F4 tA 131072 _ ((sh5.ext hx10).ext hx11) i5 (by simp [Sto.emp] at n1 n2 n4; omega)) ?_
  rintro u H13 hd
  rcases hd with ⟨hd, _⟩ | ⟨h6, _, _, hu, hx13⟩ | ⟨h6, hd, hne, _⟩
  · rw [hh5] at hd; cases hd
  rotate_left
  · rw [hh5] at hd; cases hd; exact absurd hst5 hne
  cases hu
  simp -implicitDefEqProofs only [op, ef, cl, sq, reduceIte, Int.reduceLT, Int.reduceLE, Int.reduceBEq, Int.reduceBNe, Int.reduceEq, Nat.reduceAdd, Nat.reduceLeDiff, Nat.reduceLT, Nat.reduceEqDiff, S1]
  refine callB_of _ _ _ _ _ _ _ _ (drop15 b s5 F4 tC 131072 _ (((sh5.ext hx10).ext hx11).ext hx13) i5 (by simp [Sto.emp] at n1 n2 n4; omega)) ?_
  rintro u H14 hd
  rcases hd with ⟨_, hu, hx14⟩ | ⟨h6, hd, _⟩ | ⟨h6, hd, _⟩
  rotate_left
  · rw [kl.dr2] at hd; cases hd
  · rw [kl.dr2] at hd; cases hd
  cases hu
  simp -implicitDefEqProofs only [op, ef, cl, sq, reduceIte, Int.reduceLT, Int.reduceLE, Int.reduceBEq, Int.reduceBNe, Int.reduceEq, Nat.reduceAdd, Nat.reduceLeDiff, Nat.reduceLT, Nat.reduceEqDiff, S1]
  exact ⟨rfl, frm_ext ((((f9.ext hx10).ext hx11).ext hx13).ext hx14)⟩
end Go.Proofs.Ytbkgokabcnogdaa.St
end

/-! text StoreV -/
section
namespace Go.Proofs.Ytbkgokabcnogdaa.St
open Go.Rmp Go.Proofs.Ytbkgokabcnogdaa.Ir
set_option maxRecDepth 10000
theorem Frm.trans' {F G : Nat → Prop} {H H' H'' : Heap} (h : Frm F H H') (h' : Frm G H' H'') (hf : ∀ c, ¬ F c := by exact fun _ h => h) : Frm G H H'' := ⟨Nat.le_trans h.1 h'.1, fun c hc hg => by rw [h'.2 c (Nat.lt_of_lt_of_le hc h.1) hg, h.2 c hc (hf c)]⟩
structure Raw where
  kind : Int
  write : Int
  mask : Int
  value : ByteArray
def eR (r : Raw) : List T := [.int .i64 r.kind, .int .i64 r.write, .int .i64 r.mask, .str r.value]
def I64 (n : Int) : Prop := -9223372036854775808 ≤ n ∧ n ≤ 9223372036854775807
def RawOk (r : Raw) : Prop := I64 r.kind ∧ I64 r.write ∧ I64 r.mask
def pairsOf (ks : List ByteArray) (v : ByteArray) : List (ByteArray × ByteArray) := ks.map fun k => (k, v)
theorem pairsOf_keys (ks : List ByteArray) (v : ByteArray) : (pairsOf ks v).map (·.1) = ks := by simp [pairsOf, Function.comp_def]
theorem short_size (v : ByteArray) : (shortOf v).size ≤ 1000 := by
  unfold shortOf
  rw [ByteArray.size_extract]; omega
theorem setOf_good (m : Int) : GoodKeys (setOf m) := by
  have hr := (rises_iff _).1 (setOf_rises m)
  have hl := setOf_len m
  refine ⟨fun i hi x hx => ⟨?_, fun h0 y hy => ?_⟩, hl.1, by omega⟩
  · obtain ⟨j, _, rfl⟩ := setOf_key (List.mem_of_getElem? hx)
    rw [keyT_size]; omega
  · exact hr (i - 1) y x hy (by rw [show i - 1 + 1 = i by omega]; exact hx)
theorem may_put (w m : Int) (v : ByteArray) : MayP (idOf w) (pairsOf (setOf m) (shortOf v)) (setOf m) := by
  have hr := (rises_iff _).1 (setOf_rises m)
  have hl := setOf_len m
  have hs := short_size v
  refine ⟨(idOf_ge w).1, setOf_good m, by simp [pairsOf]; omega, fun i hi p hp => ?_⟩
  unfold pairsOf at hp
  rw [List.getElem?_map] at hp
  cases hk : (setOf m)[i]? with
  | none => rw [hk] at hp; cases hp
  | some k =>
    rw [hk] at hp; cases hp
    refine ⟨fun h0 q hq => ?_, List.mem_of_getElem? hk, by simp only; omega⟩
    unfold pairsOf at hq
    rw [List.getElem?_map] at hq
    cases hk2 : (setOf m)[i - 1]? with
    | none => rw [hk2] at hq; cases hq
    | some k2 => rw [hk2] at hq; cases hq; exact hr (i - 1) k2 k hk2 (by rw [show i - 1 + 1 = i by omega]; exact hk)
theorem put11 (b : Bk) (s : Sto) (F : Nat → Prop) (r : Raw) (now : Int) (H : Heap) (hs : SH H b s F) (hi : SInv s) (hn : s.n ≤ 900000) (hr : RawOk r) (ht : TickOk now) :
    W env (.call 11 [.ptr b.s 0, .agg (eR r), .int .i64 now]) H (PutQ b s F (idOf r.write) (pairsOf (setOf r.mask) (shortOf r.value)) (setOf r.mask) now H) := by
  refine W.fnI rfl rfl rfl ?_
  simp -implicitDefEqProofs only [ir11, eR, op, ef, cl, sq, reduceIte, Int.reduceLT, Int.reduceLE, Int.reduceBEq, Int.reduceBNe, Int.reduceEq, Nat.reduceAdd, Nat.reduceLeDiff, Nat.reduceLT, Nat.reduceEqDiff, S1, S2]
  refine callB_of _ _ _ _ _ _ _ _ (set18 r.mask _) ?_
  rintro u H1 ⟨hx1, ks, hko, hu⟩
  cases hu
  have hx0 : Ext H (H ++ [B.cells [T.int .i64 r.kind, .int .i64 r.write, .int .i64 r.mask, .str r.value]]) := ⟨_, rfl⟩
  have c1 : H1[H.length]? = some (.cells [.int .i64 r.kind, .int .i64 r.write, .int .i64 r.mask, .str r.value]) := hx1.get (g_tail rfl)
  have hsl := setOf_len r.mask
  simp -implicitDefEqProofs only [op, ef, cl, sq, reduceIte, Int.reduceLT, Int.reduceLE, Int.reduceBEq, Int.reduceBNe, Int.reduceEq, Nat.reduceAdd, Nat.reduceLeDiff, Nat.reduceLT, Nat.reduceEqDiff, S1]
  refine W.loopI (fun (i : Nat) R H' => At H' (fun H' => ∃ kw, R 9 = .sl kw ((pairsOf ((setOf r.mask).take i) (shortOf r.value)).map eP) ∧ Ext H1 H' ∧ Apd H1.length H' kw) ∧ R 0 = .ptr b.s 0 ∧ R 2 = .int .i64 now ∧ R 4 = .ptr H.length 0 ∧ R 8 = .sl ks ((setOf r.mask).map eS) ∧ R 10 = .int .i64 i ∧ i ≤ (setOf r.mask).length) (fun i => (setOf r.mask).length - i) 0 ⟨.i ⟨.nil, rfl, Ext.rfl', apd_nil _ _⟩, rfl, rfl, rfl, rfl, rfl, Nat.zero_le _⟩ ?_
  rintro i R H2 ⟨⟨kw, h9, hx2, hap⟩, h0, h2, h4, h8, h10, hil⟩
  have c2 := hx2.get c1
  by_cases hlt : i < (setOf r.mask).length
  · obtain ⟨k, hk⟩ := getP hlt
    have ws := wrap_succ (show i < 9223372036854775807 by omega)
    have hia := iadX (e := eS) (n := 1) (fun _ => rfl) (by decide) (k := ks) hk
    simp -implicitDefEqProofs only [op, ef, cl, sq, reduceIte, Int.reduceLT, Int.reduceLE, Int.reduceBEq, Int.reduceBNe, Int.reduceEq, Nat.reduceAdd, Nat.reduceLeDiff, Nat.reduceLT, Nat.reduceEqDiff, S1, h0, h2, h4, h8, h9, h10, List.length_map, hlt, natOf_nat, hia, eS, c2]
    refine callB_of _ _ _ _ _ _ _ _ (short19 r.value _) ?_
    rintro u H3 ⟨hu, rfl⟩
    cases hu
    have hall := all_map (enc := eP) (n := 2) (fun _ => rfl) (pairsOf ((setOf r.mask).take i) (shortOf r.value))
    obtain ⟨k', H', ha, hap', hst⟩ := app_ok (bytes := 32) ((pairsOf ((setOf r.mask).take i) (shortOf r.value)).map eP) [[T.str k, .str (shortOf r.value)]] hap hx2.len (by simp) (roomS (by simp [pairsOf]; omega) (by omega))
    simp -implicitDefEqProofs only [op, ef, cl, sq, reduceIte, Int.reduceLT, Int.reduceLE, Int.reduceBEq, Int.reduceBNe, Int.reduceEq, Nat.reduceAdd, Nat.reduceLeDiff, Nat.reduceLT, Nat.reduceEqDiff, S1] at ha
    simp -implicitDefEqProofs only [op, ef, cl, sq, reduceIte, Int.reduceLT, Int.reduceLE, Int.reduceBEq, Int.reduceBNe, Int.reduceEq, Nat.reduceAdd, Nat.reduceLeDiff, Nat.reduceLT, Nat.reduceEqDiff, S1, h0, h2, h4, h8, h9, h10, hia, hall, ha, ws]
    refine ⟨i + 1, by omega, .i ⟨k', ?_, hst.ext H1 (Nat.le_refl _) hx2, hap'⟩, rfl, by omega⟩
    simp [take_sn hk, pairsOf, eP]
  · have hil' : i = (setOf r.mask).length := by omega
    subst hil'
    rw [List.take_length] at h9
    simp -implicitDefEqProofs only [op, ef, cl, sq, reduceIte, Int.reduceLT, Int.reduceLE, Int.reduceBEq, Int.reduceBNe, Int.reduceEq, Nat.reduceAdd, Nat.reduceLeDiff, Nat.reduceLT, Nat.reduceEqDiff, S1, h0, h2, h4, h8, h9, h10, List.length_map, hlt, c2]
    refine callB_of _ _ _ _ _ _ _ _ (id9 r.write hr.2.1 _) ?_
    rintro u H3 ⟨hu, rfl⟩
    cases hu
    have hxx := (hx0.trans hx1).trans hx2
    simp -implicitDefEqProofs only [op, ef, cl, sq, reduceIte, Int.reduceLT, Int.reduceLE, Int.reduceBEq, Int.reduceBNe, Int.reduceEq, Nat.reduceAdd, Nat.reduceLeDiff, Nat.reduceLT, Nat.reduceEqDiff, S1, h0, h2, h8, h9]
    refine callB_of _ _ _ _ _ _ _ _ (put28 b s F (idOf r.write) kw ks (pairsOf (setOf r.mask) (shortOf r.value)) (setOf r.mask) now _ (hs.ext hxx) hi (by simp [pairsOf]; omega) hko (may_put _ _ _) ht) ?_
    rintro u H4 ⟨s', F', fr, hu, q1, q2, q3, q4, q5, q6⟩
    cases hu
    simp -implicitDefEqProofs only [op, ef, cl, sq, reduceIte, Int.reduceLT, Int.reduceLE, Int.reduceBEq, Int.reduceBNe, Int.reduceEq, Nat.reduceAdd, Nat.reduceLeDiff, Nat.reduceLT, Nat.reduceEqDiff, S1]
    exact ⟨s', F', fr, rfl, q1, q2, q3, q4, (ext_frm (F := fun _ => False) hxx).trans' q5, fun c h => (q6 c h).imp id fun h => ⟨by have := hxx.len; omega, h.2⟩⟩
end Go.Proofs.Ytbkgokabcnogdaa.St
end

/-! text StoreWa -/
section
namespace Go.Proofs.Ytbkgokabcnogdaa.St
open Go.Rmp Go.Proofs.Ytbkgokabcnogdaa.Ir
set_option maxRecDepth 10000
/-- a version has the stamp of what is current just where it is not below the last -/
def Stm (s : Sto) : Prop := ∀ m h, mlook s.vs m = some h → (h.stamp = -1 ↔ ¬ (m.2 < lastOf s m.1))
theorem Stm.emp : Stm Sto.emp := fun m h hm => by simp [Sto.emp, mlook_nil] at hm
theorem Stm.put {s s' : Sto} {n : Nat} {ks : List ByteArray} {v : ByteArray} {now : Int} {fr : Bool} (hs : Stm s) (hp : PutV s s' n (pairsOf ks v) ks now fr) (ht : 0 ≤ now) : Stm s' := by
  have hl : ∀ k, lastOf s' k = lastOf s k := fun k => by simp [lastOf, hp.ls]
  intro m h hm
  rw [hl]
  by_cases hc : m.2 = n ∧ m.1 ∈ ks
  · obtain ⟨h1, h2⟩ := hc
    have hmem : (m.1, v) ∈ pairsOf ks v := List.mem_map.2 ⟨m.1, h2, rfl⟩
    have e : m = (m.1, n) := Prod.ext rfl h1
    cases hv : mlook s.vs (m.1, n) with
    | some x =>
      have := hp.old _ hmem x hv
      rw [e, this] at hm; cases hm
      exact hs m h (by rw [e]; exact hv)
    | none =>
      obtain ⟨kk, _, hnew⟩ := hp.new _ hmem hv
      rw [e, hnew] at hm; cases hm
      simp -implicitDefEqProofs only [h1]
      by_cases hlt : n < lastOf s m.1
      · simp [hlt]; omega
      · simp [hlt]
  · rw [hp.other m (if h1 : m.2 = n then .inr (by rw [pairsOf_keys]; exact fun h2 => hc ⟨h1, h2⟩) else .inl h1)] at hm
    exact hs m h hm
theorem com_on {s s' : Sto} {n : Nat} {now : Int} {D : List ByteArray} (hc : ComV s s' n now D) {k : ByteArray} (h1 : k ∈ D) (h2 : lastOf s k < n) : lastOf s' k = n := by simp [lastOf, hc.on k h1 h2]
theorem com_off {s s' : Sto} {n : Nat} {now : Int} {D : List ByteArray} (hc : ComV s s' n now D) {k : ByteArray} (h : ¬ (k ∈ D ∧ lastOf s k < n)) : lastOf s' k = lastOf s k := by simp [lastOf, hc.off k h]
theorem Stm.com {s s' : Sto} {n : Nat} {now : Int} {D : List ByteArray} (hs : Stm s) (hc : ComV s s' n now D) (ht : 0 ≤ now) : Stm s' := by
  intro m h hm
  obtain ⟨h1, h2⟩ := hc.vs.2 m
  cases hv : mlook s.vs m with
  | none => rw [h1 hv] at hm; cases hm
  | some x =>
    have hx := hs m x hv
    by_cases hS : (m.1 ∈ D ∧ lastOf s m.1 < n ∧ m.2 < n) ∧ x.stamp = -1
    · rw [(h2 x hv).1 hS] at hm; cases hm
      rw [com_on hc hS.1.1 hS.1.2.1]
      have e : (stamped x now).stamp = now := rfl
      have h3 := hS.1.2.2
      rw [e]
      constructor
      · intro h; omega
      · intro h; exact absurd h3 h
    · rw [(h2 x hv).2 hS] at hm; cases hm
      by_cases hd : m.1 ∈ D ∧ lastOf s m.1 < n
      · rw [com_on hc hd.1 hd.2]
        by_cases hlt : m.2 < n
        · have : h.stamp ≠ -1 := fun e => hS ⟨⟨hd.1, hd.2, hlt⟩, e⟩
          exact ⟨fun e => absurd e this, fun e => absurd hlt e⟩
        · have : ¬ (m.2 < lastOf s m.1) := by omega
          exact ⟨fun _ => hlt, fun _ => hx.2 this⟩
      · rw [com_off hc hd]; exact hx
theorem Stm.drop {s : Sto} (hi : SInv s) (hs : Stm s) (k : ByteArray) (n : Nat) : Stm (s.drop k n) := by
  intro m h hm
  simp -implicitDefEqProofs only [Sto.drop, mcut_look hi.nd] at hm
  split at hm
  · cases hm
  · exact hs m h hm
theorem SH.set1 {H : Heap} {b : Bk} {s : Sto} {F : Nat → Prop} {L : Nat} {x : B} (h : SH H b s F) (hF : ¬ F L) : SH (H.set L x) b s F := by
  obtain ⟨im, pm, h⟩ := h
  exact ⟨im, pm, h.frm (G := fun c => c = L) ⟨by simp, fun c _ hne => List.getElem?_set_ne (fun e => hne e.symm)⟩ fun c hc _ e => hF (e ▸ hc)⟩
end Go.Proofs.Ytbkgokabcnogdaa.St
end

/-! text StoreYa -/
section
namespace Go.Proofs.Ytbkgokabcnogdaa.St
open Go.Rmp Go.Proofs.Ytbkgokabcnogdaa.Ir
set_option maxRecDepth 10000
theorem texts37 (k k' : SK) (l : List ByteArray) (H : Heap) (hl : l.length ≤ 1000000) : W env (.call 37 [.sl k (l.map eS), .sl k' (l.map eS)]) H (fun o H' => o = .val (.bool true) ∧ H' = H) := by
  refine W.fnI rfl rfl rfl ?_
  have e0 : (((l.length : Nat) : Int) != ((l.length : Nat) : Int)) = false := by simp
  simp -implicitDefEqProofs only [ir37, op, ef, cl, sq, reduceIte, Int.reduceLT, Int.reduceLE, Int.reduceBEq, Int.reduceBNe, Int.reduceEq, Nat.reduceAdd, Nat.reduceLeDiff, Nat.reduceLT, Nat.reduceEqDiff, S1, List.length_map, e0]
  refine W.loopI (fun (i : Nat) R H' => H' = H ∧ R 0 = .sl k (l.map eS) ∧ R 1 = .sl k' (l.map eS) ∧ R 5 = .int .i64 i ∧ i ≤ l.length) (fun i => l.length - i) 0 ⟨rfl, rfl, rfl, rfl, Nat.zero_le _⟩ ?_
  rintro i R _ ⟨rfl, h0, h1, h5, hil⟩
  by_cases hlt : i < l.length
  · obtain ⟨x, hx⟩ := getP hlt
    have ws := wrap_succ (show i < 9223372036854775807 by omega)
    have i1 := iadX (e := eS) (n := 1) (fun _ => rfl) (by decide) (k := k) hx
    have i2 := iadX (e := eS) (n := 1) (fun _ => rfl) (by decide) (k := k') hx
    simp -implicitDefEqProofs only [op, ef, cl, sq, reduceIte, Int.reduceLT, Int.reduceLE, Int.reduceBEq, Int.reduceBNe, Int.reduceEq, Nat.reduceAdd, Nat.reduceLeDiff, Nat.reduceLT, Nat.reduceEqDiff, S1, h0, h1, h5, List.length_map, hlt, natOf_nat, i1, i2, eS, ws]
    exact ⟨i + 1, by omega, rfl, by omega⟩
  · simp -implicitDefEqProofs only [op, ef, cl, sq, reduceIte, Int.reduceLT, Int.reduceLE, Int.reduceBEq, Int.reduceBNe, Int.reduceEq, Nat.reduceAdd, Nat.reduceLeDiff, Nat.reduceLT, Nat.reduceEqDiff, S1, h0, h1, h5, List.length_map, hlt]
/-- a version as it is said -/
def eD (x : Nm × Hd) : List T := [.str x.1.1, .int .u64 x.1.2, .str x.2.value, .sl .arg (x.2.keys.map eS)]
theorem same22 (k : ByteArray) (n : Nat) (v : ByteArray) (kk kk' : SK) (ks : List ByteArray) (H : Heap) (hl : ks.length ≤ 1000000) : W env (.call 22 [.agg (eVer k n v kk ks), .agg (eVer k n v kk' ks)]) H (RetG (.bool true) H) := by
  refine W.fnI rfl rfl rfl ?_
  simp -implicitDefEqProofs only [ir22, eVer, op, ef, cl, sq, reduceIte, Int.reduceLT, Int.reduceLE, Int.reduceBEq, Int.reduceBNe, Int.reduceEq, Nat.reduceAdd, Nat.reduceLeDiff, Nat.reduceLT, Nat.reduceEqDiff, S1, S2, S3]
  refine callB_of _ _ _ _ _ _ _ _ (texts37 kk kk' ks _ hl) ?_
  rintro u H1 ⟨hu, rfl⟩
  cases hu
  simp -implicitDefEqProofs only [op, ef, cl, sq, reduceIte, Int.reduceLT, Int.reduceLE, Int.reduceBEq, Int.reduceBNe, Int.reduceEq, Nat.reduceAdd, Nat.reduceLeDiff, Nat.reduceLT, Nat.reduceEqDiff, S1]
  exact ⟨rfl, _, List.append_assoc _ _ _⟩
/-- what stamps asks of one version -/
structure StOk (s : Sto) (A0 : List (Nm × Hd)) (now : Int) (x : Nm × Hd) : Prop where
  cur : x.2.stamp = -1 ↔ ¬ (x.1.2 < lastOf s x.1.1)
  pos : x.2.stamp = -1 ∨ 0 ≤ x.2.stamp
  old : ∀ y ∈ A0, y.1 = x.1 → x.2.stamp = y.2.stamp ∨ (y.2.stamp = -1 ∧ x.2.stamp = now)
  new : (∀ y ∈ A0, y.1 ≠ x.1) → x.2.stamp = -1 ∨ x.2.stamp = now
theorem stamps21 (b : Bk) (s : Sto) (F : Nat → Prop) (k1 k2 : SK) (A0 A1 : List (Nm × Hd)) (now : Int) (H : Heap) (hs : SH H b s F) (h0 : A0.length ≤ 1000000) (h1 : A1.length ≤ 1000000) (hA : ∀ x ∈ A1, StOk s A0 now x) :
    W env (.call 21 [.sl k1 (A0.map eK), .sl k2 (A1.map eK), .ptr b.s 0, .int .i64 now]) H (RetG (.bool true) H) := by
  refine W.fnI rfl rfl rfl ?_
  simp -implicitDefEqProofs only [ir21, op, ef, cl, sq, reduceIte, Int.reduceLT, Int.reduceLE, Int.reduceBEq, Int.reduceBNe, Int.reduceEq, Nat.reduceAdd, Nat.reduceLeDiff, Nat.reduceLT, Nat.reduceEqDiff, S1]
  refine W.loopI (fun (i : Nat) R H' => At H' (fun H' => Ext H H') ∧ R 0 = .sl k1 (A0.map eK) ∧ R 1 = .sl k2 (A1.map eK) ∧ R 2 = .ptr b.s 0 ∧ R 3 = .int .i64 now ∧ R 9 = .int .i64 i ∧ i ≤ A1.length) (fun i => A1.length - i) 0 ⟨.i Ext.rfl', rfl, rfl, rfl, rfl, rfl, Nat.zero_le _⟩ ?_
  rintro i R H1 ⟨⟨w, hw⟩, r0, r1, r2, r3, r9, hi⟩
  have hx1 : Ext H H1 := ⟨w, hw⟩
  by_cases hlt : i < A1.length
  rotate_left
  · simp -implicitDefEqProofs only [op, ef, cl, sq, reduceIte, Int.reduceLT, Int.reduceLE, Int.reduceBEq, Int.reduceBNe, Int.reduceEq, Nat.reduceAdd, Nat.reduceLeDiff, Nat.reduceLT, Nat.reduceEqDiff, S1, r0, r1, r2, r3, r9, List.length_map, hlt]
    exact ⟨rfl, hx1⟩
  obtain ⟨⟨m, hd⟩, hx⟩ := getP hlt
  have hok := hA _ (List.mem_of_getElem? hx)
  obtain ⟨c1, c2, c3, c4⟩ := hok
  simp only at c1 c2 c3 c4
  have ws := wrap_succ (show i < 9223372036854775807 by omega)
  have i1 := iadX (e := eK) (n := 5) (fun _ => rfl) (by decide) (k := k2) hx
  simp -implicitDefEqProofs only [op, ef, cl, sq, reduceIte, Int.reduceLT, Int.reduceLE, Int.reduceBEq, Int.reduceBNe, Int.reduceEq, Nat.reduceAdd, Nat.reduceLeDiff, Nat.reduceLT, Nat.reduceEqDiff, S1, S2, r0, r1, r2, r3, r9, List.length_map, hlt, natOf_nat, i1, eK]
  refine callB_of _ _ _ _ _ _ _ _ (last17 b s F m.1 _ (hs.ext (hx1.app _))) ?_
  rintro u H2 ⟨hu, rfl⟩
  cases hu
  obtain ⟨st, hst⟩ : ∃ st, st = hd.stamp := ⟨_, rfl⟩
  rw [← hst] at c1 c2 c3 c4
  have hH2 : (H1 ++ [B.cells [T.str m.1, .int .u64 m.2, .str hd.value, .sl .arg (hd.keys.map eS)]])[H1.length]? = some (.cells [T.str m.1, .int .u64 m.2, .str hd.value, .sl .arg (hd.keys.map eS)]) := g_tail rfl
  have hx2 : Ext H (H1 ++ [B.cells [T.str m.1, .int .u64 m.2, .str hd.value, .sl .arg (hd.keys.map eS)]]) := hx1.app _
  generalize hHH : H1 ++ [B.cells [T.str m.1, .int .u64 m.2, .str hd.value, .sl .arg (hd.keys.map eS)]] = H2 at *
  simp -implicitDefEqProofs only [op, ef, cl, sq, reduceIte, Int.reduceLT, Int.reduceLE, Int.reduceBEq, Int.reduceBNe, Int.reduceEq, Nat.reduceAdd, Nat.reduceLeDiff, Nat.reduceLT, Nat.reduceEqDiff, S1, hH2, r0, r1, r2, r3, r9]
  have tail : ∀ (old : Int), ((old = -2 ∧ ∀ y ∈ A0, y.1 ≠ m) ∨ ∃ y ∈ A0, y.1 = m ∧ old = y.2.stamp) → (0 ≤ old → st = old) ∧ (old < 0 → m.2 < lastOf s m.1 → st = now) := by
    rintro old (⟨rfl, hno⟩ | ⟨y, hy, hym, rfl⟩)
    · refine ⟨fun h => by omega, fun _ hl => ?_⟩
      rcases c4 hno with h | h
      · exact absurd hl (c1.1 h)
      · exact h
    · refine ⟨fun h => ?_, fun h hl => ?_⟩
      · rcases c3 y hy hym with h' | h'
        · exact h'
        · omega
      · rcases c3 y hy hym with h' | h'
        · rcases c2 with c2 | c2
          · exact absurd hl (c1.1 c2)
          · omega
        · exact h'.2
  by_cases hbl : m.2 < lastOf s m.1
  · have hst0 : 0 ≤ st := by rcases c2 with c | c; exact absurd hbl (c1.1 c); exact c
    simp -implicitDefEqProofs only [op, ef, cl, sq, reduceIte, Int.reduceLT, Int.reduceLE, Int.reduceBEq, Int.reduceBNe, Int.reduceEq, Nat.reduceAdd, Nat.reduceLeDiff, Nat.reduceLT, Nat.reduceEqDiff, S1, hH2, r0, r1, r2, r3, r9, hbl, natOf_nat, i1, eK, ← hst, hst0]
    refine W.loopE 2 (fun (j : Nat) R H' => H' = H2 ∧ R 0 = .sl k1 (A0.map eK) ∧ R 1 = .sl k2 (A1.map eK) ∧ R 2 = .ptr b.s 0 ∧ R 3 = .int .i64 now ∧ R 9 = .int .i64 i ∧ R 10 = .ptr H1.length 0 ∧ R 11 = .bool true ∧ R 13 = .int .i64 j ∧ j ≤ A0.length ∧ ∃ old, R 12 = .int .i64 old ∧ ((old = -2 ∧ ∀ y ∈ A0.take j, y.1 ≠ m) ∨ ∃ y ∈ A0, y.1 = m ∧ old = y.2.stamp)) (fun j => A0.length - j) 0
      (fun R H' => H' = H2 ∧ R 0 = .sl k1 (A0.map eK) ∧ R 1 = .sl k2 (A1.map eK) ∧ R 2 = .ptr b.s 0 ∧ R 3 = .int .i64 now ∧ R 9 = .int .i64 i ∧ R 10 = .ptr H1.length 0 ∧ R 11 = .bool true ∧ ∃ old, R 12 = .int .i64 old ∧ ((old = -2 ∧ ∀ y ∈ A0, y.1 ≠ m) ∨ ∃ y ∈ A0, y.1 = m ∧ old = y.2.stamp)) ?_ ?_ ?_
    · refine ⟨rfl, ?_, ?_, ?_, ?_, ?_, ?_, ?_, ?_, Nat.zero_le _, -2, ?_, .inl ⟨rfl, by simp⟩⟩
      all_goals simp -implicitDefEqProofs only [op, ef, cl, sq, reduceIte, Int.reduceLT, Int.reduceLE, Int.reduceBEq, Int.reduceBNe, Int.reduceEq, Nat.reduceAdd, Nat.reduceLeDiff, Nat.reduceLT, Nat.reduceEqDiff, S1, r0, r1, r2, r3, r9]
      all_goals rfl
    · rintro j R H3 ⟨rfl, r0, r1, r2, r3, r9, r10, r11, r13, hj, old, r12, hold⟩
      by_cases hj2 : j < A0.length
      · obtain ⟨⟨m2, hd2⟩, hy⟩ := getP hj2
        have i2 := iadX (e := eK) (n := 5) (fun _ => rfl) (by decide) (k := k1) hy
        have wj := wrap_succ (show j < 9223372036854775807 by omega)
        by_cases hk : m2.1 = m.1
        · by_cases hn : m2.2 = m.2
          · have en : ((m2.2 : Int) == (m.2 : Int)) = true := by rw [hn]; simp
            simp -implicitDefEqProofs only [op, ef, cl, sq, reduceIte, Int.reduceLT, Int.reduceLE, Int.reduceBEq, Int.reduceBNe, Int.reduceEq, Nat.reduceAdd, Nat.reduceLeDiff, Nat.reduceLT, Nat.reduceEqDiff, S1, r0, r1, r2, r3, r9, r10, r11, r12, r13, List.length_map, hj2, natOf_nat, i2, eK, hH2, hk, en, wj]
            exact ⟨j + 1, by omega, rfl, by omega, hd2.stamp, rfl, .inr ⟨_, List.mem_of_getElem? hy, Prod.ext hk hn, rfl⟩⟩
          · have en : ((m2.2 : Int) == (m.2 : Int)) = false := by simp; omega
            simp -implicitDefEqProofs only [op, ef, cl, sq, reduceIte, Int.reduceLT, Int.reduceLE, Int.reduceBEq, Int.reduceBNe, Int.reduceEq, Nat.reduceAdd, Nat.reduceLeDiff, Nat.reduceLT, Nat.reduceEqDiff, S1, r0, r1, r2, r3, r9, r10, r11, r12, r13, List.length_map, hj2, natOf_nat, i2, eK, hH2, hk, en, wj]
            refine ⟨j + 1, by omega, rfl, by omega, old, rfl, hold.imp (fun ⟨h1, h2⟩ => ⟨h1, fun y hy' => ?_⟩) id⟩
            rw [take_sn hy, List.mem_append, List.mem_singleton] at hy'
            rcases hy' with h | rfl
            · exact h2 y h
            · exact fun e => hn (by rw [← e])
        · simp -implicitDefEqProofs only [op, ef, cl, sq, reduceIte, Int.reduceLT, Int.reduceLE, Int.reduceBEq, Int.reduceBNe, Int.reduceEq, Nat.reduceAdd, Nat.reduceLeDiff, Nat.reduceLT, Nat.reduceEqDiff, S1, r0, r1, r2, r3, r9, r10, r11, r12, r13, List.length_map, hj2, natOf_nat, i2, eK, hH2, hk, wj]
          refine ⟨j + 1, by omega, rfl, by omega, old, rfl, hold.imp (fun ⟨h1, h2⟩ => ⟨h1, fun y hy' => ?_⟩) id⟩
          rw [take_sn hy, List.mem_append, List.mem_singleton] at hy'
          rcases hy' with h | rfl
          · exact h2 y h
          · exact fun e => hk (by rw [← e])
      · have hj3 : j = A0.length := by omega
        subst hj3
        rw [List.take_length] at hold
        simp -implicitDefEqProofs only [op, ef, cl, sq, reduceIte, Int.reduceLT, Int.reduceLE, Int.reduceBEq, Int.reduceBNe, Int.reduceEq, Nat.reduceAdd, Nat.reduceLeDiff, Nat.reduceLT, Nat.reduceEqDiff, S1, r0, r1, r2, r3, r9, r10, r11, r12, r13, List.length_map, hj2]
        exact ⟨old, rfl, hold⟩
    · rintro R H3 ⟨rfl, r0, r1, r2, r3, r9, r10, r11, old, r12, hold⟩
      obtain ⟨t1, t2⟩ := tail old hold
      by_cases ho : 0 ≤ old
      · have e1 : (hd.stamp != old) = false := by rw [← hst, t1 ho]; simp
        have hneg : ¬ (old < 0) := by omega
        simp -implicitDefEqProofs only [op, ef, cl, sq, reduceIte, Int.reduceLT, Int.reduceLE, Int.reduceBEq, Int.reduceBNe, Int.reduceEq, Nat.reduceAdd, Nat.reduceLeDiff, Nat.reduceLT, Nat.reduceEqDiff, S1, r0, r1, r2, r3, r9, r10, r11, r12, natOf_nat, i1, eK, hH2, ho, e1, hneg, ws]
        exact ⟨i + 1, by omega, .i hx2, rfl, by omega⟩
      · have hneg : old < 0 := by omega
        have e1 : (hd.stamp != now) = false := by rw [← hst, t2 hneg hbl]; simp
        simp -implicitDefEqProofs only [op, ef, cl, sq, reduceIte, Int.reduceLT, Int.reduceLE, Int.reduceBEq, Int.reduceBNe, Int.reduceEq, Nat.reduceAdd, Nat.reduceLeDiff, Nat.reduceLT, Nat.reduceEqDiff, S1, r0, r1, r2, r3, r9, r10, r11, r12, natOf_nat, i1, eK, hH2, ho, e1, hneg, ws]
        exact ⟨i + 1, by omega, .i hx2, rfl, by omega⟩
  · have hst1 : st = -1 := c1.2 hbl
    subst hst1
    simp -implicitDefEqProofs only [op, ef, cl, sq, reduceIte, Int.reduceLT, Int.reduceLE, Int.reduceBEq, Int.reduceBNe, Int.reduceEq, Nat.reduceAdd, Nat.reduceLeDiff, Nat.reduceLT, Nat.reduceEqDiff, S1, hH2, r0, r1, r2, r3, r9, hbl, natOf_nat, i1, eK, ← hst]
    refine W.loopE 2 (fun (j : Nat) R H' => H' = H2 ∧ R 0 = .sl k1 (A0.map eK) ∧ R 1 = .sl k2 (A1.map eK) ∧ R 2 = .ptr b.s 0 ∧ R 3 = .int .i64 now ∧ R 9 = .int .i64 i ∧ R 10 = .ptr H1.length 0 ∧ R 11 = .bool false ∧ R 13 = .int .i64 j ∧ j ≤ A0.length ∧ ∃ old, R 12 = .int .i64 old ∧ ((old = -2 ∧ ∀ y ∈ A0.take j, y.1 ≠ m) ∨ ∃ y ∈ A0, y.1 = m ∧ old = y.2.stamp)) (fun j => A0.length - j) 0
      (fun R H' => H' = H2 ∧ R 0 = .sl k1 (A0.map eK) ∧ R 1 = .sl k2 (A1.map eK) ∧ R 2 = .ptr b.s 0 ∧ R 3 = .int .i64 now ∧ R 9 = .int .i64 i ∧ R 10 = .ptr H1.length 0 ∧ R 11 = .bool false ∧ ∃ old, R 12 = .int .i64 old ∧ ((old = -2 ∧ ∀ y ∈ A0, y.1 ≠ m) ∨ ∃ y ∈ A0, y.1 = m ∧ old = y.2.stamp)) ?_ ?_ ?_
    · refine ⟨rfl, ?_, ?_, ?_, ?_, ?_, ?_, ?_, ?_, Nat.zero_le _, -2, ?_, .inl ⟨rfl, by simp⟩⟩
      all_goals simp -implicitDefEqProofs only [op, ef, cl, sq, reduceIte, Int.reduceLT, Int.reduceLE, Int.reduceBEq, Int.reduceBNe, Int.reduceEq, Nat.reduceAdd, Nat.reduceLeDiff, Nat.reduceLT, Nat.reduceEqDiff, S1, r0, r1, r2, r3, r9]
      all_goals rfl
    · rintro j R H3 ⟨rfl, r0, r1, r2, r3, r9, r10, r11, r13, hj, old, r12, hold⟩
      by_cases hj2 : j < A0.length
      · obtain ⟨⟨m2, hd2⟩, hy⟩ := getP hj2
        have i2 := iadX (e := eK) (n := 5) (fun _ => rfl) (by decide) (k := k1) hy
        have wj := wrap_succ (show j < 9223372036854775807 by omega)
        by_cases hk : m2.1 = m.1
        · by_cases hn : m2.2 = m.2
          · have en : ((m2.2 : Int) == (m.2 : Int)) = true := by rw [hn]; simp
            simp -implicitDefEqProofs only [op, ef, cl, sq, reduceIte, Int.reduceLT, Int.reduceLE, Int.reduceBEq, Int.reduceBNe, Int.reduceEq, Nat.reduceAdd, Nat.reduceLeDiff, Nat.reduceLT, Nat.reduceEqDiff, S1, r0, r1, r2, r3, r9, r10, r11, r12, r13, List.length_map, hj2, natOf_nat, i2, eK, hH2, hk, en, wj]
            exact ⟨j + 1, by omega, rfl, by omega, hd2.stamp, rfl, .inr ⟨_, List.mem_of_getElem? hy, Prod.ext hk hn, rfl⟩⟩
          · have en : ((m2.2 : Int) == (m.2 : Int)) = false := by simp; omega
            simp -implicitDefEqProofs only [op, ef, cl, sq, reduceIte, Int.reduceLT, Int.reduceLE, Int.reduceBEq, Int.reduceBNe, Int.reduceEq, Nat.reduceAdd, Nat.reduceLeDiff, Nat.reduceLT, Nat.reduceEqDiff, S1, r0, r1, r2, r3, r9, r10, r11, r12, r13, List.length_map, hj2, natOf_nat, i2, eK, hH2, hk, en, wj]
            refine ⟨j + 1, by omega, rfl, by omega, old, rfl, hold.imp (fun ⟨h1, h2⟩ => ⟨h1, fun y hy' => ?_⟩) id⟩
            rw [take_sn hy, List.mem_append, List.mem_singleton] at hy'
            rcases hy' with h | rfl
            · exact h2 y h
            · exact fun e => hn (by rw [← e])
        · simp -implicitDefEqProofs only [op, ef, cl, sq, reduceIte, Int.reduceLT, Int.reduceLE, Int.reduceBEq, Int.reduceBNe, Int.reduceEq, Nat.reduceAdd, Nat.reduceLeDiff, Nat.reduceLT, Nat.reduceEqDiff, S1, r0, r1, r2, r3, r9, r10, r11, r12, r13, List.length_map, hj2, natOf_nat, i2, eK, hH2, hk, wj]
          refine ⟨j + 1, by omega, rfl, by omega, old, rfl, hold.imp (fun ⟨h1, h2⟩ => ⟨h1, fun y hy' => ?_⟩) id⟩
          rw [take_sn hy, List.mem_append, List.mem_singleton] at hy'
          rcases hy' with h | rfl
          · exact h2 y h
          · exact fun e => hk (by rw [← e])
      · have hj3 : j = A0.length := by omega
        subst hj3
        rw [List.take_length] at hold
        simp -implicitDefEqProofs only [op, ef, cl, sq, reduceIte, Int.reduceLT, Int.reduceLE, Int.reduceBEq, Int.reduceBNe, Int.reduceEq, Nat.reduceAdd, Nat.reduceLeDiff, Nat.reduceLT, Nat.reduceEqDiff, S1, r0, r1, r2, r3, r9, r10, r11, r12, r13, List.length_map, hj2]
        exact ⟨old, rfl, hold⟩
    · rintro R H3 ⟨rfl, r0, r1, r2, r3, r9, r10, r11, old, r12, hold⟩
      obtain ⟨t1, t2⟩ := tail old hold
      have ho : ¬ (0 ≤ old) := fun h => by have := t1 h; omega
      have hneg : old < 0 := by omega
      simp -implicitDefEqProofs only [op, ef, cl, sq, reduceIte, Int.reduceLT, Int.reduceLE, Int.reduceBEq, Int.reduceBNe, Int.reduceEq, Nat.reduceAdd, Nat.reduceLeDiff, Nat.reduceLT, Nat.reduceEqDiff, S1, r0, r1, r2, r3, r9, r10, r11, r12, natOf_nat, i1, eK, hH2, ho, hneg, ws]
      exact ⟨i + 1, by omega, .i hx2, rfl, by omega⟩
end Go.Proofs.Ytbkgokabcnogdaa.St
end

/-! text StoreYb -/
section
namespace Go.Proofs.Ytbkgokabcnogdaa.St
open Go.Rmp Go.Proofs.Ytbkgokabcnogdaa.Ir
set_option maxRecDepth 10000
/-- stamps are not below 0 but -1 -/
def StN (s : Sto) : Prop := ∀ m h, mlook s.vs m = some h → h.stamp = -1 ∨ 0 ≤ h.stamp
theorem StN.emp : StN Sto.emp := fun m h hm => by simp [Sto.emp, mlook_nil] at hm
/-- what a step does to the stamps -/
def Stp (s s' : Sto) (now : Int) : Prop := ∀ m h', mlook s'.vs m = some h' → (∀ h, mlook s.vs m = some h → h'.stamp = h.stamp ∨ (h.stamp = -1 ∧ h'.stamp = now)) ∧ (mlook s.vs m = none → h'.stamp = -1 ∨ h'.stamp = now)
/-- the names of a store -/
def nms (s : Sto) : List Nm := s.vs.map (·.1)
theorem mem_nms {s : Sto} {m : Nm} : m ∈ nms s ↔ (mlook s.vs m).isSome = true := by
  unfold nms
  constructor
  · intro h
    cases e : mlook s.vs m with
    | some _ => rfl
    | none => exact absurd h (mlook_none.1 e)
  · intro h
    exact Classical.byContradiction fun hn => by rw [mlook_none.2 hn] at h; cases h
theorem StN.put {s s' : Sto} {n : Nat} {ks : List ByteArray} {v : ByteArray} {now : Int} {fr : Bool} (hs : StN s) (hp : PutV s s' n (pairsOf ks v) ks now fr) (ht : 0 ≤ now) : StN s' ∧ Stp s s' now := by
  have key : ∀ m h', mlook s'.vs m = some h' → (mlook s.vs m = some h') ∨ (mlook s.vs m = none ∧ (h'.stamp = -1 ∨ h'.stamp = now)) := by
    intro m h hm
    by_cases hc : m.2 = n ∧ m.1 ∈ ks
    · obtain ⟨h1, h2⟩ := hc
      have hmem : (m.1, v) ∈ pairsOf ks v := List.mem_map.2 ⟨m.1, h2, rfl⟩
      have e : m = (m.1, n) := Prod.ext rfl h1
      cases hv : mlook s.vs (m.1, n) with
      | some x =>
        have := hp.old _ hmem x hv
        rw [e, this] at hm; cases hm
        exact .inl (by rw [e]; exact hv)
      | none =>
        obtain ⟨kk, _, hnew⟩ := hp.new _ hmem hv
        rw [e, hnew] at hm; cases hm
        refine .inr ⟨by rw [e]; exact hv, ?_⟩
        simp only
        split
        · exact .inr rfl
        · exact .inl rfl
    · rw [hp.other m (if h1 : m.2 = n then .inr (by rw [pairsOf_keys]; exact fun h2 => hc ⟨h1, h2⟩) else .inl h1)] at hm
      exact .inl hm
  constructor
  · intro m h hm
    rcases key m h hm with h1 | ⟨_, h1⟩
    · exact hs m h h1
    · rcases h1 with h1 | h1
      · exact .inl h1
      · exact .inr (by omega)
  · intro m h' hm
    rcases key m h' hm with h1 | ⟨h0, h1⟩
    · exact ⟨fun h hh => .inl (by rw [h1] at hh; cases hh; rfl), fun hh => by rw [h1] at hh; cases hh⟩
    · exact ⟨fun h hh => (by rw [h0] at hh; cases hh), fun _ => h1⟩
theorem StN.com {s s' : Sto} {n : Nat} {now : Int} {D : List ByteArray} (hs : StN s) (hc : ComV s s' n now D) (ht : 0 ≤ now) : StN s' ∧ Stp s s' now := by
  have key : ∀ m h', mlook s'.vs m = some h' → ∃ h, mlook s.vs m = some h ∧ (h' = h ∨ (h.stamp = -1 ∧ h'.stamp = now)) := by
    intro m h' hm
    obtain ⟨h1, h2⟩ := hc.vs.2 m
    cases hv : mlook s.vs m with
    | none => rw [h1 hv] at hm; cases hm
    | some x =>
      refine ⟨x, rfl, ?_⟩
      by_cases hS : (m.1 ∈ D ∧ lastOf s m.1 < n ∧ m.2 < n) ∧ x.stamp = -1
      · rw [(h2 x hv).1 hS] at hm; cases hm; exact .inr ⟨hS.2, rfl⟩
      · rw [(h2 x hv).2 hS] at hm; cases hm; exact .inl rfl
  constructor
  · intro m h' hm
    obtain ⟨h, hh, rfl | ⟨_, h2⟩⟩ := key m h' hm
    · exact hs m _ hh
    · exact .inr (by omega)
  · intro m h' hm
    obtain ⟨h, hh, h1⟩ := key m h' hm
    refine ⟨fun x hx => ?_, fun hx => by rw [hx] at hh; cases hh⟩
    rw [hx] at hh; cases hh
    rcases h1 with rfl | h1
    · exact .inl rfl
    · exact .inr h1
theorem com_nms {s s' : Sto} {n : Nat} {now : Int} {D : List ByteArray} (hi : SInv s) (hc : ComV s s' n now D) : (nms s').Perm (nms s) := by
  refine (List.perm_ext_iff_of_nodup hc.vs.1 hi.nd).2 fun m => ?_
  have h := hc.vs.some m
  show m ∈ nms s' ↔ m ∈ nms s
  rw [mem_nms, mem_nms, h]
/-- what is said is there -/
def SdOk (s : Sto) (D : List (Nm × Hd)) : Prop := ∀ x ∈ D, ∃ h, mlook s.vs x.1 = some h ∧ h.value = x.2.value ∧ h.keys = x.2.keys ∧ x.2.keys.length ≤ 3
theorem SdOk.com {s s' : Sto} {n : Nat} {now : Int} {E : List ByteArray} {D : List (Nm × Hd)} (hd : SdOk s D) (hc : ComV s s' n now E) : SdOk s' D := by
  intro x hx
  obtain ⟨h, h1, h2, h3, h4⟩ := hd x hx
  obtain ⟨_, c2⟩ := hc.vs.2 x.1
  by_cases hS : (x.1.1 ∈ E ∧ lastOf s x.1.1 < n ∧ x.1.2 < n) ∧ h.stamp = -1
  · exact ⟨_, (c2 h h1).1 hS, h2, h3, h4⟩
  · exact ⟨_, (c2 h h1).2 hS, h2, h3, h4⟩
/-- what a put says anew -/
def newD (s : Sto) (n : Nat) (v : ByteArray) (ks l : List ByteArray) : List (Nm × Hd) := (l.filter fun k => (mlook s.vs (k, n)).isNone).map fun k => ((k, n), ⟨v, .arg, ks, 0⟩)
theorem newD_snoc (s : Sto) (n : Nat) (v : ByteArray) (ks l : List ByteArray) (k : ByteArray) : newD s n v ks (l ++ [k]) = newD s n v ks l ++ (if mlook s.vs (k, n) = none then [((k, n), ⟨v, .arg, ks, 0⟩)] else []) := by
  unfold newD
  rw [List.filter_append, List.map_append]
  cases h : mlook s.vs (k, n) <;> simp [h]
theorem SdOk.put {s s' : Sto} {n : Nat} {ks : List ByteArray} {v : ByteArray} {now : Int} {fr : Bool} {D : List (Nm × Hd)} (hd : SdOk s D) (hp : PutV s s' n (pairsOf ks v) ks now fr) (h3 : ks.length ≤ 3) : SdOk s' (D ++ newD s n v ks ks) := by
  intro x hx
  rcases List.mem_append.1 hx with hx | hx
  · obtain ⟨h, h1, h2, h3, h4⟩ := hd x hx
    refine ⟨h, ?_, h2, h3, h4⟩
    by_cases hc : x.1.2 = n ∧ x.1.1 ∈ ks
    · have hmem : (x.1.1, v) ∈ pairsOf ks v := List.mem_map.2 ⟨x.1.1, hc.2, rfl⟩
      have e : x.1 = (x.1.1, n) := Prod.ext rfl hc.1
      rw [e] at h1 ⊢
      exact hp.old _ hmem h h1
    · rw [hp.other x.1 (if h1 : x.1.2 = n then .inr (by rw [pairsOf_keys]; exact fun h2 => hc ⟨h1, h2⟩) else .inl h1)]; exact h1
  · obtain ⟨k, hk, rfl⟩ := List.mem_map.1 hx
    rw [List.mem_filter, Option.isNone_iff_eq_none] at hk
    obtain ⟨kk, _, hnew⟩ := hp.new (k, v) (List.mem_map.2 ⟨k, hk.1, rfl⟩) hk.2
    exact ⟨_, hnew, rfl, rfl, h3⟩
theorem put_nms {s s' : Sto} {n : Nat} {ks : List ByteArray} {v : ByteArray} {now : Int} {fr : Bool} (hi : SInv s) (hi' : SInv s') (hk : ks.Nodup) (hp : PutV s s' n (pairsOf ks v) ks now fr) : (nms s').Perm (nms s ++ (newD s n v ks ks).map (·.1)) := by
  have e : (newD s n v ks ks).map (·.1) = (ks.filter fun k => (mlook s.vs (k, n)).isNone).map fun k => (k, n) := by simp [newD, Function.comp_def]
  rw [e]
  have hnd : (nms s ++ (ks.filter fun k => (mlook s.vs (k, n)).isNone).map fun k => (k, n)).Nodup := by
    rw [List.nodup_append]
    refine ⟨hi.nd, (List.Pairwise.map _ (fun a b hab h => hab (by cases h; rfl)) (hk.filter _)), ?_⟩
    rintro a ha b hb rfl
    obtain ⟨k, hk, rfl⟩ := List.mem_map.1 hb
    rw [List.mem_filter, Option.isNone_iff_eq_none] at hk
    rw [mem_nms, hk.2] at ha; cases ha
  refine (List.perm_ext_iff_of_nodup hi'.nd hnd).2 fun m => ?_
  show m ∈ nms s' ↔ _
  rw [List.mem_append, mem_nms, mem_nms, List.mem_map]
  by_cases hc : m.2 = n ∧ m.1 ∈ ks
  · have hmem : (m.1, v) ∈ pairsOf ks v := List.mem_map.2 ⟨m.1, hc.2, rfl⟩
    have e : m = (m.1, n) := Prod.ext rfl hc.1
    constructor
    · intro _
      cases hv : mlook s.vs (m.1, n) with
      | some x => left; rw [e, hv]; rfl
      | none => right; exact ⟨m.1, List.mem_filter.2 ⟨hc.2, by rw [hv]; rfl⟩, e.symm⟩
    · intro _
      cases hv : mlook s.vs (m.1, n) with
      | some x => rw [e, hp.old _ hmem x hv]; rfl
      | none => obtain ⟨kk, _, hnew⟩ := hp.new _ hmem hv; rw [e, hnew]; rfl
  · rw [hp.other m (if h1 : m.2 = n then .inr (by rw [pairsOf_keys]; exact fun h2 => hc ⟨h1, h2⟩) else .inl h1)]
    constructor
    · exact .inl
    · rintro (h | ⟨k, hk, rfl⟩)
      · exact h
      · exact absurd ⟨rfl, (List.mem_filter.1 hk).1⟩ hc
/-- the kept versions of one state against those of the state ahead -/
theorem st_ok {s s' : Sto} {now : Int} {l0 l1 : List Nm} (hm : Stm s') (hn : StN s') (hp : Stp s s' now) (h0 : l0.Perm (nms s)) (h1 : l1.Perm (nms s')) : ∀ x ∈ keptL s' l1, StOk s' (keptL s l0) now x := by
  intro x hx
  obtain ⟨m, hm1, rfl⟩ := List.mem_map.1 hx
  have hs := mem_nms.1 (h1.mem_iff.1 hm1)
  cases e : mlook s'.vs m with
  | none => rw [e] at hs; cases hs
  | some h =>
    have e' : hdOf (some h) = h := rfl
    obtain ⟨q1, q2⟩ := hp m h e
    refine ⟨?_, ?_, ?_, ?_⟩
    · simp -implicitDefEqProofs only [e']; exact hm m h e
    · simp -implicitDefEqProofs only [e']; exact hn m h e
    · intro y hy hym
      obtain ⟨m2, hm2, rfl⟩ := List.mem_map.1 hy
      simp only at hym
      subst hym
      have hs2 := mem_nms.1 (h0.mem_iff.1 hm2)
      cases e2 : mlook s.vs m2 with
      | none => rw [e2] at hs2; cases hs2
      | some h2 => simp -implicitDefEqProofs only [e', show hdOf (some h2) = h2 from rfl]; exact q1 h2 e2
    · intro hno
      simp -implicitDefEqProofs only [e']
      refine q2 (Classical.byContradiction fun hne => ?_)
      have : m ∈ nms s := mem_nms.2 (by cases e2 : mlook s.vs m with | none => exact absurd e2 hne | some _ => rfl)
      exact hno _ (List.mem_map.2 ⟨m, h0.mem_iff.2 this, rfl⟩) rfl
end Go.Proofs.Ytbkgokabcnogdaa.St
end

/-! text StoreYc -/
section
namespace Go.Proofs.Ytbkgokabcnogdaa.St
open Go.Rmp Go.Proofs.Ytbkgokabcnogdaa.Ir
set_option maxRecDepth 10000
set_option maxHeartbeats 8000000
theorem setOf_nodup (m : Int) : (setOf m).Nodup := by
  unfold setOf
  split
  · simp
  · exact (keysN_rises m 3 (by decide)).imp fun {a b} h e => by rw [e, lt_irr] at h; cases h
/-- a list that grows, its room not the store's -/
def ApF (F : Nat → Prop) (H : Heap) (k : SK) : Prop := k = .nil ∨ k = .full ∨ ∃ t e, k = .own t e ∧ ¬ F t ∧ H[t]? = some (.tok e)
theorem ApF.frm {F F' G : Nat → Prop} {H H' : Heap} {k : SK} (h : ApF F H k) (hf : Frm G H H') (hG : ∀ c, G c → F c) (hF : ∀ c, F' c → F c ∨ H.length ≤ c) : ApF F' H' k := by
  rcases h with h | h | ⟨t, e, h, h1, h2⟩
  · exact .inl h
  · exact .inr (.inl h)
  · refine .inr (.inr ⟨t, e, h, fun h3 => ?_, hf.get h2 fun h3 => h1 (hG _ h3)⟩)
    rcases hF _ h3 with h4 | h4
    · exact h1 h4
    · have := glt h2; omega
theorem ApF.ext {F : Nat → Prop} {H H' : Heap} {k : SK} (h : ApF F H k) (hx : Ext H H') : ApF F H' k := h.frm (ext_frm (F := fun _ => False) hx) (fun _ h => h.elim) fun _ h => .inl h
theorem ApF.set {F : Nat → Prop} {H : Heap} {k : SK} (h : ApF F H k) {c : Nat} {x : B} (hx : H[c]? = some x) (ht : ∀ e, x ≠ .tok e) (y : B) : ApF F (H.set c y) k := by
  rcases h with h | h | ⟨t, e, h, h1, h2⟩
  · exact .inl h
  · exact .inr (.inl h)
  · refine .inr (.inr ⟨t, e, h, h1, ?_⟩)
    have : c ≠ t := by rintro rfl; rw [hx] at h2; cases h2; exact ht _ rfl
    rw [g_ne this]; exact h2
theorem app_okF {F : Nat → Prop} {H : Heap} {k : SK} {bytes : Nat} (es new : List (List T)) (hk : ApF F H k) (hF : ∀ c, F c → c < H.length) (hnew : new ≠ []) (hr : roomOk (es.length + new.length) bytes = true) :
    ∃ k' H', appT H bytes k es new = some (.sl k' (es ++ new.map (·.map T.erase)), H') ∧ ApF F H' k' ∧ Frm (fun c => ∃ e, k = .own c e) H H' := by
  unfold appT
  cases new with
  | nil => exact absurd rfl hnew
  | cons c new =>
    simp -implicitDefEqProofs only [hr, if_true]
    rcases hk with rfl | rfl | ⟨t, e, rfl, ht, hg⟩
    · exact ⟨_, _, rfl, .inr (.inr ⟨_, _, rfl, fun h => by have := hF _ h; omega, g_tail rfl⟩), (Frm.refl _ _).app _⟩
    · exact ⟨_, _, rfl, .inr (.inr ⟨_, _, rfl, fun h => by have := hF _ h; omega, g_tail rfl⟩), (Frm.refl _ _).app _⟩
    · simp -implicitDefEqProofs only [hg, if_true]
      exact ⟨_, _, rfl, .inr (.inr ⟨_, _, rfl, ht, g_eq (glt hg)⟩), (Frm.refl _ _).set (.inl ⟨_, rfl⟩) _⟩
theorem ApF.no {F : Nat → Prop} {H : Heap} {k : SK} (h : ApF F H k) {c : Nat} {x : B} (hx : H[c]? = some x) (ht : ∀ e, x ≠ .tok e) : ¬ ∃ e, k = .own c e := by
  rintro ⟨e, he⟩
  rcases h with h | h | ⟨t, e', h, _, h'⟩
  · rw [he] at h; cases h
  · rw [he] at h; cases h
  · rw [he] at h; cases h; rw [hx] at h'; cases h'; exact ht _ rfl
theorem SH.app {H H' : Heap} {b : Bk} {s : Sto} {F : Nat → Prop} {k : SK} (h : SH H b s F) (hk : ApF F H k) (hf : Frm (fun c => ∃ e, k = .own c e) H H') : SH H' b s F := by
  obtain ⟨im, pm, sa⟩ := h
  refine ⟨im, pm, sa.frm hf fun c hc _ ⟨e, he⟩ => ?_⟩
  rcases hk with h | h | ⟨t, e', h, h1, _⟩
  · rw [he] at h; cases h
  · rw [he] at h; cases h
  · rw [he] at h; cases h; exact h1 hc
/-- what holds between the calls -/
structure Sty (b : Bk) (s : Sto) (F : Nat → Prop) (l0 : List Nm) (D : List (Nm × Hd)) (i : Nat) : Prop where
  inv : SInv s
  stm : Stm s
  stn : StN s
  n : s.n ≤ 3 * i
  l0 : l0.Perm (nms s)
  dn : (D.map (·.1)).Perm (nms s)
  dok : SdOk s D
  dl : D.length ≤ 3 * i
theorem Sty.emp (b : Bk) (F : Nat → Prop) : Sty b Sto.emp F [] [] 0 := ⟨SInv.emp, Stm.emp, StN.emp, Nat.le_refl _, List.Perm.nil, List.Perm.nil, by simp [SdOk], Nat.le_refl _⟩
theorem Sty.vl {b : Bk} {s : Sto} {F : Nat → Prop} {l0 : List Nm} {D : List (Nm × Hd)} {i : Nat} (h : Sty b s F l0 D i) : s.vs.length = D.length := by
  have := h.dn.length_eq
  simp -implicitDefEqProofs only [nms, List.length_map] at this
  exact this.symm
theorem fresh_eq {s s' : Sto} {n : Nat} {ks : List ByteArray} {v : ByteArray} {now : Int} {fr : Bool} (hp : PutV s s' n (pairsOf ks v) ks now fr) : fr = !(newD s n v ks ks).isEmpty := by
  have key : (newD s n v ks ks).isEmpty = false ↔ ∃ p ∈ pairsOf ks v, mlook s.vs (p.1, n) = none := by
    rw [List.isEmpty_eq_false_iff_exists_mem]
    constructor
    · rintro ⟨x, hx⟩
      obtain ⟨k, hk, rfl⟩ := List.mem_map.1 hx
      rw [List.mem_filter, Option.isNone_iff_eq_none] at hk
      exact ⟨(k, v), List.mem_map.2 ⟨k, hk.1, rfl⟩, hk.2⟩
    · rintro ⟨p, hp, hn⟩
      obtain ⟨k, hk, rfl⟩ := List.mem_map.1 hp
      exact ⟨_, List.mem_map.2 ⟨k, List.mem_filter.2 ⟨hk, by rw [hn]; rfl⟩, rfl⟩⟩
  rw [← hp.fresh] at key
  cases fr <;> cases h : (newD s n v ks ks).isEmpty <;> simp [h] at key ⊢
theorem stays4 (k0 : SK) (l : List Raw) (H : Heap) (hr : ∀ r ∈ l, RawOk r) (hl : l.length ≤ 1048576) : W env (.call 4 [.sl k0 (l.map eR)]) H (fun o _ => o = .val (.bool true)) := by
  refine W.fnI rfl rfl rfl ?_
  simp -implicitDefEqProofs only [ir4, op, ef, cl, sq, reduceIte, Int.reduceLT, Int.reduceLE, Int.reduceBEq, Int.reduceBNe, Int.reduceEq, Nat.reduceAdd, Nat.reduceLeDiff, Nat.reduceLT, Nat.reduceEqDiff, S1]
  refine callB_of _ _ _ _ _ _ _ _ (new7 _) ?_
  rintro u H1 ⟨hx1, b, F, hu, sh1, hF1⟩
  cases hu
  simp -implicitDefEqProofs only [op, ef, cl, sq, reduceIte, Int.reduceLT, Int.reduceLE, Int.reduceBEq, Int.reduceBNe, Int.reduceEq, Nat.reduceAdd, Nat.reduceLeDiff, Nat.reduceLT, Nat.reduceEqDiff, S1]
  refine callB_of _ _ _ _ _ _ _ _ (known8 _) ?_
  rintro u H2 ⟨hu, hx2⟩
  have hx2 : Ext H1 H2 := hx2
  cases hu
  simp -implicitDefEqProofs only [op, ef, cl, sq, reduceIte, Int.reduceLT, Int.reduceLE, Int.reduceBEq, Int.reduceBNe, Int.reduceEq, Nat.reduceAdd, Nat.reduceLeDiff, Nat.reduceLT, Nat.reduceEqDiff, S1, eqRef, nilOf]
  refine W.loopE 0 (fun (i : Nat) R H' => At H' (fun H' => ∃ s F l0 kb D kd, SH H' b s F ∧ Sty b s F l0 D i ∧ (∀ c, F c → c < H'.length) ∧ R 5 = .sl kb ((keptL s l0).map eK) ∧ R 4 = .sl kd (D.map eD) ∧ ApF F H' kd) ∧ R 0 = .sl k0 (l.map eR) ∧ R 3 = .ptr b.s 0 ∧ R 6 = .int .i64 i ∧ i ≤ 100) (fun i => 100 - i) 0
    (fun R H' => At H' (fun H' => ∃ s F D kd, SH H' b s F ∧ SInv s ∧ SdOk s D ∧ D.length ≤ 300 ∧ R 4 = .sl kd (D.map eD)) ∧ R 3 = .ptr b.s 0) ⟨.i ⟨Sto.emp, F, [], .nil, [], .nil, sh1.ext hx2, Sty.emp b F, fun c h => by have := (hF1 _ h).2; have := hx2.len; omega, rfl, rfl, .inl rfl⟩, rfl, rfl, rfl, by omega⟩ ?_ ?_
  · rintro i R H3 ⟨⟨s, F, l0, kb, D, kd, sh, st, hFb, h5, h4, hap⟩, h0, h3, h6, hi2⟩
    by_cases hlen : i < l.length
    rotate_left
    · simp -implicitDefEqProofs only [op, ef, cl, sq, reduceIte, Int.reduceLT, Int.reduceLE, Int.reduceBEq, Int.reduceBNe, Int.reduceEq, Nat.reduceAdd, Nat.reduceLeDiff, Nat.reduceLT, Nat.reduceEqDiff, S1, h0, h3, h4, h5, h6, List.length_map, hlen]
      exact .i ⟨s, F, D, kd, sh, st.inv, st.dok, by have := st.dl; omega, rfl⟩
    by_cases h100 : i < 100
    rotate_left
    · simp -implicitDefEqProofs only [op, ef, cl, sq, reduceIte, Int.reduceLT, Int.reduceLE, Int.reduceBEq, Int.reduceBNe, Int.reduceEq, Nat.reduceAdd, Nat.reduceLeDiff, Nat.reduceLT, Nat.reduceEqDiff, S1, h0, h3, h4, h5, h6, List.length_map, hlen, h100]
      exact .i ⟨s, F, D, kd, sh, st.inv, st.dok, by have := st.dl; omega, rfl⟩
    obtain ⟨r, hrg⟩ := getP hlen
    have hro := hr r (List.mem_of_getElem? hrg)
    have hia := iadX (e := eR) (n := 4) (fun _ => rfl) (by decide) (k := k0) hrg
    have ws := wrap_succ (show i < 9223372036854775807 by omega)
    have tko : TickOk (i : Int) := ⟨by omega, by omega⟩
    simp -implicitDefEqProofs only [op, ef, cl, sq, reduceIte, Int.reduceLT, Int.reduceLE, Int.reduceBEq, Int.reduceBNe, Int.reduceEq, Nat.reduceAdd, Nat.reduceLeDiff, Nat.reduceLT, Nat.reduceEqDiff, S1, S2, h0, h3, h4, h5, h6, List.length_map, hlen, h100, natOf_nat, hia, eR]
    have hx4 : Ext H3 (H3 ++ [B.cells [T.int .i64 r.kind, .int .i64 r.write, .int .i64 r.mask, .str r.value]]) := ⟨_, rfl⟩
    have shx := sh.ext hx4
    have hapx := hap.ext hx4
    have hFx : ∀ c, F c → c < (H3 ++ [B.cells [T.int .i64 r.kind, .int .i64 r.write, .int .i64 r.mask, .str r.value]]).length := fun c h => Nat.lt_of_lt_of_le (hFb c h) hx4.len
    have hRx : (H3 ++ [B.cells [T.int .i64 r.kind, .int .i64 r.write, .int .i64 r.mask, .str r.value]])[H3.length]? = some (.cells [T.int .i64 r.kind, .int .i64 r.write, .int .i64 r.mask, .str r.value]) := g_tail rfl
    generalize H3 ++ [B.cells [T.int .i64 r.kind, .int .i64 r.write, .int .i64 r.mask, .str r.value]] = H4 at *
    skip
    refine callB_of _ _ _ _ _ _ _ _ (rest10 r.kind 2 (by decide) hro.1 _) ?_
    rintro u H5 ⟨hu, rfl⟩
    cases hu
    obtain ⟨kd2, hkd⟩ : ∃ x, x = restI r.kind 2 := ⟨_, rfl⟩
    rw [← hkd]
    have hwg := idOf_ge r.write
    by_cases hk2 : kd2 = 2
    · subst hk2
      have ek : (((2 : Nat) : Int) == 2) = true := rfl
      simp -implicitDefEqProofs only [op, ef, cl, sq, reduceIte, Int.reduceLT, Int.reduceLE, Int.reduceBEq, Int.reduceBNe, Int.reduceEq, Nat.reduceAdd, Nat.reduceLeDiff, Nat.reduceLT, Nat.reduceEqDiff, S1, hRx, h0, h3, h4, h5, h6, ek]
      refine callB_of _ _ _ _ _ _ _ _ (id9 r.write hro.2.1 _) ?_
      rintro u H6 ⟨hu, rfl⟩
      cases hu
      simp -implicitDefEqProofs only [op, ef, cl, sq, reduceIte, Int.reduceLT, Int.reduceLE, Int.reduceBEq, Int.reduceBNe, Int.reduceEq, Nat.reduceAdd, Nat.reduceLeDiff, Nat.reduceLT, Nat.reduceEqDiff, S1, hRx, h0, h3, h4, h5, h6]
      refine callB_of _ _ _ _ _ _ _ _ (commit14 b s F (idOf r.write) i _ shx st.inv (by have := st.n; omega) hwg.1 tko) ?_
      rintro u H7 ⟨s2, hu, sh2, hi2', hcv, hn2, _, _, hfr⟩
      cases hu
      have hst2 := st.stm.com hcv (by omega)
      obtain ⟨hsn2, hstp⟩ := st.stn.com hcv (by omega)
      have hdn2 := st.dn.trans (com_nms st.inv hcv).symm
      have hdok2 := st.dok.com hcv
      have hFb2 : ∀ c, F c → c < H7.length := fun c h => Nat.lt_of_lt_of_le (hFx c h) hfr.1
      have hap2 := hapx.frm hfr (fun _ h => h) fun _ h => .inl h
      have hn3 : s2.n ≤ 3 * (i + 1) := by have := st.n; omega
      have hdl2 : D.length ≤ 3 * (i + 1) := by have := st.dl; omega
      simp -implicitDefEqProofs only [op, ef, cl, sq, reduceIte, Int.reduceLT, Int.reduceLE, Int.reduceBEq, Int.reduceBNe, Int.reduceEq, Nat.reduceAdd, Nat.reduceLeDiff, Nat.reduceLT, Nat.reduceEqDiff, S1, h0, h3, h4, h5, h6]
      refine callB_of _ _ _ _ _ _ _ _ (kept20 b s2 F _ sh2 hi2' (by have := (hdn2).length_eq; simp -implicitDefEqProofs only [nms, List.length_map] at this; omega)) ?_
      rintro u H9 ⟨hx9, kk9, l1, hko9, hu, hperm, hpw⟩
      cases hu
      have elen : (keptL s2 l1).length = (D).length := by
        have e1 := hperm.length_eq
        have e2 := (hdn2).length_eq
        simp -implicitDefEqProofs only [nms, List.length_map] at e1 e2
        simp -implicitDefEqProofs only [keptL, List.length_map]
        omega
      have e0 : ((((keptL s2 l1).length : Nat) : Int) != ((((D).length : Nat)) : Int)) = false := by rw [elen]; simp
      have dl9 := hdl2
      have dl0 : l0.length ≤ 600 := by
        have e1 := st.l0.length_eq
        have e2 := st.dn.length_eq
        have := st.dl
        simp -implicitDefEqProofs only [nms, List.length_map] at e1 e2
        omega
      simp -implicitDefEqProofs only [op, ef, cl, sq, reduceIte, Int.reduceLT, Int.reduceLE, Int.reduceBEq, Int.reduceBNe, Int.reduceEq, Nat.reduceAdd, Nat.reduceLeDiff, Nat.reduceLT, Nat.reduceEqDiff, S1, h0, h3, h4, h5, h6, List.length_map, e0]
      refine callB_of _ _ _ _ _ _ _ _ (stamps21 b s2 F kb kk9 (keptL s l0) (keptL s2 l1) i _ ((sh2).ext hx9) (by simp -implicitDefEqProofs only [keptL, List.length_map]; omega) (by omega) (st_ok hst2 hsn2 hstp st.l0 hperm)) ?_
      rintro u H10 ⟨hu, hx10⟩
      cases hu
      have hx10 : Ext H9 H10 := hx10
      have hxx := hx9.trans hx10
      simp -implicitDefEqProofs only [op, ef, cl, sq, reduceIte, Int.reduceLT, Int.reduceLE, Int.reduceBEq, Int.reduceBNe, Int.reduceEq, Nat.reduceAdd, Nat.reduceLeDiff, Nat.reduceLT, Nat.reduceEqDiff, S1, h0, h3, h4, h5, h6, List.length_map, e0, ws]
      exact ⟨i + 1, by omega, .i ⟨s2, F, l1, kk9, D, kd, (sh2).ext hxx, ⟨hi2', hst2, hsn2, hn3, hperm, hdn2, hdok2, dl9⟩, fun c h => Nat.lt_of_lt_of_le (hFb2 c h) hxx.len, rfl, rfl, (hap2).ext hxx⟩, rfl, by omega⟩
    · have ek : ((kd2 : Int) == 2) = false := by simp; omega
      simp -implicitDefEqProofs only [op, ef, cl, sq, reduceIte, Int.reduceLT, Int.reduceLE, Int.reduceBEq, Int.reduceBNe, Int.reduceEq, Nat.reduceAdd, Nat.reduceLeDiff, Nat.reduceLT, Nat.reduceEqDiff, S1, hRx, h0, h3, h4, h5, h6, ek]
      refine callB_of _ _ _ _ _ _ _ _ (set18 r.mask _) ?_
      rintro u H6 ⟨hx6, kk, hkk, hu⟩
      cases hu
      obtain ⟨w, hw⟩ : ∃ w, w = idOf r.write := ⟨_, rfl⟩
      obtain ⟨v, hv⟩ : ∃ v, v = shortOf r.value := ⟨_, rfl⟩
      obtain ⟨ks, hks⟩ : ∃ ks, ks = setOf r.mask := ⟨_, rfl⟩
      have hkl := setOf_len r.mask
      have hknd := setOf_nodup r.mask
      rw [← hks] at hkk hkl hknd ⊢
      have sh6 := shx.ext hx6
      have hap6 := hapx.ext hx6
      have hF6 : ∀ c, F c → c < H6.length := fun c h => Nat.lt_of_lt_of_le (hFx c h) hx6.len
      have hR6 := hx6.get hRx
      simp -implicitDefEqProofs only [op, ef, cl, sq, reduceIte, Int.reduceLT, Int.reduceLE, Int.reduceBEq, Int.reduceBNe, Int.reduceEq, Nat.reduceAdd, Nat.reduceLeDiff, Nat.reduceLT, Nat.reduceEqDiff, S1, h0, h3, h4, h5, h6]
      refine W.loopE 2 (fun (j : Nat) R H' => At H' (fun H' => ∃ kd', SH H' b s F ∧ ApF F H' kd' ∧ (∀ c, F c → c < H'.length) ∧ H'[H3.length]? = some (.cells [T.int .i64 r.kind, .int .i64 r.write, .int .i64 r.mask, .str r.value]) ∧ R 4 = .sl kd' ((D ++ newD s w v ks (ks.take j)).map eD) ∧ R 9 = .bool (!(newD s w v ks (ks.take j)).isEmpty)) ∧ R 0 = .sl k0 (l.map eR) ∧ R 3 = .ptr b.s 0 ∧ R 5 = .sl kb ((keptL s l0).map eK) ∧ R 6 = .int .i64 i ∧ R 7 = .ptr H3.length 0 ∧ R 8 = .sl kk (ks.map eS) ∧ R 10 = .int .i64 j ∧ j ≤ ks.length) (fun j => ks.length - j) 0
        (fun R H' => At H' (fun H' => ∃ kd', SH H' b s F ∧ ApF F H' kd' ∧ (∀ c, F c → c < H'.length) ∧ H'[H3.length]? = some (.cells [T.int .i64 r.kind, .int .i64 r.write, .int .i64 r.mask, .str r.value]) ∧ R 4 = .sl kd' ((D ++ newD s w v ks ks).map eD) ∧ R 9 = .bool (!(newD s w v ks ks).isEmpty)) ∧ R 0 = .sl k0 (l.map eR) ∧ R 3 = .ptr b.s 0 ∧ R 5 = .sl kb ((keptL s l0).map eK) ∧ R 6 = .int .i64 i ∧ R 7 = .ptr H3.length 0) ?_ ?_ ?_
      · refine ⟨.i ⟨kd, sh6, hap6, hF6, hR6, ?_, ?_⟩, ?_, ?_, ?_, ?_, ?_, ?_, ?_, Nat.zero_le _⟩
        · simp -implicitDefEqProofs only [op, ef, cl, sq, reduceIte, Int.reduceLT, Int.reduceLE, Int.reduceBEq, Int.reduceBNe, Int.reduceEq, Nat.reduceAdd, Nat.reduceLeDiff, Nat.reduceLT, Nat.reduceEqDiff, S1, h4, List.take_zero, newD, List.filter_nil, List.map_nil, List.append_nil]
        · simp -implicitDefEqProofs only [op, ef, cl, sq, reduceIte, Int.reduceLT, Int.reduceLE, Int.reduceBEq, Int.reduceBNe, Int.reduceEq, Nat.reduceAdd, Nat.reduceLeDiff, Nat.reduceLT, Nat.reduceEqDiff, S1]; rfl
        all_goals simp -implicitDefEqProofs only [op, ef, cl, sq, reduceIte, Int.reduceLT, Int.reduceLE, Int.reduceBEq, Int.reduceBNe, Int.reduceEq, Nat.reduceAdd, Nat.reduceLeDiff, Nat.reduceLT, Nat.reduceEqDiff, S1, h0, h3, h5, h6]
        all_goals rfl
      · rintro j R H7 ⟨⟨kd', sh7, hap7, hF7, hR7, q4, q9⟩, q0, q3, q5, q6, q7, q8, q10, hj⟩
        by_cases hjl : j < ks.length
        · obtain ⟨k, hk⟩ := getP hjl
          have wj := wrap_succ (show j < 9223372036854775807 by omega)
          have hik := iadX (e := eS) (n := 1) (fun _ => rfl) (by decide) (k := kk) hk
          have hxc : ∀ y : B, Ext H7 (H7 ++ [y]) := fun y => ⟨_, rfl⟩
          simp -implicitDefEqProofs only [op, ef, cl, sq, reduceIte, Int.reduceLT, Int.reduceLE, Int.reduceBEq, Int.reduceBNe, Int.reduceEq, Nat.reduceAdd, Nat.reduceLeDiff, Nat.reduceLT, Nat.reduceEqDiff, S1, S2, S3, q0, q3, q4, q5, q6, q7, q8, q9, q10, List.length_map, hjl, natOf_nat, hik, eS, hR7]
          refine callB_of _ _ _ _ _ _ _ _ (id9 r.write hro.2.1 _) ?_
          rintro u H8 ⟨hu, rfl⟩
          cases hu
          rw [← hw]
          simp -implicitDefEqProofs only [op, ef, cl, sq, reduceIte, Int.reduceLT, Int.reduceLE, Int.reduceBEq, Int.reduceBNe, Int.reduceEq, Nat.reduceAdd, Nat.reduceLeDiff, Nat.reduceLT, Nat.reduceEqDiff, S1, hik, eS, natOf_nat]
          refine callB_of _ _ _ _ _ _ _ _ (byID12 b s F k w _ (sh7.ext (hxc _)) st.inv) ?_
          rintro u H8 ⟨hx8, ⟨hno, hu⟩ | ⟨h, kk2, hsome, _, hu⟩⟩
          · cases hu
            have hx78 := (hxc _).trans hx8
            have e1 : newD s w v ks (ks.take (j + 1)) = newD s w v ks (ks.take j) ++ [((k, w), ⟨v, .arg, ks, 0⟩)] := by rw [take_sn hk, newD_snoc, if_pos hno]
            have c8 := hx8.get (show (H7 ++ [B.cells [T.str ⟨#[]⟩, T.int IntKind.u64 0, T.str ⟨#[]⟩, T.sl SK.nil []]])[H7.length]? = _ from g_tail rfl)
            have l8 := glt c8
            have hR8 := hx78.get hR7
            have hF7n : ¬ F H7.length := fun h => by have := hF7 _ h; omega
            have sh9 := fun y => (sh7.ext hx78).set1 (x := y) hF7n
            have hap9 := fun y => (hap7.ext hx78).set c8 (fun e => by simp) y
            have hF9 : ∀ (y : B) c, F c → c < (H8.set H7.length y).length := fun y c h => by rw [List.length_set]; exact Nat.lt_of_lt_of_le (hF7 c h) hx78.len
            have hR9 : ∀ y : B, (H8.set H7.length y)[H3.length]? = some (.cells [T.int .i64 r.kind, .int .i64 r.write, .int .i64 r.mask, .str r.value]) := fun y => by rw [g_ne (fun e => by have := glt hR7; omega)]; exact hR8
            simp -implicitDefEqProofs only [op, ef, cl, sq, reduceIte, Int.reduceLT, Int.reduceLE, Int.reduceBEq, Int.reduceBNe, Int.reduceEq, Nat.reduceAdd, Nat.reduceLeDiff, Nat.reduceLT, Nat.reduceEqDiff, S1, S3, q0, q3, q4, q5, q6, q7, q8, q9, q10, List.length_map, hjl, natOf_nat, hik, eS, c8, l8, hR9]
            have sh9' := sh9 (.cells [T.str ⟨#[]⟩, T.int IntKind.u64 0, T.str ⟨#[]⟩, T.sl SK.nil []])
            have hap9' := hap9 (.cells [T.str ⟨#[]⟩, T.int IntKind.u64 0, T.str ⟨#[]⟩, T.sl SK.nil []])
            have hF9' := hF9 (.cells [T.str ⟨#[]⟩, T.int IntKind.u64 0, T.str ⟨#[]⟩, T.sl SK.nil []])
            have hR9' := hR9 (.cells [T.str ⟨#[]⟩, T.int IntKind.u64 0, T.str ⟨#[]⟩, T.sl SK.nil []])
            generalize H8.set H7.length (.cells [T.str ⟨#[]⟩, T.int IntKind.u64 0, T.str ⟨#[]⟩, T.sl SK.nil []]) = H9 at *
            refine callB_of _ _ _ _ _ _ _ _ (id9 r.write hro.2.1 _) ?_
            rintro u H10 ⟨hu, rfl⟩
            cases hu
            rw [← hw]
            simp -implicitDefEqProofs only [op, ef, cl, sq, reduceIte, Int.reduceLT, Int.reduceLE, Int.reduceBEq, Int.reduceBNe, Int.reduceEq, Nat.reduceAdd, Nat.reduceLeDiff, Nat.reduceLT, Nat.reduceEqDiff, S1, hik, eS, natOf_nat, hR9']
            refine callB_of _ _ _ _ _ _ _ _ (short19 r.value _) ?_
            rintro u H10 ⟨hu, rfl⟩
            cases hu
            rw [← hv]
            have hall := all_map (enc := eD) (n := 4) (fun _ => rfl) (D ++ newD s w v ks (ks.take j))
            have hDl : ((D ++ newD s w v ks (ks.take j)).map eD).length ≤ 400 := by
              have := st.dl
              have h3 : (newD s w v ks (ks.take j)).length ≤ 3 := by
                simp -implicitDefEqProofs only [newD, List.length_map]
                exact Nat.le_trans (List.length_filter_le _ _) (by rw [List.length_take]; omega)
              rw [List.length_map, List.length_append]; omega
            obtain ⟨k', H11, ha, hap11, hfa⟩ := app_okF (bytes := 64) ((D ++ newD s w v ks (ks.take j)).map eD) [[T.str k, .int .u64 w, .str v, .sl .arg (ks.map eS)]] hap9' hF9' (by simp) (roomT (by simp -implicitDefEqProofs only [List.length_cons, List.length_nil]; omega))
            simp -implicitDefEqProofs only [op, ef, cl, sq, reduceIte, Int.reduceLT, Int.reduceLE, Int.reduceBEq, Int.reduceBNe, Int.reduceEq, Nat.reduceAdd, Nat.reduceLeDiff, Nat.reduceLT, Nat.reduceEqDiff, S1] at ha
            simp -implicitDefEqProofs only [op, ef, cl, sq, reduceIte, Int.reduceLT, Int.reduceLE, Int.reduceBEq, Int.reduceBNe, Int.reduceEq, Nat.reduceAdd, Nat.reduceLeDiff, Nat.reduceLT, Nat.reduceEqDiff, S1, q0, q3, q5, q6, q7, q8, q10, hik, eS, natOf_nat, hR9', hall, ha, wj]
            refine ⟨j + 1, by omega, .i ⟨k', sh9'.app hap9' hfa, hap11, fun c h => Nat.lt_of_lt_of_le (hF9' c h) hfa.1, hfa.get hR9' (hap9'.no hR9' (by simp)), ?_, ?_⟩, rfl, by omega⟩
            · simp -implicitDefEqProofs only [e1, ← List.append_assoc, List.map_append, List.map_cons, List.map_nil, eD]
            · rw [e1]; simp
          · cases hu
            have hx78 := (hxc _).trans hx8
            have e1 : newD s w v ks (ks.take (j + 1)) = newD s w v ks (ks.take j) := by rw [take_sn hk, newD_snoc, if_neg (by rw [hsome]; simp), List.append_nil]
            have c8 := hx8.get (show (H7 ++ [B.cells [T.str ⟨#[]⟩, T.int IntKind.u64 0, T.str ⟨#[]⟩, T.sl SK.nil []]])[H7.length]? = _ from g_tail rfl)
            have l8 := glt c8
            have hR8 := hx78.get hR7
            have hF7n : ¬ F H7.length := fun h => by have := hF7 _ h; omega
            have sh9 := fun y => (sh7.ext hx78).set1 (x := y) hF7n
            have hap9 := fun y => (hap7.ext hx78).set c8 (fun e => by simp) y
            have hF9 : ∀ (y : B) c, F c → c < (H8.set H7.length y).length := fun y c h => by rw [List.length_set]; exact Nat.lt_of_lt_of_le (hF7 c h) hx78.len
            have hR9 : ∀ y : B, (H8.set H7.length y)[H3.length]? = some (.cells [T.int .i64 r.kind, .int .i64 r.write, .int .i64 r.mask, .str r.value]) := fun y => by rw [g_ne (fun e => by have := glt hR7; omega)]; exact hR8
            simp -implicitDefEqProofs only [op, ef, cl, sq, reduceIte, Int.reduceLT, Int.reduceLE, Int.reduceBEq, Int.reduceBNe, Int.reduceEq, Nat.reduceAdd, Nat.reduceLeDiff, Nat.reduceLT, Nat.reduceEqDiff, S1, S2, S3, eVer, q0, q3, q4, q5, q6, q7, q8, q9, q10, c8, l8, wj]
            exact ⟨j + 1, by omega, .i ⟨kd', sh9 _, hap9 _, hF9 _, hR9 _, by rw [e1], by rw [e1]⟩, rfl, by omega⟩
        · have hj' : j = ks.length := by omega
          subst hj'
          rw [List.take_length] at q4 q9
          simp -implicitDefEqProofs only [op, ef, cl, sq, reduceIte, Int.reduceLT, Int.reduceLE, Int.reduceBEq, Int.reduceBNe, Int.reduceEq, Nat.reduceAdd, Nat.reduceLeDiff, Nat.reduceLT, Nat.reduceEqDiff, S1, q0, q3, q4, q5, q6, q7, q8, q9, q10, List.length_map, hjl]
          exact .i ⟨kd', sh7, hap7, hF7, hR7, rfl⟩
      · rintro R H7 ⟨⟨kd', sh7, hap7, hF7, hR7, q4, q9⟩, q0, q3, q5, q6, q7⟩
        simp -implicitDefEqProofs only [op, ef, cl, sq, reduceIte, Int.reduceLT, Int.reduceLE, Int.reduceBEq, Int.reduceBNe, Int.reduceEq, Nat.reduceAdd, Nat.reduceLeDiff, Nat.reduceLT, Nat.reduceEqDiff, S1, q0, q3, q4, q5, q6, q7, q9, hR7]
        refine callB_of _ _ _ _ _ _ _ _ (put11 b s F r i _ sh7 st.inv (by have := st.n; omega) hro tko) ?_
        rintro u H8 ⟨s2, F2, fr, hu, sh2, hi2', hpv, hn2, hfr, hF2⟩
        cases hu
        rw [← hw, ← hks, ← hv] at hpv
        have hfe := fresh_eq hpv
        subst hfe
        have hst2 := st.stm.put hpv (by omega)
        obtain ⟨hsn2, hstp⟩ := st.stn.put hpv (by omega)
        have hdn2 : ((D ++ newD s w v ks ks).map (·.1)).Perm (nms s2) := by
          rw [List.map_append]
          exact (st.dn.append_right _).trans (put_nms st.inv hi2' hknd hpv).symm
        have hdok2 := st.dok.put hpv hkl.2
        have hFb2 : ∀ c, F2 c → c < H8.length := fun c h => (hF2 c h).elim (fun h => Nat.lt_of_lt_of_le (hF7 c h) hfr.1) fun h => h.2
        have hap2 := hap7.frm hfr (fun _ h => h) fun c h => (hF2 c h).imp id fun h => h.1
        have hnl : (newD s w v ks ks).length ≤ 3 := by
          simp -implicitDefEqProofs only [newD, List.length_map]
          exact Nat.le_trans (List.length_filter_le _ _) hkl.2
        have hn3 : s2.n ≤ 3 * (i + 1) := by
          have := st.n
          rw [← hks] at hn2
          simp -implicitDefEqProofs only [pairsOf, List.length_map] at hn2; omega
        have hdl2 : (D ++ newD s w v ks ks).length ≤ 3 * (i + 1) := by rw [List.length_append]; have := st.dl; omega
        simp -implicitDefEqProofs only [op, ef, cl, sq, reduceIte, Int.reduceLT, Int.reduceLE, Int.reduceBEq, Int.reduceBNe, Int.reduceEq, Nat.reduceAdd, Nat.reduceLeDiff, Nat.reduceLT, Nat.reduceEqDiff, S1, q0, q3, q4, q5, q6, q7, q9]
        refine callB_of _ _ _ _ _ _ _ _ (kept20 b s2 F2 _ sh2 hi2' (by have := (hdn2).length_eq; simp -implicitDefEqProofs only [nms, List.length_map] at this; omega)) ?_
        rintro u H9 ⟨hx9, kk9, l1, hko9, hu, hperm, hpw⟩
        cases hu
        have elen : (keptL s2 l1).length = (D ++ newD s w v ks ks).length := by
          have e1 := hperm.length_eq
          have e2 := (hdn2).length_eq
          simp -implicitDefEqProofs only [nms, List.length_map] at e1 e2
          simp -implicitDefEqProofs only [keptL, List.length_map]
          omega
        have e0 : ((((keptL s2 l1).length : Nat) : Int) != ((((D ++ newD s w v ks ks).length : Nat)) : Int)) = false := by rw [elen]; simp
        have dl9 := hdl2
        have dl0 : l0.length ≤ 600 := by
          have e1 := st.l0.length_eq
          have e2 := st.dn.length_eq
          have := st.dl
          simp -implicitDefEqProofs only [nms, List.length_map] at e1 e2
          omega
        simp -implicitDefEqProofs only [op, ef, cl, sq, reduceIte, Int.reduceLT, Int.reduceLE, Int.reduceBEq, Int.reduceBNe, Int.reduceEq, Nat.reduceAdd, Nat.reduceLeDiff, Nat.reduceLT, Nat.reduceEqDiff, S1, q0, q3, q4, q5, q6, List.length_map, e0]
        refine callB_of _ _ _ _ _ _ _ _ (stamps21 b s2 F2 kb kk9 (keptL s l0) (keptL s2 l1) i _ ((sh2).ext hx9) (by simp -implicitDefEqProofs only [keptL, List.length_map]; omega) (by omega) (st_ok hst2 hsn2 hstp st.l0 hperm)) ?_
        rintro u H10 ⟨hu, hx10⟩
        cases hu
        have hx10 : Ext H9 H10 := hx10
        have hxx := hx9.trans hx10
        simp -implicitDefEqProofs only [op, ef, cl, sq, reduceIte, Int.reduceLT, Int.reduceLE, Int.reduceBEq, Int.reduceBNe, Int.reduceEq, Nat.reduceAdd, Nat.reduceLeDiff, Nat.reduceLT, Nat.reduceEqDiff, S1, q0, q3, q4, q5, q6, List.length_map, e0, ws]
        exact ⟨i + 1, by omega, .i ⟨s2, F2, l1, kk9, D ++ newD s w v ks ks, kd', (sh2).ext hxx, ⟨hi2', hst2, hsn2, hn3, hperm, hdn2, hdok2, dl9⟩, fun c h => Nat.lt_of_lt_of_le (hFb2 c h) hxx.len, rfl, rfl, (hap2).ext hxx⟩, rfl, by omega⟩
  · rintro R H3 ⟨⟨s, F, D, kd, sh, hi, hok, hD, h4⟩, h3⟩
    simp -implicitDefEqProofs only [op, ef, cl, sq, reduceIte, Int.reduceLT, Int.reduceLE, Int.reduceBEq, Int.reduceBNe, Int.reduceEq, Nat.reduceAdd, Nat.reduceLeDiff, Nat.reduceLT, Nat.reduceEqDiff, S1]
    refine W.loopI (fun (i : Nat) R H' => At H' (fun H' => SH H' b s F) ∧ R 3 = .ptr b.s 0 ∧ R 4 = .sl kd (D.map eD) ∧ R 16 = .int .i64 i ∧ i ≤ D.length) (fun i => D.length - i) 0 ⟨.i sh, by simp -implicitDefEqProofs only [op, ef, cl, sq, reduceIte, Int.reduceLT, Int.reduceLE, Int.reduceBEq, Int.reduceBNe, Int.reduceEq, Nat.reduceAdd, Nat.reduceLeDiff, Nat.reduceLT, Nat.reduceEqDiff, S1, h3], by simp -implicitDefEqProofs only [op, ef, cl, sq, reduceIte, Int.reduceLT, Int.reduceLE, Int.reduceBEq, Int.reduceBNe, Int.reduceEq, Nat.reduceAdd, Nat.reduceLeDiff, Nat.reduceLT, Nat.reduceEqDiff, S1, h4], rfl, Nat.zero_le _⟩ ?_
    clear h3 h4
    rintro i R H4 ⟨⟨im, pm, sa⟩, h3, h4, h16, hil⟩
    have sh4 : SH H4 b s F := ⟨im, pm, sa⟩
    by_cases hlt : i < D.length
    · obtain ⟨x, hx⟩ := getP hlt
      obtain ⟨h, g1, g2, g3, g4⟩ := hok x (List.mem_of_getElem? hx)
      have ws := wrap_succ (show i < 9223372036854775807 by omega)
      have hia := iadX (e := eD) (n := 4) (fun _ => rfl) (by decide) (k := kd) hx
      have hxc : ∀ y : B, Ext H4 (H4 ++ [y]) := fun y => ⟨_, rfl⟩
      simp -implicitDefEqProofs only [op, ef, cl, sq, reduceIte, Int.reduceLT, Int.reduceLE, Int.reduceBEq, Int.reduceBNe, Int.reduceEq, Nat.reduceAdd, Nat.reduceLeDiff, Nat.reduceLT, Nat.reduceEqDiff, S1, S2, S3, h3, h4, h16, List.length_map, hlt, natOf_nat, hia, eD]
      refine callB_of _ _ _ _ _ _ _ _ (byID12 b s F x.1.1 x.1.2 _ (sh4.ext (hxc _)) hi) ?_
      rintro u H5 ⟨hx5, ⟨hno, hu⟩ | ⟨h', kk, hsome, _, hu⟩⟩
      · rw [show (x.1.1, x.1.2) = x.1 from rfl, g1] at hno; cases hno
      rw [show (x.1.1, x.1.2) = x.1 from rfl, g1] at hsome
      cases hsome
      cases hu
      have c5 := hx5.get (show (H4 ++ [B.cells [T.str x.1.1, .int .u64 x.1.2, .str x.2.value, .sl .arg (x.2.keys.map eS)]])[H4.length]? = _ from g_tail rfl)
      have l5 := glt c5
      have hne : ¬ (H4.length = H5.length) := by omega
      rw [g2, g3]
      simp -implicitDefEqProofs only [op, ef, cl, sq, reduceIte, Int.reduceLT, Int.reduceLE, Int.reduceBEq, Int.reduceBNe, Int.reduceEq, Nat.reduceAdd, Nat.reduceLeDiff, Nat.reduceLT, Nat.reduceEqDiff, S1, S2, S3, eVer, h3, h4, h16, c5, l5, hne]
      refine callB_of _ _ _ _ _ _ _ _ (same22 x.1.1 x.1.2 x.2.value kk .arg x.2.keys _ (by omega)) ?_
      rintro u H6 ⟨hu, hx6⟩
      cases hu
      have hx6 : Ext _ H6 := hx6
      simp -implicitDefEqProofs only [op, ef, cl, sq, reduceIte, Int.reduceLT, Int.reduceLE, Int.reduceBEq, Int.reduceBNe, Int.reduceEq, Nat.reduceAdd, Nat.reduceLeDiff, Nat.reduceLT, Nat.reduceEqDiff, S1, h3, h4, h16, ws]
      exact ⟨i + 1, by omega, .i ((((sh4.ext (hxc _)).ext hx5).ext ⟨_, rfl⟩).ext hx6), rfl, by omega⟩
    · simp -implicitDefEqProofs only [op, ef, cl, sq, reduceIte, Int.reduceLT, Int.reduceLE, Int.reduceBEq, Int.reduceBNe, Int.reduceEq, Nat.reduceAdd, Nat.reduceLeDiff, Nat.reduceLT, Nat.reduceEqDiff, S1, h3, h4, h16, List.length_map, hlt]
end Go.Proofs.Ytbkgokabcnogdaa.St
end

/-! text StoreRz -/
section
namespace Go.Proofs.Ytbkgokabcnogdaa
open Go.ChangeShapes Go.WideShapes Go.ChangeAt Go.RowKit
namespace Law
theorem own : ownKnob Try.prog.godebug = none := by kernel_rfl
theorem kids : Kids Try.prog (· < Try.prog.types.size) := kids_rows (by kernel_rfl) (by kernel_rfl)
noncomputable def hzB : Bool := (List.range Try.prog.types.size).all fun t => match Try.prog.underlying t with
  | some (.slice e) => decide (0 < Try.prog.cellsOf e)
  | _ => true
theorem hzB_ok : hzB = true := by kernel_rfl
theorem hz : ∀ t e, t < Try.prog.types.size → Try.prog.underlying t = some (.slice e) → 0 < Try.prog.cellsOf e := fun t e ht h => by
  have := (List.all_eq_true.1 hzB_ok) t (List.mem_range.2 ht)
  rw [h] at this
  simpa using this
mutual
theorem bulk_eq {H : Type} : ∀ d : DataW H, Go.Rmp.bulkW d = Rows.uptoBulk d
  | .lit l => by cases l <;> simp [Go.Rmp.bulkW, Rows.uptoBulk]
  | .nil => by simp [Go.Rmp.bulkW, Rows.uptoBulk]
  | .ptr d => by simp [Go.Rmp.bulkW, Rows.uptoBulk, bulk_eq d]
  | .slice elems spare => by simp [Go.Rmp.bulkW, Rows.uptoBulk, bulks_eq elems, bulks_eq spare]
  | .agg parts => by simp [Go.Rmp.bulkW, Rows.uptoBulk, bulks_eq parts]
  | .iface _ d => by simp [Go.Rmp.bulkW, Rows.uptoBulk, bulk_eq d]
  | .map entries => by simp [Go.Rmp.bulkW, Rows.uptoBulk, bulkE_eq entries]
  | .held _ => by simp [Go.Rmp.bulkW, Rows.uptoBulk]
theorem bulks_eq {H : Type} : ∀ l : List (DataW H), Go.Rmp.bulkAllW l = Rows.uptoBulkAll l
  | [] => by simp [Go.Rmp.bulkAllW, Rows.uptoBulkAll]
  | d :: r => by simp [Go.Rmp.bulkAllW, Rows.uptoBulkAll, bulk_eq d, bulks_eq r]
theorem bulkE_eq {H : Type} : ∀ l : List (Lit × DataW H), Go.Rmp.bulkEntriesW l = Rows.uptoBulkEntries l
  | [] => by simp [Go.Rmp.bulkEntriesW, Rows.uptoBulkEntries]
  | x :: r => by simp [Go.Rmp.bulkEntriesW, Rows.uptoBulkEntries, bulkEn_eq x, bulkE_eq r]
theorem bulkEn_eq {H : Type} : ∀ x : Lit × DataW H, Go.Rmp.bulkEntryW x = Rows.uptoBulkEntry x
  | (l, d) => by cases l <;> simp [Go.Rmp.bulkEntryW, Rows.uptoBulkEntry, bulk_eq d]
end
theorem bulk_ok {H : Type} {ds : List (DataW H)} (h : Rows.uptoSmall H ds = true) : Go.Rmp.bulkAllW ds ≤ 1048576 := by
  rw [bulks_eq]; simpa [Rows.uptoSmall] using h
/-! the rows -/
theorem hasS {B : Nat} {t : Go.Rmp.T} (h : Go.Rmp.HasSh B .str t) : ∃ s, t = .str s ∧ s.size ≤ B := by
  cases h with | str h hB => exact ⟨_, rfl, hB⟩
theorem hasI {B : Nat} {t : Go.Rmp.T} (h : Go.Rmp.HasSh B (.int .i64) t) : ∃ n : Int, t = .int .i64 n ∧ St.I64 n := by
  cases h with | int h =>
    rename_i n
    exact ⟨n, rfl, by simpa [St.I64, Lit.wf, IntKind.min, IntKind.max, IntKind.signed, IntKind.bits] using h⟩
end Law
namespace St
open Go.Rmp
theorem map_of {α : Type} {P : α → Prop} (enc : α → List T) (es : List (List T)) (h : ∀ c ∈ es, ∃ x, c = enc x ∧ P x) : ∃ l : List α, es = l.map enc ∧ ∀ x ∈ l, P x := by
  induction es with
  | nil => exact ⟨[], rfl, by simp⟩
  | cons c es ih =>
    obtain ⟨l, rfl, hl⟩ := ih (fun c hc => h c (List.mem_cons_of_mem _ hc))
    obtain ⟨x, rfl, hx⟩ := h _ List.mem_cons_self
    exact ⟨x :: l, rfl, fun y hy => by rcases List.mem_cons.1 hy with rfl | hy; exact hx; exact hl y hy⟩
theorem hasRs {B : Nat} {t : T} (h : HasSh B (.sl [.int .i64, .int .i64, .int .i64, .str]) t) : ∃ (k : SK) (l : List Raw), t = .sl k (l.map eR) ∧ l.length ≤ B ∧ ∀ r ∈ l, RawOk r := by
  cases h with
  | nil => exact ⟨.nil, [], rfl, Nat.zero_le _, by simp⟩
  | sl hl hB h0 h =>
    rename_i es
    obtain ⟨l, rfl, hP⟩ := map_of (P := fun r : Raw => RawOk r) eR es fun c hc => by
      have hc1 := h0 c hc
      match c, hc1 with
      | [a, b, d, e], _ =>
        obtain ⟨x, rfl, hx⟩ := Law.hasI (h _ hc 0 (.int .i64) a rfl rfl)
        obtain ⟨y, rfl, hy⟩ := Law.hasI (h _ hc 1 (.int .i64) b rfl rfl)
        obtain ⟨z, rfl, hz⟩ := Law.hasI (h _ hc 2 (.int .i64) d rfl rfl)
        obtain ⟨s, rfl, _⟩ := Law.hasS (h _ hc 3 .str e rfl rfl)
        exact ⟨⟨x, y, z, s⟩, rfl, hx, hy, hz⟩
    exact ⟨.arg, l, rfl, by simpa using hB, hP⟩
end St
namespace Law
end Law
end Go.Proofs.Ytbkgokabcnogdaa
end

/-! text StoreRb -/
section
namespace Go.Proofs.Ytbkgokabcnogdaa
open Go.ChangeShapes Go.WideShapes Go.ChangeAt Go.RowKit
namespace Law
theorem storeStays_w (as' : List Go.Rmp.T) (hs : Go.Rmp.HasShs 1048576 [Go.Rmp.Sh.sl [.int .i64, .int .i64, .int .i64, .str]] as') : Go.Rmp.W Ir.env (.call 4 as') [] (fun o _ => o = .val (.bool true)) := by
  cases hs with | cons h1 hs =>
  cases hs
  obtain ⟨k, l, rfl, n1, n2⟩ := St.hasRs h1
  exact St.stays4 k l [] n2 n1

theorem storeStays_fn (H : Type) : ∀ ds : List (DataW H), ds.length = Try.f4.params.toList.length → Rows.storeStaysSpec.fn H ds = { results := [.lit (.bool true)], args := ds } := by
  have hn : Try.f4.params.toList.length = 1 := by kernel_rfl
  rw [hn]
  intro ds hds
  cases ds with | nil => simp at hds | cons d0 ds =>
  cases ds with | cons => simp at hds | nil =>
  rfl
set_option maxRecDepth 100000 in
theorem storeStays_lifted (os : Os) (started : os.Started) (H : Type) (enc : TypeId × Value → H) (F : Stop.Interp) :
    ReturnsInHanded {} Try.checked os 4 .any ((Rows.OpenSpec.upto Rows.storeStaysSpec).pre6 enc Try.prog Try.f4 Rows.storeStaysUptoRow.domain false) (((Rows.OpenSpec.upto Rows.storeStaysSpec).at F).post enc Try.prog Try.f4 false true false false) := by
  refine returnsInHanded_of_cond (C := Try.checked) (s := Rows.OpenSpec.upto Rows.storeStaysSpec) (k := Rows.uptoSmall) rfl own started (by kernel_rfl) Try.func4
    (OpenSpec.witness (enc := enc) (C := Try.checked) (s := Rows.OpenSpec.upto Rows.storeStaysSpec) (k := Rows.uptoSmall) rfl false ⟨#[], #[.slice .none 0 0], []⟩ 8 (by kernel_rfl) (by kernel_rfl) (by kernel_rfl)
      (x := ([.nil], [], [])) (by kernel_rfl) rfl (by kernel_rfl)) ?_
  intro W base args ds gs before hval hW _ hk _
  exact Go.Rmp.law_contract (s := Rows.storeStaysSpec) (shs := [Go.Rmp.Sh.sl [.int .i64, .int .i64, .int .i64, .str]]) (B := 1048576) (tb := Try.f4.resultTypes[0]!) Ir.envOk kids hz (by kernel_rfl) (by intro t ht; exact of_decide_eq_true ((List.all_eq_true.1 (show Try.f4.params.toList.all (fun t => decide (t < Try.prog.types.size)) = true by kernel_rfl)) t ht)) (by kernel_rfl) (by kernel_rfl) rfl (storeStays_fn H) storeStays_w base args ds gs before hval hW (bulk_ok hk)
theorem storeStays_over : Rows.storeStaysUptoRow.holds Try.pinned (Rows.OpenSpec.upto Rows.storeStaysSpec) :=
  OpenClaim.holds_of_cond 4 Try.f4 rfl rfl rfl rfl rfl rfl rfl ⟨rfl, rfl, rfl, rfl, rfl⟩ rfl rfl rfl rfl rfl (by kernel_rfl) Try.func4 (by kernel_rfl)
    (of_decide_eq_true (by kernel_rfl)) (by unfold Func.isWrapper; first | (rw [if_pos (by decide +kernel)]; kernel_rfl) | (rw [if_neg (by decide +kernel)]; exact ⟨rfl, rfl⟩))
    (fun os started H enc _ F => storeStays_lifted os started H enc F)
theorem storeStays_proved : Rows.StoreStaysUptoSaid := storeStays_over
end Law
end Go.Proofs.Ytbkgokabcnogdaa
end
