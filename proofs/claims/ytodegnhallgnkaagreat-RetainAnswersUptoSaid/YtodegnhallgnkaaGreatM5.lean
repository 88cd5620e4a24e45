/- Part of a proof of a law of this seat: the machine of plain values, its simulation, and the contracts of the functions that the law reaches. Conditions: none beyond the given row. -/
import Derived.Test.YtodegnhallgnkaaGreatM4
open Int renaming reduceLT → q5, reduceLE → q8, reduceBEq → q9, reduceBNe → j2, reduceEq → j3
open Nat renaming reduceAdd → j4, reduceLeDiff → j5, reduceLT → j6, reduceEqDiff → j7
set_option linter.unusedSimpArgs false
set_option linter.unusedVariables false
set_option linter.unnecessarySimpa false
set_option maxHeartbeats 4000000
section
namespace Go.Proofs.YtodegnhallgnkaaGreat.St
open Go.Rmp Go.Proofs.YtodegnhallgnkaaGreat.Ir
set_option maxRecDepth 10000
set_option maxHeartbeats 8000000
def seqT : C → Nat → C
  | c, 0 => c
  | .seq _ b, k + 1 => seqT b k
  | c, _ => c
open Go.Sort in
theorem pdq_step {d d1 d2 : Array Nm} {a b lim lim1 pv : Nat} {wb wp : Bool} {cp : Nat × Hint} {hi : Hint} {pi : Array Nm × Bool} (h12 : ¬ b - a ≤ 12) (hl : ¬ lim = 0)
    (e1 : d1 = if (!wb) = true then breakPatterns d a b else d) (el : lim1 = if (!wb) = true then lim - 1 else lim) (ec : cp = choosePivot ltM d1 a b) (e2 : d2 = if cp.2 = .decreasing then reverseRange d1 a b else d1)
    (ep : pv = if cp.2 = .decreasing then (b - 1) - (cp.1 - a) else cp.1) (eh : hi = if cp.2 = .decreasing then .increasing else cp.2) (epi : pi = if (wb && wp && hi = .increasing) = true then partialInsertionSort ltM d2 a b else (d2, false)) :
    pdq ltM d a b lim wb wp = if pi.2 = true then pi.1 else if (a > 0 && !ltM pi.1[a - 1]! pi.1[pv]!) = true then (if a < (partitionEqual ltM pi.1 a b pv).1 ∧ (partitionEqual ltM pi.1 a b pv).1 ≤ b then pdq ltM (partitionEqual ltM pi.1 a b pv).2 (partitionEqual ltM pi.1 a b pv).1 b lim1 wb wp else (partitionEqual ltM pi.1 a b pv).2)
      else (if a ≤ (partition ltM pi.1 a b pv).1 ∧ (partition ltM pi.1 a b pv).1 < b then if (partition ltM pi.1 a b pv).1 - a < b - (partition ltM pi.1 a b pv).1 then pdq ltM (pdq ltM (partition ltM pi.1 a b pv).2.2 a (partition ltM pi.1 a b pv).1 lim1 true true) ((partition ltM pi.1 a b pv).1 + 1) b lim1 (decide ((partition ltM pi.1 a b pv).1 - a ≥ (b - a) / 8)) (partition ltM pi.1 a b pv).2.1
        else pdq ltM (pdq ltM (partition ltM pi.1 a b pv).2.2 ((partition ltM pi.1 a b pv).1 + 1) b lim1 true true) a (partition ltM pi.1 a b pv).1 lim1 (decide (b - (partition ltM pi.1 a b pv).1 ≥ (b - a) / 8)) (partition ltM pi.1 a b pv).2.1 else (partition ltM pi.1 a b pv).2.2) := by
  subst epi eh ep e2 ec el e1
  rw [pdq, if_neg h12, if_neg hl]
  rfl
open Go.Sort in
theorem peq_range (d : Array Nm) {a b pv : Nat} (h1 : a ≤ pv) (h2 : pv < b) (hb : b ≤ d.size) : a < (partitionEqual ltM d a b pv).1 ∧ (partitionEqual ltM d a b pv).1 ≤ b := by
  have := partEqLoop_spec (lt := ltM) a b b (a + 1) (b - 1) (swp d a pv) (by omega) (by omega) (by omega) (by omega) (by rw [swp_size]; exact hb) (fun t h h' => by omega) (fun t h h' => by omega)
  exact ⟨this.1, this.2.1⟩
theorem seg0 (A : C) (hA : (bkOf ir77.body 1).map (seqN · 0) = some A) (c n a b lim : Nat) (wb wp : Bool) (R : Regs) (H : Heap) (K : Out → Heap → Prop) (h0 : R 0 = .msl c 0 n 2) (h1 : R 1 = .int .i64 a) (h2 : R 2 = .int .i64 b) (h3 : R 3 = .int .i64 lim) (h4 : R 4 = .fn 43 []) (h10 : R 10 = .bool wb) (h11 : R 11 = .bool wp) (hab : a ≤ b) (hb : b < 16777216)
    (rest : ∀ R', PR R' c n a b lim wb wp → K (.ex .normal R') H) : wpC env A R H K := by
  simp [ir77, bkOf, seqN, sq] at hA
  subst hA
  simp -implicitDefEqProofs (maxSteps := 1000000) (disch := omega) only [natOf_nat, iadm, ldm1, ldm2, stm0, stm1, stm2, wA, wA1, wS, wS1, wM, S2, op, ef, cl, sq, reduceIte, q5, q8, q9, j2, j3, j4, j5, j6, j7, S1, h0, h1, h2, h3, h4, h10, h11]
  refine rest _ ⟨?_, ?_, ?_, ?_, ?_, ?_, ?_, ?_⟩
  all_goals simp -implicitDefEqProofs only [op, ef, cl, sq, reduceIte, q5, q8, q9, j2, j3, j4, j5, j6, j7, S1, h0, h1, h2, h3, h4, h10, h11]
open Go.Sort in
theorem seg1 (A : C) (hA : (bkOf ir77.body 1).map (seqN · 1) = some A) (c n a b lim : Nat) (wb wp : Bool) (d : Array Nm) (R : Regs) (H0 H : Heap) (K : Out → Heap → Prop) (hp : PR R c n a b lim wb wp) (hd : SC c n H0 (fun x => x = d) H) (hb : b ≤ n) (hab : a ≤ b) (hs : n < 16777216)
    (rest1 : ∀ R' H', b - a ≤ 12 → SC c n H0 (fun x => x = insertionSort ltM d a b) H' → K (.ex .ret R') H')
    (rest2 : ∀ R', ¬ b - a ≤ 12 → PR R' c n a b lim wb wp → K (.ex .normal R') H) : wpC env A R H K := by
  simp [ir77, bkOf, seqN, sq] at hA
  subst hA
  obtain ⟨h0, h1, h2, h3, h4, h10, h11, h12⟩ := hp
  obtain ⟨di, hc, hn, rfl, hfr⟩ := hd
  by_cases hle : b - a ≤ 12
  · simp -implicitDefEqProofs only [op, ef, cl, sq, reduceIte, q5, q8, q9, j2, j3, j4, j5, j6, j7, S1, h0, h1, h2, h3, h4, h10, h11, h12, hle]
    have hi := ins75 c di a b H hc (by omega) hab (by omega)
    rw [hn] at hi
    refine callB_of _ _ _ _ _ _ _ _ hi ?_
    rintro u H2 ⟨hu, hd2, hf2⟩
    cases hu
    simp -implicitDefEqProofs only [op, ef, cl, sq, reduceIte, q5, q8, q9, j2, j3, j4, j5, j6, j7, S1]
    exact rest1 _ _ hle ⟨_, hd2, by rw [(insertionSort_holds ltM_swo di a b hab (by omega)).1.1]; exact hn, rfl, hfr.trans hf2 fun _ h => .inl h⟩
  · simp -implicitDefEqProofs only [op, ef, cl, sq, reduceIte, q5, q8, q9, j2, j3, j4, j5, j6, j7, S1, h0, h1, h2, h3, h4, h10, h11, h12, hle]
    refine rest2 _ hle ⟨?_, ?_, ?_, ?_, ?_, ?_, ?_, ?_⟩
    all_goals simp -implicitDefEqProofs only [op, ef, cl, sq, reduceIte, q5, q8, q9, j2, j3, j4, j5, j6, j7, S1, h0, h1, h2, h3, h4, h10, h11, h12]
open Go.Sort in
theorem seg2 (A : C) (hA : (bkOf ir77.body 1).map (seqN · 2) = some A) (c n a b lim : Nat) (wb wp : Bool) (d : Array Nm) (R : Regs) (H0 H : Heap) (K : Out → Heap → Prop) (hp : PR R c n a b lim wb wp) (hd : SC c n H0 (fun x => x = d) H) (hb : b ≤ n) (hab : a + 12 < b) (hs : n < 16777216)
    (rest1 : ∀ R' H', lim = 0 → SC c n H0 (fun x => x = heapSort ltM d a b) H' → K (.ex .ret R') H')
    (rest2 : ∀ R', ¬ lim = 0 → PR R' c n a b lim wb wp → K (.ex .normal R') H) : wpC env A R H K := by
  simp [ir77, bkOf, seqN, sq] at hA
  subst hA
  obtain ⟨h0, h1, h2, h3, h4, h10, h11, h12⟩ := hp
  obtain ⟨di, hc, hn, rfl, hfr⟩ := hd
  by_cases hl : lim = 0
  · subst hl
    have e : (((0 : Nat) : Int) == 0) = true := rfl
    simp -implicitDefEqProofs only [op, ef, cl, sq, reduceIte, q5, q8, q9, j2, j3, j4, j5, j6, j7, S1, h0, h1, h2, h3, h4, h10, h11, h12, e]
    refine callB_of _ _ _ _ _ _ _ _ (heap76 c n di a b _ hn hc hb (by omega) (by omega)) ?_
    rintro u H2 ⟨hu, d2, hd2, hs2, e2, hf2⟩
    cases hu
    simp -implicitDefEqProofs only [op, ef, cl, sq, reduceIte, q5, q8, q9, j2, j3, j4, j5, j6, j7, S1]
    exact rest1 _ _ rfl ⟨_, hd2, hs2, e2, hfr.trans hf2 fun _ h => .inl h⟩
  · have e : ((lim : Int) == 0) = false := by simp; omega
    simp -implicitDefEqProofs only [op, ef, cl, sq, reduceIte, q5, q8, q9, j2, j3, j4, j5, j6, j7, S1, h0, h1, h2, h3, h4, h10, h11, h12, e]
    refine rest2 _ hl ⟨?_, ?_, ?_, ?_, ?_, ?_, ?_, ?_⟩
    all_goals simp -implicitDefEqProofs only [op, ef, cl, sq, reduceIte, q5, q8, q9, j2, j3, j4, j5, j6, j7, S1, h0, h1, h2, h3, h4, h10, h11, h12]
open Go.Sort in
theorem seg4 (A : C) (hA : (bkOf ir77.body 1).map (seqN · 4) = some A) (c n a b lim : Nat) (wb wp : Bool) (d : Array Nm) (R : Regs) (H0 H : Heap) (K : Out → Heap → Prop) (hp : PR R c n a b lim wb wp) (hd : SC c n H0 (fun x => x = d) H) (hb : b ≤ n) (hab : a + 12 < b) (hs : n < 16777216)
    (rest : ∀ R' H', PR R' c n a b lim wb wp → R' 13 = .int .i64 (choosePivot ltM d a b).1 → R' 14 = .int .i64 (hintN (choosePivot ltM d a b).2) → SC c n H0 (fun x => x = d) H' → K (.ex .normal R') H') : wpC env A R H K := by
  simp [ir77, bkOf, seqN, sq] at hA
  subst hA
  obtain ⟨h0, h1, h2, h3, h4, h10, h11, h12⟩ := hp
  obtain ⟨di, hc, hn, rfl, hfr⟩ := hd
  simp -implicitDefEqProofs only [op, ef, cl, sq, reduceIte, q5, q8, q9, j2, j3, j4, j5, j6, j7, S1, h0, h1, h2, h3, h4, h10, h11, h12]
  refine callB_of _ _ _ _ _ _ _ _ (choose78 c n di a b _ hn hc hb hab (by omega)) ?_
  rintro u H2 ⟨hu, hx⟩
  cases hu
  simp -implicitDefEqProofs only [op, ef, cl, sq, reduceIte, q5, q8, q9, j2, j3, j4, j5, j6, j7, S1]
  refine rest _ _ ⟨?_, ?_, ?_, ?_, ?_, ?_, ?_, ?_⟩ ?_ ?_ ⟨di, hx.get hc, hn, rfl, hfr.trans (ext_frm (F := fun _ => False) hx) (fun _ h => h.elim)⟩
  all_goals simp -implicitDefEqProofs only [op, ef, cl, sq, reduceIte, q5, q8, q9, j2, j3, j4, j5, j6, j7, S1, h0, h1, h2, h3, h4, h10, h11, h12]
theorem wQ8 {a : Nat} (h : a < 9223372036854775808) : IntKind.i64.wrap ((a : Int).tdiv 8) = ((a / 8 : Nat) : Int) := by rw [Int.tdiv_eq_ediv_of_nonneg (by omega), wrap64 (by omega)]; omega
open Go.Sort in
theorem seg8 (A : C) (hA : (bkOf ir77.body 1).map (seqT · 8) = some A) (c n a b lim : Nat) (wb wp : Bool) (d : Array Nm) (pv : Nat) (R : Regs) (H0 H : Heap) (K : Out → Heap → Prop) (hp : PR R c n a b lim wb wp) (h13 : R 13 = .int .i64 pv) (hd : SC c n H0 (fun x => x = d) H) (hb : b ≤ n) (hab : a + 12 < b) (hs : n < 16777216) (hpv : a ≤ pv ∧ pv < b)
    (ih : ∀ a' b' (d' : Array Nm) H', b' - a' < b - a → a' ≤ b' → b' ≤ n → d'.size = n → H'[c]? = some (.cells (msC eN d'.toList)) → W env (.call 77 [.msl c 0 n 2, .int .i64 a', .int .i64 b', .int .i64 lim, .fn 43 []]) H' (SrtN c n (pdq ltM d' a' b' lim true true) H'))
    (rest : ∀ R' H' a' b' (d' : Array Nm) (wb' : Bool), a ≤ a' → a' ≤ b' → b' ≤ b → b' - a' < b - a → R' 0 = .msl c 0 n 2 → R' 1 = .int .i64 (a' : Nat) → R' 2 = .int .i64 (b' : Nat) → R' 3 = .int .i64 lim → R' 4 = .fn 43 [] → R' 10 = .bool wb' → R' 11 = .bool (partition ltM d a b pv).2.1 →
      pdq ltM d' a' b' lim wb' (partition ltM d a b pv).2.1 = (if (partition ltM d a b pv).1 - a < b - (partition ltM d a b pv).1 then pdq ltM (pdq ltM (partition ltM d a b pv).2.2 a (partition ltM d a b pv).1 lim true true) ((partition ltM d a b pv).1 + 1) b lim (decide ((partition ltM d a b pv).1 - a ≥ (b - a) / 8)) (partition ltM d a b pv).2.1
        else pdq ltM (pdq ltM (partition ltM d a b pv).2.2 ((partition ltM d a b pv).1 + 1) b lim true true) a (partition ltM d a b pv).1 lim (decide (b - (partition ltM d a b pv).1 ≥ (b - a) / 8)) (partition ltM d a b pv).2.1) →
      SC c n H0 (fun x => x = d') H' → K (.ex .normal R') H') : wpC env A R H K := by
  simp [ir77, bkOf, seqT, sq] at hA
  subst hA
  obtain ⟨h0, h1, h2, h3, h4, h10, h11, h12⟩ := hp
  obtain ⟨di, hc, hn, rfl, hfr⟩ := hd
  have hrg := partition_holds ltM ltM_swo di a b pv hpv.1 hpv.2 (by omega)
  simp -implicitDefEqProofs only [op, ef, cl, sq, reduceIte, q5, q8, q9, j2, j3, j4, j5, j6, j7, S1, h0, h1, h2, h3, h4, h10, h11, h12, h13]
  refine callB_of _ _ _ _ _ _ _ _ (part82 c n di a b pv _ hn hc hb (by omega) (by omega) (by omega)) ?_
  rintro u H2 ⟨hu, d2, hd2, hs2, e2, hf2⟩
  cases hu
  generalize partition ltM di a b pv = r at *
  obtain ⟨mid, ap, d4⟩ := r
  simp only at hrg e2 rest ⊢
  subst e2
  obtain ⟨m1, m2, _⟩ := hrg
  have hfr2 := hfr.trans hf2 fun _ h => .inl h
  by_cases hlt : mid - a < b - mid
  · rw [if_pos hlt] at rest
    simp -implicitDefEqProofs (maxSteps := 1000000) (disch := omega) only [natOf_nat, iadm, ldm1, ldm2, stm0, stm1, stm2, wA, wA1, wS, wS1, wM, S2, op, ef, cl, sq, reduceIte, q5, q8, q9, j2, j3, j4, j5, j6, j7, S1, wQ8, h0, h1, h2, h3, h4, h10, h11, h12, h13, hlt]
    refine callB_of _ _ _ _ _ _ _ _ (ih a mid d2 _ (by omega) m1 (by omega) hs2 hd2) ?_
    rintro u H3 ⟨hu, d3, hd3, hs3, e3, hf3⟩
    cases hu
    simp -implicitDefEqProofs (maxSteps := 1000000) (disch := omega) only [natOf_nat, iadm, ldm1, ldm2, stm0, stm1, stm2, wA, wA1, wS, wS1, wM, S2, op, ef, cl, sq, reduceIte, q5, q8, q9, j2, j3, j4, j5, j6, j7, S1, h0, h1, h2, h3, h4, h10, h11, h12, h13]
    refine rest _ _ (mid + 1) b d3 (decide ((b - a) / 8 ≤ mid - a)) (by omega) (by omega) (Nat.le_refl _) (by omega) ?_ ?_ ?_ ?_ ?_ ?_ ?_ (by rw [e3]) ⟨d3, hd3, hs3, rfl, hfr2.trans hf3 fun _ h => .inl h⟩
    all_goals simp -implicitDefEqProofs only [op, ef, cl, sq, reduceIte, q5, q8, q9, j2, j3, j4, j5, j6, j7, S1, h0, h1, h2, h3, h4, h10, h11, h12]
  · rw [if_neg hlt] at rest
    simp -implicitDefEqProofs (maxSteps := 1000000) (disch := omega) only [natOf_nat, iadm, ldm1, ldm2, stm0, stm1, stm2, wA, wA1, wS, wS1, wM, S2, op, ef, cl, sq, reduceIte, q5, q8, q9, j2, j3, j4, j5, j6, j7, S1, wQ8, h0, h1, h2, h3, h4, h10, h11, h12, h13, hlt]
    refine callB_of _ _ _ _ _ _ _ _ (ih (mid + 1) b d2 _ (by omega) m2 (by omega) hs2 hd2) ?_
    rintro u H3 ⟨hu, d3, hd3, hs3, e3, hf3⟩
    cases hu
    simp -implicitDefEqProofs (maxSteps := 1000000) (disch := omega) only [natOf_nat, iadm, ldm1, ldm2, stm0, stm1, stm2, wA, wA1, wS, wS1, wM, S2, op, ef, cl, sq, reduceIte, q5, q8, q9, j2, j3, j4, j5, j6, j7, S1, h0, h1, h2, h3, h4, h10, h11, h12, h13]
    refine rest _ _ a mid d3 (decide ((b - a) / 8 ≤ b - mid)) (by omega) (by omega) (by omega) (by omega) ?_ ?_ ?_ ?_ ?_ ?_ ?_ (by rw [e3]) ⟨d3, hd3, hs3, rfl, hfr2.trans hf3 fun _ h => .inl h⟩
    all_goals simp -implicitDefEqProofs only [op, ef, cl, sq, reduceIte, q5, q8, q9, j2, j3, j4, j5, j6, j7, S1, h0, h1, h2, h3, h4, h10, h11, h12]
end Go.Proofs.YtodegnhallgnkaaGreat.St
end

section
namespace Go.Proofs.YtodegnhallgnkaaGreat.St
open Go.Rmp Go.Proofs.YtodegnhallgnkaaGreat.Ir
set_option maxRecDepth 10000
set_option maxHeartbeats 8000000
open Go.Sort in
theorem pdq64 (c n : Nat) (hs : n < 16777216) : ∀ m a b lim (d : Array Nm) H, b - a = m → a ≤ b → b ≤ n → lim < 1000 → d.size = n → H[c]? = some (.cells (msC eN d.toList)) →
    W env (.call 77 [.msl c 0 n 2, .int .i64 (a : Nat), .int .i64 (b : Nat), .int .i64 (lim : Nat), .fn 43 []]) H (SrtN c n (pdq ltM d a b lim true true) H) := by
  intro m
  induction m using Nat.strongRecOn with
  | _ m ih =>
  intro a b lim d H hm hab hb hlim hn hc
  subst hm
  refine W.fnI rfl rfl rfl ?_
  simp -implicitDefEqProofs only [ir77, op, ef, cl, sq, reduceIte, q5, q8, q9, j2, j3, j4, j5, j6, j7, S1]
  refine W.loopI (fun (q : Nat × Nat × Nat × Bool × Bool) R H' => At H' (fun H' => SC c n H (fun di => pdq ltM di q.1 q.2.1 q.2.2.1 q.2.2.2.1 q.2.2.2.2 = pdq ltM d a b lim true true) H') ∧ R 0 = .msl c 0 n 2 ∧ R 1 = .int .i64 q.1 ∧ R 2 = .int .i64 q.2.1 ∧ R 3 = .int .i64 q.2.2.1 ∧ R 4 = .fn 43 [] ∧ R 10 = .bool q.2.2.2.1 ∧ R 11 = .bool q.2.2.2.2 ∧ a ≤ q.1 ∧ q.1 ≤ q.2.1 ∧ q.2.1 ≤ b ∧ q.2.2.1 ≤ lim) (fun q => q.2.1 - q.1) (a, b, lim, true, true) ⟨.i ⟨d, hc, hn, rfl, Frm.refl _ _⟩, rfl, rfl, rfl, rfl, rfl, rfl, rfl, Nat.le_refl _, hab, Nat.le_refl _, Nat.le_refl _⟩ ?_
  rintro ⟨a1, b1, l1, wb, wp⟩ R H1 ⟨⟨di, hd, hsz, hP, hfr⟩, h0, h1, h2, h3, h4, h10, h11, q1, q2, q3, q4⟩
  simp only at hP h1 h2 h3 h10 h11 q1 q2 q3 q4 ⊢
  rw [c_block, c_seq]
  refine seg0 _ rfl c n a1 b1 l1 wb wp R H1 _ h0 h1 h2 h3 h4 h10 h11 q2 (by omega) ?_
  intro R1 p1
  rw [then_n, cont_ap, c_seq]
  refine seg1 _ rfl c n a1 b1 l1 wb wp di R1 H H1 _ p1 ⟨di, hd, hsz, rfl, hfr⟩ (by omega) q2 hs ?_ ?_
  · rintro R' H' hle ⟨d', hd', hs', rfl, hf'⟩
    rw [pdq, if_pos hle] at hP
    simp -implicitDefEqProofs only [op, ef, cl, sq, reduceIte, q5, q8, q9, j2, j3, j4, j5, j6, j7, S1]
    exact ⟨rfl, _, hd', hs', hP, hf'⟩
  intro R2 h12 p2
  rw [then_n, cont_ap, c_seq]
  refine seg2 _ rfl c n a1 b1 l1 wb wp di R2 H H1 _ p2 ⟨di, hd, hsz, rfl, hfr⟩ (by omega) (by omega) hs ?_ ?_
  · rintro R' H' hl0 ⟨d', hd', hs', rfl, hf'⟩
    rw [pdq, if_neg h12, if_pos hl0] at hP
    simp -implicitDefEqProofs only [op, ef, cl, sq, reduceIte, q5, q8, q9, j2, j3, j4, j5, j6, j7, S1]
    exact ⟨rfl, _, hd', hs', hP, hf'⟩
  intro R3 hl0 p3
  rw [then_n, cont_ap, c_seq]
  refine seg3 _ rfl c n a1 b1 l1 wb wp di R3 H H1 _ p3 ⟨di, hd, hsz, rfl, hfr⟩ (by omega) (by omega) hs (by omega) ?_
  rintro R4 H4 p4 ⟨d1, hd4, hs4, e1, hf4⟩
  obtain ⟨lim1, el⟩ : ∃ l, l = if (!wb) = true then l1 - 1 else l1 := ⟨_, rfl⟩
  have hll : lim1 ≤ l1 := by rw [el]; split <;> omega
  rw [← el] at p4
  rw [then_n, cont_ap, c_seq]
  refine seg4 _ rfl c n a1 b1 lim1 wb wp d1 R4 H H4 _ p4 ⟨d1, hd4, hs4, rfl, hf4⟩ (by omega) (by omega) hs ?_
  rintro R5 H5 p5 h13 h14 ⟨d1', hd5, hs5, e1', hf5⟩
  subst e1'
  have hcr := choosePivot_holds ltM d1' a1 b1 (by omega)
  obtain ⟨cp, ec⟩ : ∃ x, x = choosePivot ltM d1' a1 b1 := ⟨_, rfl⟩
  rw [← ec] at h13 h14 hcr
  rw [then_n, cont_ap, c_seq]
  refine seg5 _ rfl c n a1 b1 lim1 wb wp d1' cp.1 cp.2 R5 H H5 _ p5 h13 h14 ⟨d1', hd5, hs5, rfl, hf5⟩ (by omega) (by omega) hs hcr ?_
  rintro R6 H6 p6 h13 h14 ⟨d2, hd6, hs6, e2, hf6⟩
  obtain ⟨pv, ep⟩ : ∃ x, x = if cp.2 = .decreasing then (b1 - 1) - (cp.1 - a1) else cp.1 := ⟨_, rfl⟩
  obtain ⟨hi, eh⟩ : ∃ x, x = if cp.2 = .decreasing then Hint.increasing else cp.2 := ⟨_, rfl⟩
  rw [← ep] at h13
  rw [← eh] at h14
  have hpv : a1 ≤ pv ∧ pv < b1 := by rw [ep]; split <;> omega
  rw [then_n, cont_ap, c_seq]
  obtain ⟨pi, epi⟩ : ∃ x, x = if (wb && wp && hi = .increasing) = true then partialInsertionSort ltM d2 a1 b1 else (d2, false) := ⟨_, rfl⟩
  rw [pdq_step h12 hl0 e1 el ec e2 ep eh epi] at hP
  refine seg6 _ rfl c n a1 b1 lim1 wb wp d2 pv hi R6 H H6 _ p6 h13 h14 ⟨d2, hd6, hs6, rfl, hf6⟩ (by omega) (by omega) hs pi epi ?_ ?_
  · rintro R' H' hpt ⟨d', hd', hs', rfl, hf'⟩
    rw [if_pos hpt] at hP
    simp -implicitDefEqProofs only [op, ef, cl, sq, reduceIte, q5, q8, q9, j2, j3, j4, j5, j6, j7, S1]
    exact ⟨rfl, _, hd', hs', hP, hf'⟩
  rintro R7 H7 hpf p7 h13 ⟨d3, hd7, hs7, e3, hf7⟩
  rw [if_neg (by rw [hpf]; simp), ← e3] at hP
  rw [then_n, cont_ap, c_seq]
  refine seg7 _ rfl c n a1 b1 lim1 wb wp d3 pv R7 H H7 _ p7 h13 ⟨d3, hd7, hs7, rfl, hf7⟩ (by omega) (by omega) hs hpv ?_ ?_
  · rintro R' H' hgt g0 g1 g2 g3 g4 g10 g11 ⟨d', hd', hs', e', hf'⟩
    have hr := peq_range d3 hpv.1 hpv.2 (by omega)
    rw [if_pos hgt, if_pos hr, ← e'] at hP
    simp -implicitDefEqProofs only [op, ef, cl, sq, reduceIte, q5, q8, q9, j2, j3, j4, j5, j6, j7, S1]
    exact ⟨((partitionEqual ltM d3 a1 b1 pv).1, b1, lim1, wb, wp), by simp only; omega, .i ⟨_, hd', hs', hP, hf'⟩, g0, g1, g2, g3, g4, g10, g11, by simp only; omega, by simp only; omega, by simp only; omega, by simp only; omega⟩
  rintro R8 H8 hgt p8 h13 ⟨d3', hd8, hs8, e3', hf8⟩
  subst e3'
  have hr := partition_holds ltM ltM_swo d3' a1 b1 pv hpv.1 hpv.2 (by omega)
  rw [if_neg (by rw [hgt]; simp), if_pos ⟨hr.1, hr.2.1⟩] at hP
  rw [then_n, cont_ap]
  refine seg8 _ rfl c n a1 b1 lim1 wb wp d3' pv R8 H H8 _ p8 h13 ⟨d3', hd8, hs8, rfl, hf8⟩ (by omega) (by omega) hs hpv (fun a' b' d' H' hlt ha' hb' hs' hc' => ih _ (by omega) a' b' lim1 d' H' rfl ha' hb' (by omega) hs' hc') ?_
  rintro R' H' a' b' d' wb' ha' hab' hb' hlt g0 g1 g2 g3 g4 g10 g11 e' ⟨d'', hd', hs', rfl, hf'⟩
  simp -implicitDefEqProofs only [op, ef, cl, sq, reduceIte, q5, q8, q9, j2, j3, j4, j5, j6, j7, S1]
  exact ⟨(a', b', lim1, wb', (partition ltM d3' a1 b1 pv).2.1), by simp only; omega, .i ⟨_, hd', hs', by simp only; rw [e']; exact hP, hf'⟩, g0, g1, g2, g3, g4, g10, g11, by simp only; omega, hab', by simp only; omega, by simp only; omega⟩
open Go.Sort in
theorem sortF49 (c : Nat) (d : Array Nm) (H : Heap) (hc : H[c]? = some (.cells (msC eN d.toList))) (hs : d.size < 16777216) :
    W env (.call 59 [.msl c 0 d.size 2, .fn 43 []]) H (SrtN c d.size (sort ltM d) H) := by
  refine W.fnI rfl rfl rfl ?_
  have w1 : IntKind.u64.wrap (d.size : Int) = (d.size : Int) := wrapu (by omega)
  simp -implicitDefEqProofs only [ir59, op, ef, cl, sq, reduceIte, q5, q8, q9, j2, j3, j4, j5, j6, j7, S1, w1]
  refine callB_of _ _ _ _ _ _ _ _ (len65 d.size hs _) ?_
  rintro u H1 ⟨hu, rfl⟩
  cases hu
  have hb := bits_lt (n := d.size) (k := 24) hs
  simp -implicitDefEqProofs only [op, ef, cl, sq, reduceIte, q5, q8, q9, j2, j3, j4, j5, j6, j7, S1]
  refine callB_of _ _ _ _ _ _ _ _ (pdq64 c d.size hs _ 0 d.size (bitsLen d.size) d _ rfl (Nat.zero_le _) (Nat.le_refl _) (by omega) rfl hc) ?_
  rintro u H2 ⟨hu, h2⟩
  cases hu
  simp -implicitDefEqProofs only [op, ef, cl, sq, reduceIte, q5, q8, q9, j2, j3, j4, j5, j6, j7, S1]
  exact ⟨rfl, h2⟩
end Go.Proofs.YtodegnhallgnkaaGreat.St
end

section
namespace Go.Proofs.YtodegnhallgnkaaGreat.St
open Go.Rmp Go.Proofs.YtodegnhallgnkaaGreat.Ir
set_option maxRecDepth 10000
theorem sorted_listF {d : Array Nm} (hn : d.toList.Nodup) : (Go.Sort.sort ltM d).toList.Perm d.toList ∧ (Go.Sort.sort ltM d).toList.Pairwise (fun a b => ltM a b = true) := by
  obtain ⟨⟨hs, _, hp⟩, hsort⟩ := Go.Sort.sort_sorts ltM ltM_swo d
  have e1 : (Go.Sort.sort ltM d).extract 0 d.size = Go.Sort.sort ltM d := by
    conv => lhs; arg 3; rw [← hs]
    simp
  have hperm : (Go.Sort.sort ltM d).toList.Perm d.toList := by
    rw [e1] at hp
    simpa using hp
  refine ⟨hperm, ?_⟩
  have hn2 : (Go.Sort.sort ltM d).toList.Nodup := hperm.nodup_iff.2 hn
  rw [List.pairwise_iff_getElem]
  intro i j hi hj hij
  have h1 := hsort i j (Nat.zero_le _) hij (by rw [← hs]; simpa using hj)
  have gi := arr_get (d := Go.Sort.sort ltM d) (i := i) (by simpa using hi)
  have gj := arr_get (d := Go.Sort.sort ltM d) (i := j) (by simpa using hj)
  rw [List.getElem?_eq_getElem hi] at gi
  rw [List.getElem?_eq_getElem hj] at gj
  rw [Option.some.inj gi, Option.some.inj gj]
  cases h : ltM (Go.Sort.sort ltM d)[i]! (Go.Sort.sort ltM d)[j]! with
  | true => rfl
  | false =>
    have e := ltM_tri h h1
    rw [← Option.some.inj gi, ← Option.some.inj gj] at e
    have := (List.getElem_inj hn2).1 e
    omega
theorem sortedF34 (es : List (Nm × T)) (c mb : Nat) (H : Heap) (hnd : (es.map (·.1)).Nodup) (hes : es.length ≤ 8000000) (hc : H[c]? = some (.cells [.map mb])) (hm : H[mb]? = some (.map (encK kN es))) :
    W env (.call 41 [.fn 60 [.ptr c 0], .fn 43 []]) H (SortQ es H) := by
  refine W.fnI rfl rfl rfl ?_
  simp -implicitDefEqProofs only [ir41, op, ef, cl, sq, reduceIte, q5, q8, q9, j2, j3, j4, j5, j6, j7, S1]
  refine callB_of _ _ _ _ _ _ _ _ (coll48 es c mb H hnd (by omega) hc hm) ?_
  rintro u H1 ⟨hx, t, vis, hu, hmt, hri⟩
  cases hu
  have hperm : vis.Perm (es.map (·.1)) := (List.perm_ext_iff_of_nodup hri.nvis hnd).2 fun k => hri.end' k
  have hvl : vis.length = es.length := by have := hri.len; simpa using this
  rcases hmt with ⟨rfl, rfl⟩ | ⟨d, rfl, hd, hdn⟩
  · simp -implicitDefEqProofs only [op, ef, cl, sq, reduceIte, q5, q8, q9, j2, j3, j4, j5, j6, j7, S1]
    refine callB_of _ _ _ _ _ _ _ _ (sortE _) ?_
    rintro u H2 ⟨hu, rfl⟩
    cases hu
    simp -implicitDefEqProofs only [op, ef, cl, sq, reduceIte, q5, q8, q9, j2, j3, j4, j5, j6, j7, S1]
    exact ⟨hx, _, [], rfl, mut_nil _ _ _ _, hperm, List.Pairwise.nil⟩
  · simp -implicitDefEqProofs only [op, ef, cl, sq, reduceIte, q5, q8, q9, j2, j3, j4, j5, j6, j7, S1]
    have := sortF49 d vis.toArray H1 (by simpa using hd) (by simpa using (by omega : vis.length < 16777216))
    simp -implicitDefEqProofs only [List.size_toArray] at this
    refine callB_of _ _ _ _ _ _ _ _ this ?_
    rintro u H2 ⟨hu, d2, h2, hsz2, rfl, hfr⟩
    cases hu
    simp -implicitDefEqProofs only [op, ef, cl, sq, reduceIte, q5, q8, q9, j2, j3, j4, j5, j6, j7, S1]
    have hs := sorted_listF (d := vis.toArray) (by simpa using hri.nvis)
    simp -implicitDefEqProofs only [List.size_toArray] at hs
    refine ⟨ext_of fun a x hax => hfr.get (hx.get hax) (by have := glt hax; omega), _, _, rfl, .inr ⟨d, ?_, h2, hdn⟩, hs.1.trans hperm, hs.2⟩
    rw [hs.1.length_eq]
end Go.Proofs.YtodegnhallgnkaaGreat.St
end

section
namespace Go.Proofs.YtodegnhallgnkaaGreat.St
open Go.Rmp Go.Proofs.YtodegnhallgnkaaGreat.Ir
set_option maxRecDepth 10000
theorem mut_n {α : Type} {enc : α → List T} {n : Nat} (hn : ∀ x, (enc x).length = n) (h0 : n ≠ 0) {n0 : Nat} {H : Heap} {t : T} {l : List α} (hm : Mut enc n n0 H t l) {i : Nat} {x : α} (hx : l[i]? = some x) : ∃ b, H[b]? = some (.cells (msC enc l)) ∧ iadT n i t = some (.ptr b (i * n)) ∧ ldcB n (i * n) (some (.cells (msC enc l))) = some (enc x) := by
  have hi := (List.getElem?_eq_some_iff.1 hx).1
  rcases hm with ⟨rfl, _⟩ | ⟨b, rfl, hb, _⟩
  · simp at hi
  · refine ⟨b, hb, by rw [iad_m]; simp [hi, h0], ?_⟩
    have := msC_get hn hx 0 n (by omega)
    simp -implicitDefEqProofs only [Nat.add_zero, List.drop_zero] at this
    rw [this, List.take_of_length_le (by rw [hn]; omega)]
def eK (x : Nm × Hd) : List T := [.str x.1.1, .int .u64 x.1.2, .str x.2.value, .sl .arg (x.2.keys.map eS), .int .i64 x.2.stamp]
def keptL (s : Sto) (l : List Nm) : List (Nm × Hd) := l.map fun n => (n, hdOf (mlook s.vs n))
def KeptQ (s : Sto) (H : Heap) : Out → Heap → Prop := fun o H' => Ext H H' ∧ ∃ k l, KOk k l ∧ o = .val (.sl k ((keptL s l).map eK)) ∧ l.Perm (s.vs.map (·.1)) ∧ l.Pairwise (fun a b => ltM a b = true)
theorem kept20 (b : Bk) (s : Sto) (F : Nat → Prop) (H : Heap) (hs : SH H b s F) (hi : SInv s) (hn : s.vs.length ≤ 8000000) : W env (.call 19 [.ptr b.s 0]) H (KeptQ s H) := by
  obtain ⟨im, pm, sa⟩ := hs
  refine W.fnI rfl rfl rfl ?_
  simp -implicitDefEqProofs only [ir19, op, ef, cl, sq, reduceIte, q5, q8, q9, j2, j3, j4, j5, j6, j7, S1, sa.hs]
  refine callB_of _ _ _ _ _ _ _ (fun o H' => o = .val (.fn 60 [.ptr H.length 0]) ∧ H' = H ++ [.cells [.map b.v]]) ?_ ?_
  · refine W.fnI rfl rfl rfl ?_
    simp -implicitDefEqProofs only [ir42, op, ef, cl, sq, reduceIte, q5, q8, q9, j2, j3, j4, j5, j6, j7, S1]
    exact rfl
  rintro u H1 ⟨hu, rfl⟩
  cases hu
  have lv := glt sa.hv
  have hkeys : (encV s.vs).map (·.1) = s.vs.map (·.1) := by simp [encV]
  simp -implicitDefEqProofs only [op, ef, cl, sq, reduceIte, q5, q8, q9, j2, j3, j4, j5, j6, j7, S1]
  refine callB_of _ _ _ _ _ _ _ _ (sortedF34 (encV s.vs) H.length b.v _ (by rw [hkeys]; exact hi.nd) (by simpa [encV] using hn) (g_tail rfl) (by rw [g_app lv]; exact sa.hv)) ?_
  rintro t H2 ⟨hx2, _, l, hu, hmt, hperm, hpw⟩
  cases hu
  rw [hkeys] at hperm
  have hll : l.length ≤ 8000000 := by rw [hperm.length_eq]; simpa using hn
  have hlen := hmt.len
  have hx0 : Ext H H2 := (Ext.rfl'.app _).trans hx2
  simp -implicitDefEqProofs only [op, ef, cl, sq, reduceIte, q5, q8, q9, j2, j3, j4, j5, j6, j7, S1, hlen]
  have hlenH : ∀ Hx, lenT Hx .sl t = some l.length := fun Hx => by
    rcases hmt with ⟨e, rfl⟩ | ⟨c, rfl, _, _⟩
    · rw [e]; rfl
    · rfl
  refine W.loopI (fun (i : Nat) R H' => At H' (fun H' => ∃ kw, R 3 = .sl kw ((keptL s (l.take i)).map eK) ∧ Ext H H' ∧ Ext H2 H' ∧ Apd H2.length H' kw ∧ KOk kw (l.take i)) ∧ R 0 = .ptr b.s 0 ∧ R 11 = t ∧ R 12 = .int .i64 l.length ∧ R 13 = .int .i64 i ∧ i ≤ l.length) (fun i => l.length - i) 0 ⟨.i ⟨.nil, rfl, hx0, Ext.rfl', apd_nil _ _, fun _ => rfl⟩, rfl, rfl, rfl, rfl, Nat.zero_le _⟩ ?_
  rintro i R H3 ⟨⟨kw, h3, hx3, hx23, hap, hko⟩, h0, h11, h12, h13, hil⟩
  by_cases hlt : i < l.length
  · obtain ⟨m, hm⟩ := getP hlt
    have ws := wrap_succ (show i < 9223372036854775807 by omega)
    obtain ⟨c, g1, g2, g3⟩ := mut_n (enc := eN) (n := 2) (fun _ => rfl) (by decide) (hmt.ext hx23) hm
    have sa3 := sa.frm (ext_frm (F := fun _ => False) hx3) (fun _ _ _ h => h)
    have l0 := glt sa3.hs
    have lv3 := glt sa3.hv
    have hlk := fun Hx z ok => lkpB_K kNok z ok Hx (encV s.vs) m
    simp -implicitDefEqProofs only [kN, eN] at hlk
    have hh := lkp_hd s.vs m
    simp -implicitDefEqProofs only [op, ef, cl, sq, reduceIte, q5, q8, q9, j2, j3, j4, j5, j6, j7, S1, S2, S3, List.length_set, h0, h11, h12, h13, hlt, natOf_nat, g1, g2, g3, eN, sa3.hs, sa3.hv, l0, lv3, hlk, hh, encHd]
    refine callB_of _ _ _ _ _ _ _ _ (version30 b s F m.1 m.2 _ ⟨im, pm, sa3.frm (ext_frm (F := fun _ => False) (Ext.rfl'.app _)) (fun _ _ _ h => h)⟩ hi) ?_
    rintro u H4 ⟨hx4, kk, hkk, hu⟩
    cases hu
    have c0 : H4[H3.length]? = some (.cells [.str m.1, .int .u64 m.2]) := hx4.get (by rw [g_tail rfl])
    have hx34 : Ext H3 H4 := (Ext.rfl'.app _).trans hx4
    have s4 := hx34.get sa3.hs
    have v4 := hx34.get sa3.hv
    obtain ⟨hd, hhd⟩ : ∃ hd, hd = hdOf (mlook s.vs m) := ⟨_, rfl⟩
    rw [← hhd] at hh hkk
    have hall := all_map (enc := eK) (n := 5) (fun _ => rfl) (keptL s (l.take i))
    have hkl : ((keptL s (l.take i)).map eK).length ≤ 8000000 := by simp -implicitDefEqProofs only [keptL, List.length_map, List.length_take]; omega
    obtain ⟨k', H5, ha, hap', hst⟩ := app_ok (bytes := 72) ((keptL s (l.take i)).map eK) [[T.str m.1, .int .u64 m.2, .str hd.value, .sl .arg (hd.keys.map eS), .int .i64 hd.stamp]] (hap.ext hx34) (Nat.le_trans hx23.len hx34.len) (by simp) (roomT (by simp -implicitDefEqProofs only [List.length_cons, List.length_nil]; omega))
    have hnn := app_nn ha (by simp)
    simp -implicitDefEqProofs only [op, ef, cl, sq, reduceIte, q5, q8, q9, j2, j3, j4, j5, j6, j7, S1] at ha
    simp -implicitDefEqProofs only [op, ef, cl, sq, reduceIte, q5, q8, q9, j2, j3, j4, j5, j6, j7, S1, eVer, h3, c0, s4, v4, hlk, hh, encHd, ← hhd, hall, ha, h0, h11, h12, h13, ws]
    refine ⟨i + 1, by omega, .i ⟨k', ?_, hst.ext H (by have := hx0.len; omega) (hx3.trans hx34), hst.ext H2 (Nat.le_refl _) (hx23.trans hx34), hap', fun h => absurd h hnn⟩, rfl, by omega⟩
    rw [take_sn hm]
    simp -implicitDefEqProofs only [keptL, List.map_append, List.map_cons, List.map_nil, eK, ← hhd]
  · have hil' : i = l.length := by omega
    subst hil'
    rw [List.take_length] at h3 hko
    simp -implicitDefEqProofs only [op, ef, cl, sq, reduceIte, q5, q8, q9, j2, j3, j4, j5, j6, j7, S1, h3, h12, h13, hlt]
    exact ⟨hx3, kw, l, hko, rfl, hperm, hpw⟩
end Go.Proofs.YtodegnhallgnkaaGreat.St
end

section
namespace Go.Proofs.YtodegnhallgnkaaGreat.St
open Go.Rmp Go.Proofs.YtodegnhallgnkaaGreat.Ir
set_option maxRecDepth 10000
theorem sorted_eq : ∀ (l l' : List Nm), l.Pairwise (fun a b => ltM a b = true) → l'.Pairwise (fun a b => ltM a b = true) → (∀ x, x ∈ l ↔ x ∈ l') → l = l'
  | [], [], _, _, _ => rfl
  | [], b :: l', _, _, h => by have := (h b).2 (by simp); simp at this
  | a :: l, [], _, _, h => by have := (h a).1 (by simp); simp at this
  | a :: l, b :: l', h1, h2, h => by
    rw [List.pairwise_cons] at h1 h2
    have e : a = b := by
      rcases List.mem_cons.1 ((h a).1 (by simp)) with e | e
      · exact e
      · rcases List.mem_cons.1 ((h b).2 (by simp)) with e2 | e2
        · exact e2.symm
        · have q1 := h2.1 a e
          have q2 := h1.1 b e2
          have := ltM_trans q1 q2
          rw [ltM_irr] at this; cases this
    subst e
    rw [sorted_eq l l' h1.2 h2.2 fun x => ?_]
    have hx := h x
    simp -implicitDefEqProofs only [List.mem_cons] at hx
    constructor
    · intro hm
      rcases hx.1 (.inr hm) with e | e
      · subst e; have := h1.1 x hm; rw [ltM_irr] at this; cases this
      · exact e
    · intro hm
      rcases hx.2 (.inr hm) with e | e
      · subst e; have := h2.1 x hm; rw [ltM_irr] at this; cases this
      · exact e
theorem mem_keys {α β : Type} [DecidableEq α] {es : List (α × β)} {k : α} : k ∈ es.map (·.1) ↔ (mlook es k).isSome = true := by
  cases h : mlook es k with
  | none => simp [mlook_none.1 h]
  | some v =>
    simp -implicitDefEqProofs only [Option.isSome_some, iff_true]
    exact List.mem_map.2 ⟨_, mlook_mem h, rfl⟩
theorem len_eq {α : Type} {l l' : List α} (h1 : l.Nodup) (h2 : l'.Nodup) (h : ∀ x, x ∈ l ↔ x ∈ l') : l.length = l'.length := ((List.perm_ext_iff_of_nodup h1 h2).2 h).length_eq
def tA : ByteArray := ⟨#[97]⟩
def tB : ByteArray := ⟨#[98]⟩
def tX : ByteArray := ⟨#[120]⟩
def tY : ByteArray := ⟨#[121]⟩
end Go.Proofs.YtodegnhallgnkaaGreat.St
end

section
namespace Go.Proofs.YtodegnhallgnkaaGreat.St
open Go.Rmp Go.Proofs.YtodegnhallgnkaaGreat.Ir
set_option maxRecDepth 10000
theorem SH.ext {H H' : Heap} {b : Bk} {s : Sto} {F : Nat → Prop} (h : SH H b s F) (hx : Ext H H') : SH H' b s F := by
  obtain ⟨im, pm, sa⟩ := h
  exact ⟨im, pm, sa.frm (ext_frm (F := fun _ => False) hx) (fun _ _ _ h => h)⟩
theorem Frm.more {H H' H'' : Heap} {G : Nat → Prop} (h : Frm (fun _ => False) H H') (h' : Frm G H' H'') (hg : ∀ c, G c → H.length ≤ c) : Frm (fun _ => False) H H'' := h.trans h' fun c hc => .inr (hg c hc)
theorem Frm.ext {H H' H'' : Heap} {F : Nat → Prop} (h : Frm F H H') (h' : Ext H' H'') : Frm F H H'' := h.trans (ext_frm (F := fun _ => False) h') fun c hc => hc.elim
theorem frm_ext {H H' : Heap} (h : Frm (fun _ => False) H H') : Ext H H' := ext_of fun c x hx => h.get hx id
theorem li1 {k : SK} {a b c : List T} (h : b.length = 5) : iadT 5 1 (.sl k [a, b, c]) = some (.iptr b) := by simp [iadT, h]
end Go.Proofs.YtodegnhallgnkaaGreat.St
end

section
namespace Go.Proofs.YtodegnhallgnkaaGreat.St
open Go.Rmp Go.Proofs.YtodegnhallgnkaaGreat.Ir
set_option maxRecDepth 10000
def I64 (n : Int) : Prop := -9223372036854775808 ≤ n ∧ n ≤ 9223372036854775807
end Go.Proofs.YtodegnhallgnkaaGreat.St
end

section
namespace Go.Proofs.YtodegnhallgnkaaGreat.St
open Go.Rmp Go.Proofs.YtodegnhallgnkaaGreat.Ir
set_option maxRecDepth 10000
end Go.Proofs.YtodegnhallgnkaaGreat.St
end

section
namespace Go.Proofs.YtodegnhallgnkaaGreat.St
open Go.Rmp Go.Proofs.YtodegnhallgnkaaGreat.Ir
set_option maxRecDepth 10000
theorem texts37 (k k' : SK) (l : List ByteArray) (H : Heap) (hl : l.length ≤ 8000000) : W env (.call 57 [.sl k (l.map eS), .sl k' (l.map eS)]) H (fun o H' => o = .val (.bool true) ∧ H' = H) := by
  refine W.fnI rfl rfl rfl ?_
  have e0 : (((l.length : Nat) : Int) != ((l.length : Nat) : Int)) = false := by simp
  simp -implicitDefEqProofs only [ir57, op, ef, cl, sq, reduceIte, q5, q8, q9, j2, j3, j4, j5, j6, j7, S1, List.length_map, e0]
  refine W.loopI (fun (i : Nat) R H' => H' = H ∧ R 0 = .sl k (l.map eS) ∧ R 1 = .sl k' (l.map eS) ∧ R 5 = .int .i64 i ∧ i ≤ l.length) (fun i => l.length - i) 0 ⟨rfl, rfl, rfl, rfl, Nat.zero_le _⟩ ?_
  rintro i R _ ⟨rfl, h0, h1, h5, hil⟩
  by_cases hlt : i < l.length
  · obtain ⟨x, hx⟩ := getP hlt
    have ws := wrap_succ (show i < 9223372036854775807 by omega)
    have i1 := iadX (e := eS) (n := 1) (fun _ => rfl) (by decide) (k := k) hx
    have i2 := iadX (e := eS) (n := 1) (fun _ => rfl) (by decide) (k := k') hx
    simp -implicitDefEqProofs only [op, ef, cl, sq, reduceIte, q5, q8, q9, j2, j3, j4, j5, j6, j7, S1, h0, h1, h5, List.length_map, hlt, natOf_nat, i1, i2, eS, ws]
    exact ⟨i + 1, by omega, rfl, by omega⟩
  · simp -implicitDefEqProofs only [op, ef, cl, sq, reduceIte, q5, q8, q9, j2, j3, j4, j5, j6, j7, S1, h0, h1, h5, List.length_map, hlt]
theorem same22 (k : ByteArray) (n : Nat) (v : ByteArray) (kk kk' : SK) (ks : List ByteArray) (H : Heap) (hl : ks.length ≤ 8000000) : W env (.call 40 [.agg (eVer k n v kk ks), .agg (eVer k n v kk' ks)]) H (RetG (.bool true) H) := by
  refine W.fnI rfl rfl rfl ?_
  simp -implicitDefEqProofs only [ir40, eVer, op, ef, cl, sq, reduceIte, q5, q8, q9, j2, j3, j4, j5, j6, j7, S1, S2, S3]
  refine callB_of _ _ _ _ _ _ _ _ (texts37 kk kk' ks _ hl) ?_
  rintro u H1 ⟨hu, rfl⟩
  cases hu
  simp -implicitDefEqProofs only [op, ef, cl, sq, reduceIte, q5, q8, q9, j2, j3, j4, j5, j6, j7, S1]
  exact ⟨rfl, _, List.append_assoc _ _ _⟩
end Go.Proofs.YtodegnhallgnkaaGreat.St
end

section
namespace Go.Proofs.YtodegnhallgnkaaGreat.St
open Go.Rmp Go.Proofs.YtodegnhallgnkaaGreat.Ir
set_option maxRecDepth 10000
def SrtS (c : Nat) (d' : Array ByteArray) (H : Heap) : Out → Heap → Prop := fun o H' => o = .val (.tup []) ∧ H'[c]? = some (.cells (msC eS d'.toList)) ∧ Frm (fun x => x = c) H H'
theorem swp_setS {Hx : Heap} {c : Nat} (d : Array ByteArray) {i j : Nat} (hi : i < d.size) (hj : j < d.size) :
    stcB Hx c [.str d[j]!] (i * 1) (some (.cells (msC eS d.toList))) = some (Hx.set c (.cells (msC eS (d.toList.set i d[j]!)))) ∧
    ∀ Hy, stcB Hy c [.str d[i]!] (j * 1) (some (.cells (msC eS (d.toList.set i d[j]!)))) = some (Hy.set c (.cells (msC eS (Go.Sort.swp d i j).toList))) := by
  have g1 := msC_set (enc := eS) (n := 1) (y := d[j]!) (fun _ => rfl) (arr_get hi) Hx c (eS d[j]!) 0 (by simp [eS]) (by simp [eS])
  obtain ⟨z, hz⟩ := getP (l := d.toList.set i d[j]!) (i := j) (by simpa using hj)
  have g2 := fun Hy => msC_set (enc := eS) (n := 1) (y := d[i]!) (fun _ => rfl) hz Hy c (eS d[i]!) 0 (by simp [eS]) (by simp [eS])
  refine ⟨by simpa [eS] using g1, fun Hy => ?_⟩
  rw [swp_list]
  simpa [eS] using g2 Hy
theorem ld_atS {d : Array ByteArray} {i : Nat} (h : i < d.size) : ldcB 1 (i * 1) (some (.cells (msC eS d.toList))) = some [.str d[i]!] := by
  have := msC_get (enc := eS) (n := 1) (fun _ => rfl) (arr_get h) 0 1 (by decide)
  simpa [eS] using this
open Go.Sort in
theorem ins85 (c : Nat) (d : Array ByteArray) (a b : Nat) (H : Heap) (hc : H[c]? = some (.cells (msC eS d.toList))) (hb : b ≤ d.size) (hab : a ≤ b) (hs : d.size < 4611686018427387903) :
    W env (.call 102 [.msl c 0 d.size 1, .int .i64 a, .int .i64 b]) H (SrtS c (insertionSort strLt d a b) H) := by
  refine W.fnI rfl rfl rfl ?_
  have wa := wrap_succ (show a < 9223372036854775807 by omega)
  simp -implicitDefEqProofs only [ir102, op, ef, cl, sq, reduceIte, q5, q8, q9, j2, j3, j4, j5, j6, j7, S1, wa]
  refine W.loopI (fun (i : Nat) R H' => At H' (fun H' => ∃ di : Array ByteArray, H'[c]? = some (.cells (msC eS di.toList)) ∧ di.size = d.size ∧ insOuter strLt a b i di = insertionSort strLt d a b ∧ Frm (fun x => x = c) H H') ∧ R 0 = .msl c 0 d.size 1 ∧ R 1 = .int .i64 a ∧ R 2 = .int .i64 b ∧ R 6 = .int .i64 i ∧ a + 1 ≤ i) (fun i => b - i) (a + 1) ⟨.i ⟨d, hc, rfl, rfl, Frm.refl _ _⟩, rfl, rfl, rfl, rfl, Nat.le_refl _⟩ ?_
  rintro i R H1 ⟨⟨di, hd, hsz, hins, hfr⟩, h0, h1, h2, h6, hia⟩
  by_cases hlt : i < b
  · have wi := wrap_succ (show i < 9223372036854775807 by omega)
    simp -implicitDefEqProofs only [op, ef, cl, sq, reduceIte, q5, q8, q9, j2, j3, j4, j5, j6, j7, S1, h0, h1, h2, h6, hlt]
    refine W.loopE 2 (fun (j : Nat) R H' => At H' (fun H' => ∃ dj : Array ByteArray, H'[c]? = some (.cells (msC eS dj.toList)) ∧ dj.size = d.size ∧ insInner strLt a j dj = insInner strLt a i di ∧ Frm (fun x => x = c) H H') ∧ R 0 = .msl c 0 d.size 1 ∧ R 1 = .int .i64 a ∧ R 2 = .int .i64 b ∧ R 6 = .int .i64 i ∧ R 7 = .int .i64 j ∧ j ≤ i) (fun j => j) i
      (fun R H' => At H' (fun H' => ∃ dj : Array ByteArray, H'[c]? = some (.cells (msC eS dj.toList)) ∧ dj.size = d.size ∧ dj = insInner strLt a i di ∧ Frm (fun x => x = c) H H') ∧ R 0 = .msl c 0 d.size 1 ∧ R 1 = .int .i64 a ∧ R 2 = .int .i64 b ∧ R 6 = .int .i64 i) ?_ ?_ ?_
    · refine ⟨.i ⟨di, hd, hsz, rfl, hfr⟩, ?_, ?_, ?_, ?_, ?_, Nat.le_refl _⟩
      all_goals (simp -implicitDefEqProofs only [op, ef, cl, sq, reduceIte, q5, q8, q9, j2, j3, j4, j5, j6, j7, S1, h0, h1, h2, h6])
    · rintro j R H2 ⟨⟨dj, hd2, hsz2, hinn, hfr2⟩, q0, q1, q2, q6, q7, hji⟩
      by_cases hja : a < j
      · obtain ⟨j', rfl⟩ : ∃ j', j = j' + 1 := ⟨j - 1, by omega⟩
        have wp : IntKind.i64.wrap (((j' + 1 : Nat) : Int) - 1) = (j' : Int) := by rw [wrap64 (by omega)]; omega
        have j1 : j' + 1 < d.size := by omega
        have j0 : j' < d.size := by omega
        have i1 : iadT 1 (j' + 1) (.msl c 0 d.size 1) = some (.ptr c ((j' + 1) * 1)) := by rw [iad_m]; simp [j1]
        have i0 : iadT 1 j' (.msl c 0 d.size 1) = some (.ptr c (j' * 1)) := by rw [iad_m]; simp [j0]
        have v1 := ld_atS (d := dj) (i := j' + 1) (by omega)
        have v0 := ld_atS (d := dj) (i := j') (by omega)
        simp -implicitDefEqProofs only [op, ef, cl, sq, reduceIte, q5, q8, q9, j2, j3, j4, j5, j6, j7, S1, q0, q1, q2, q6, q7, hja, natOf_nat, i1, i0, wp, hd2, v1, v0]
        refine callB_of _ _ _ _ _ _ _ _ (less91 dj[j' + 1]! dj[j']! _) ?_
        rintro u H3 ⟨hu, rfl⟩
        cases hu
        have hd3 := hd2
        obtain ⟨s1, s2⟩ := swp_setS (Hx := H3) (c := c) dj (i := j' + 1) (j := j') (by omega) (by omega)
        cases hc0 : strLt dj[j' + 1]! dj[j']! with
        | true =>
          simp -implicitDefEqProofs only [op, ef, cl, sq, reduceIte, q5, q8, q9, j2, j3, j4, j5, j6, j7, S1, q0, q1, q2, q6, q7, natOf_nat, i1, i0, wp, hd3, v1, v0, s1, S2, s2, glt hd3]
          exact ⟨j', by omega, .i ⟨swp dj (j' + 1) j', g_eq (by rw [List.length_set]; exact glt hd3), by rw [swp_size]; exact hsz2, by rw [← hinn]; conv => { rhs; rw [insInner, if_pos (by simp -implicitDefEqProofs only [Bool.and_eq_true, decide_eq_true_eq]; exact ⟨hja, hc0⟩)] }, (hfr2.set (.inl rfl) _).set (.inl rfl) _⟩, rfl, by omega⟩
        | false =>
          simp -implicitDefEqProofs only [op, ef, cl, sq, reduceIte, q5, q8, q9, j2, j3, j4, j5, j6, j7, S1, q0, q1, q2, q6, q7]
          exact .i ⟨dj, hd3, hsz2, by rw [← hinn, insInner]; simp [hc0], hfr2⟩
      · simp -implicitDefEqProofs only [op, ef, cl, sq, reduceIte, q5, q8, q9, j2, j3, j4, j5, j6, j7, S1, q0, q1, q2, q6, q7, hja]
        refine .i ⟨dj, hd2, hsz2, ?_, hfr2⟩
        rw [← hinn]
        cases j with
        | zero => rfl
        | succ j => rw [insInner, if_neg (by simp -implicitDefEqProofs only [Bool.and_eq_true, decide_eq_true_eq]; omega)]
    · rintro R H2 ⟨⟨dj, hd2, hsz2, hinn, hfr2⟩, q0, q1, q2, q6⟩
      simp -implicitDefEqProofs only [op, ef, cl, sq, reduceIte, q5, q8, q9, j2, j3, j4, j5, j6, j7, S1, q0, q1, q2, q6, wi]
      refine ⟨i + 1, by omega, .i ⟨dj, hd2, hsz2, ?_, hfr2⟩, rfl, by omega⟩
      rw [← hins, hinn]
      conv => rhs; rw [insOuter, if_pos hlt]
  · simp -implicitDefEqProofs only [op, ef, cl, sq, reduceIte, q5, q8, q9, j2, j3, j4, j5, j6, j7, S1, h0, h1, h2, h6, hlt]
    rw [insOuter, if_neg hlt] at hins
    subst hins
    exact ⟨rfl, hd, hfr⟩
theorem strLt_swo : Go.Sort.SWO strLt where
  irrefl := lt_irr
  trans _ _ _ h1 h2 := lt_trans' h1 h2
  ntrans x y z h1 h2 := by
    cases h : strLt x z with
    | false => rfl
    | true =>
      cases h3 : strLt y x with
      | true => rw [lt_trans' h3 h] at h2; cases h2
      | false => have := lt_tri h1 h3; subst this; rw [h] at h2; cases h2
theorem sorted_listS {d : Array ByteArray} (hn : d.toList.Nodup) : (Go.Sort.insertionSort strLt d 0 d.size).toList.Perm d.toList ∧ (Go.Sort.insertionSort strLt d 0 d.size).toList.Pairwise (fun a b => strLt a b = true) := by
  obtain ⟨⟨hs, _, hp⟩, hsort⟩ := Go.Sort.insertionSort_holds (lt := strLt) strLt_swo d 0 d.size (Nat.zero_le _) (Nat.le_refl _)
  have e1 : (Go.Sort.insertionSort strLt d 0 d.size).extract 0 d.size = Go.Sort.insertionSort strLt d 0 d.size := by
    conv => lhs; arg 3; rw [← hs]
    simp
  have hperm : (Go.Sort.insertionSort strLt d 0 d.size).toList.Perm d.toList := by
    rw [e1] at hp
    simpa using hp
  refine ⟨hperm, ?_⟩
  have hn2 : (Go.Sort.insertionSort strLt d 0 d.size).toList.Nodup := hperm.nodup_iff.2 hn
  rw [List.pairwise_iff_getElem]
  intro i j hi hj hij
  have h1 := hsort i j (Nat.zero_le _) hij (by rw [← hs]; simpa using hj)
  have gi := arr_get (d := Go.Sort.insertionSort strLt d 0 d.size) (i := i) (by simpa using hi)
  have gj := arr_get (d := Go.Sort.insertionSort strLt d 0 d.size) (i := j) (by simpa using hj)
  rw [List.getElem?_eq_getElem hi] at gi
  rw [List.getElem?_eq_getElem hj] at gj
  rw [Option.some.inj gi, Option.some.inj gj]
  cases h : strLt (Go.Sort.insertionSort strLt d 0 d.size)[i]! (Go.Sort.insertionSort strLt d 0 d.size)[j]! with
  | true => rfl
  | false =>
    have e := lt_tri h h1
    rw [← Option.some.inj gi, ← Option.some.inj gj] at e
    have := (List.getElem_inj hn2).1 e
    omega
theorem ins85e (H : Heap) : W env (.call 102 [.sl .nil [], .int .i64 0, .int .i64 0]) H (Ret (.tup []) H) := by
  refine W.fnI rfl rfl rfl ?_
  have wa : IntKind.i64.wrap ((0 : Int) + 1) = 1 := by decide
  simp -implicitDefEqProofs only [ir102, op, ef, cl, sq, reduceIte, q5, q8, q9, j2, j3, j4, j5, j6, j7, S1, wa]
  refine W.loopI (fun (_ : Nat) R H' => H' = H ∧ R 2 = .int .i64 0 ∧ R 6 = .int .i64 1) (fun _ => 0) 0 ⟨rfl, rfl, rfl⟩ ?_
  rintro _ R _ ⟨rfl, h2, h6⟩
  have l0 : ¬ ((1 : Int) < 0) := by decide
  simp -implicitDefEqProofs only [op, ef, cl, sq, reduceIte, q5, q8, q9, j2, j3, j4, j5, j6, j7, S1, h2, h6, l0]
  trivial
theorem pdqE69 (m : Nat) (H : Heap) : W env (.call 86 [.sl .nil [], .int .i64 0, .int .i64 0, .int .i64 m]) H (Ret (.tup []) H) := by
  refine W.fnI rfl rfl rfl ?_
  have w1 : IntKind.i64.wrap ((0 : Int) - 0) = 0 := by decide
  simp -implicitDefEqProofs only [ir86, op, ef, cl, sq, reduceIte, q5, q8, q9, j2, j3, j4, j5, j6, j7, S1]
  refine W.loopI (fun (_ : Nat) R H' => H' = H ∧ R 0 = .sl .nil [] ∧ R 1 = .int .i64 0 ∧ R 2 = .int .i64 0) (fun _ => 0) 0 ⟨rfl, rfl, rfl, rfl⟩ ?_
  rintro _ R _ ⟨rfl, h0, h1, h2⟩
  have l0 : (0 : Int) ≤ 12 := by decide
  simp -implicitDefEqProofs only [op, ef, cl, sq, reduceIte, q5, q8, q9, j2, j3, j4, j5, j6, j7, S1, h0, h1, h2, w1, l0]
  refine callB_of _ _ _ _ _ _ _ _ (ins85e _) ?_
  rintro u H2 ⟨hu, rfl⟩
  cases hu
  simp -implicitDefEqProofs only [op, ef, cl, sq, reduceIte, q5, q8, q9, j2, j3, j4, j5, j6, j7, S1]
  trivial
theorem sortE55 (H : Heap) : W env (.call 67 [.sl .nil []]) H (Ret (.tup []) H) := by
  refine W.fnI rfl rfl rfl ?_
  have w1 : IntKind.u64.wrap ((0 : Nat) : Int) = ((0 : Nat) : Int) := by decide
  have e0 : ((0 : Nat) : Int) = 0 := rfl
  simp -implicitDefEqProofs only [ir67, op, ef, cl, sq, reduceIte, q5, q8, q9, j2, j3, j4, j5, j6, j7, S1, w1]
  refine callB_of _ _ _ _ _ _ _ _ (lenN 0 (by omega) _) ?_
  rintro u H1 ⟨rfl, m, hu⟩
  cases hu
  simp -implicitDefEqProofs only [op, ef, cl, sq, reduceIte, q5, q8, q9, j2, j3, j4, j5, j6, j7, S1, e0]
  refine callB_of _ _ _ _ _ _ _ _ (pdqE69 m _) ?_
  rintro u H2 ⟨hu, rfl⟩
  cases hu
  simp -implicitDefEqProofs only [op, ef, cl, sq, reduceIte, q5, q8, q9, j2, j3, j4, j5, j6, j7, S1]
  trivial
open Go.Sort in
theorem pdqS69 (c : Nat) (d : Array ByteArray) (m : Nat) (H : Heap) (hc : H[c]? = some (.cells (msC eS d.toList))) (hs : d.size ≤ 12) :
    W env (.call 86 [.msl c 0 d.size 1, .int .i64 0, .int .i64 d.size, .int .i64 m]) H (SrtS c (insertionSort strLt d 0 d.size) H) := by
  refine W.fnI rfl rfl rfl ?_
  have w1 : IntKind.i64.wrap ((d.size : Int) - 0) = (d.size : Int) := by rw [wrap64 (by omega)]; omega
  have h12 : (d.size : Int) ≤ 12 := by omega
  simp -implicitDefEqProofs only [ir86, op, ef, cl, sq, reduceIte, q5, q8, q9, j2, j3, j4, j5, j6, j7, S1]
  refine W.loopI (fun (_ : Nat) R H' => H' = H ∧ R 0 = .msl c 0 d.size 1 ∧ R 1 = .int .i64 0 ∧ R 2 = .int .i64 d.size) (fun _ => 0) 0 ⟨rfl, rfl, rfl, rfl⟩ ?_
  rintro _ R _ ⟨rfl, h0, h1, h2⟩
  simp -implicitDefEqProofs only [op, ef, cl, sq, reduceIte, q5, q8, q9, j2, j3, j4, j5, j6, j7, S1, h0, h1, h2, w1, hs]
  refine callB_of _ _ _ _ _ _ _ _ (ins85 c d 0 d.size _ hc (Nat.le_refl _) (Nat.zero_le _) (by omega)) ?_
  rintro u H2 ⟨hu, q1, q2⟩
  cases hu
  simp -implicitDefEqProofs only [op, ef, cl, sq, reduceIte, q5, q8, q9, j2, j3, j4, j5, j6, j7, S1]
  exact ⟨rfl, q1, q2⟩
open Go.Sort in
theorem sortS55 (c : Nat) (d : Array ByteArray) (H : Heap) (hc : H[c]? = some (.cells (msC eS d.toList))) (hs : d.size ≤ 12) :
    W env (.call 67 [.msl c 0 d.size 1]) H (SrtS c (insertionSort strLt d 0 d.size) H) := by
  refine W.fnI rfl rfl rfl ?_
  have w1 : IntKind.u64.wrap (d.size : Int) = (d.size : Int) := wrapu (by omega)
  simp -implicitDefEqProofs only [ir67, op, ef, cl, sq, reduceIte, q5, q8, q9, j2, j3, j4, j5, j6, j7, S1, w1]
  refine callB_of _ _ _ _ _ _ _ _ (lenN d.size (by omega) _) ?_
  rintro u H1 ⟨rfl, m, hu⟩
  cases hu
  simp -implicitDefEqProofs only [op, ef, cl, sq, reduceIte, q5, q8, q9, j2, j3, j4, j5, j6, j7, S1]
  refine callB_of _ _ _ _ _ _ _ _ (pdqS69 c d m _ hc hs) ?_
  rintro u H2 ⟨hu, q1, q2⟩
  cases hu
  simp -implicitDefEqProofs only [op, ef, cl, sq, reduceIte, q5, q8, q9, j2, j3, j4, j5, j6, j7, S1]
  exact ⟨rfl, q1, q2⟩
def SortSQ (es : List (ByteArray × T)) (H : Heap) : Out → Heap → Prop := fun o H' => Ext H H' ∧ ∃ t l, o = .val t ∧ Mut eS 1 H.length H' t l ∧ l.Perm (es.map (·.1)) ∧ l.Pairwise (fun a b => strLt a b = true)
theorem sorted38 (es : List (ByteArray × T)) (c mb : Nat) (H : Heap) (hnd : (es.map (·.1)).Nodup) (hes : es.length ≤ 12) (hc : H[c]? = some (.cells [.map mb])) (hm : H[mb]? = some (.map (encK T.str es))) :
    W env (.call 48 [.fn 68 [.ptr c 0]]) H (SortSQ es H) := by
  refine W.fnI rfl rfl rfl ?_
  simp -implicitDefEqProofs only [ir48, op, ef, cl, sq, reduceIte, q5, q8, q9, j2, j3, j4, j5, j6, j7, S1]
  refine callB_of _ _ _ _ _ _ _ _ (coll54 es c mb H hnd (by omega) hc hm) ?_
  rintro u H1 ⟨hx, t, vis, hu, hmt, hri⟩
  cases hu
  have hperm : vis.Perm (es.map (·.1)) := (List.perm_ext_iff_of_nodup hri.nvis hnd).2 fun k => hri.end' k
  have hvl : vis.length = es.length := by have := hri.len; simpa using this
  rcases hmt with ⟨rfl, rfl⟩ | ⟨d, rfl, hd, hdn⟩
  · simp -implicitDefEqProofs only [op, ef, cl, sq, reduceIte, q5, q8, q9, j2, j3, j4, j5, j6, j7, S1]
    refine callB_of _ _ _ _ _ _ _ _ (sortE55 _) ?_
    rintro u H2 ⟨hu, rfl⟩
    cases hu
    simp -implicitDefEqProofs only [op, ef, cl, sq, reduceIte, q5, q8, q9, j2, j3, j4, j5, j6, j7, S1]
    exact ⟨hx, _, [], rfl, mut_nil _ _ _ _, hperm, List.Pairwise.nil⟩
  · simp -implicitDefEqProofs only [op, ef, cl, sq, reduceIte, q5, q8, q9, j2, j3, j4, j5, j6, j7, S1]
    have := sortS55 d vis.toArray H1 (by simpa using hd) (by simpa using (by omega : vis.length ≤ 12))
    simp -implicitDefEqProofs only [List.size_toArray] at this
    refine callB_of _ _ _ _ _ _ _ _ this ?_
    rintro u H2 ⟨hu, h2, hfr⟩
    cases hu
    simp -implicitDefEqProofs only [op, ef, cl, sq, reduceIte, q5, q8, q9, j2, j3, j4, j5, j6, j7, S1]
    have hs := sorted_listS (d := vis.toArray) (by simpa using hri.nvis)
    simp -implicitDefEqProofs only [List.size_toArray] at hs
    refine ⟨ext_of fun a x hax => hfr.get (hx.get hax) (by have := glt hax; omega), _, _, rfl, .inr ⟨d, ?_, h2, hdn⟩, hs.1.trans hperm, hs.2⟩
    rw [hs.1.length_eq]
def eL (x : ByteArray × Nat) : List T := [.str x.1, .int .u64 x.2]
def lastL (s : Sto) (l : List ByteArray) : List (ByteArray × Nat) := l.map fun k => (k, lastOf s k)
def LastsQ (s : Sto) (H : Heap) : Out → Heap → Prop := fun o H' => Ext H H' ∧ ∃ k l, KOk k l ∧ o = .val (.sl k ((lastL s l).map eL)) ∧ l.Perm (s.ls.map (·.1)) ∧ l.Pairwise (fun a b => strLt a b = true)
theorem lasts24 (b : Bk) (s : Sto) (F : Nat → Prop) (H : Heap) (hs : SH H b s F) (hi : SInv s) (hn : s.ls.length ≤ 12) : W env (.call 24 [.ptr b.s 0]) H (LastsQ s H) := by
  obtain ⟨im, pm, sa⟩ := hs
  refine W.fnI rfl rfl rfl ?_
  simp -implicitDefEqProofs only [ir24, op, ef, cl, sq, reduceIte, q5, q8, q9, j2, j3, j4, j5, j6, j7, S1, sa.hs]
  refine callB_of _ _ _ _ _ _ _ (fun o H' => o = .val (.fn 68 [.ptr H.length 0]) ∧ H' = H ++ [.cells [.map b.l]]) ?_ ?_
  · refine W.fnI rfl rfl rfl ?_
    simp -implicitDefEqProofs only [ir49, op, ef, cl, sq, reduceIte, q5, q8, q9, j2, j3, j4, j5, j6, j7, S1]
    exact rfl
  rintro u H1 ⟨hu, rfl⟩
  cases hu
  have ll := glt sa.hl
  have hkeys : (encL s.ls).map (·.1) = s.ls.map (·.1) := by simp [encL]
  simp -implicitDefEqProofs only [op, ef, cl, sq, reduceIte, q5, q8, q9, j2, j3, j4, j5, j6, j7, S1]
  refine callB_of _ _ _ _ _ _ _ _ (sorted38 (encL s.ls) H.length b.l _ (by rw [hkeys]; exact hi.ndl) (by simpa [encL] using hn) (g_tail rfl) (by rw [g_app ll]; exact sa.hl)) ?_
  rintro t H2 ⟨hx2, _, l, hu, hmt, hperm, hpw⟩
  cases hu
  rw [hkeys] at hperm
  have hll : l.length ≤ 12 := by rw [hperm.length_eq]; simpa using hn
  have hlen := hmt.len
  have hx0 : Ext H H2 := (Ext.rfl'.app _).trans hx2
  simp -implicitDefEqProofs only [op, ef, cl, sq, reduceIte, q5, q8, q9, j2, j3, j4, j5, j6, j7, S1, hlen]
  refine W.loopI (fun (i : Nat) R H' => At H' (fun H' => ∃ kw, R 3 = .sl kw ((lastL s (l.take i)).map eL) ∧ Ext H H' ∧ Ext H2 H' ∧ Apd H2.length H' kw ∧ KOk kw (l.take i)) ∧ R 0 = .ptr b.s 0 ∧ R 11 = t ∧ R 12 = .int .i64 l.length ∧ R 13 = .int .i64 i ∧ i ≤ l.length) (fun i => l.length - i) 0 ⟨.i ⟨.nil, rfl, hx0, Ext.rfl', apd_nil _ _, fun _ => rfl⟩, rfl, rfl, rfl, rfl, Nat.zero_le _⟩ ?_
  rintro i R H3 ⟨⟨kw, h3, hx3, hx23, hap, hko⟩, h0, h11, h12, h13, hil⟩
  by_cases hlt : i < l.length
  · obtain ⟨m, hm⟩ := getP hlt
    have ws := wrap_succ (show i < 9223372036854775807 by omega)
    obtain ⟨c, g1, g2, g3⟩ := mut_n (enc := eS) (n := 1) (fun _ => rfl) (by decide) (hmt.ext hx23) hm
    have sa3 := sa.frm (ext_frm (F := fun _ => False) hx3) (fun _ _ _ h => h)
    have hlk := lkp_last s m
    have hall := all_map (enc := eL) (n := 2) (fun _ => rfl) (lastL s (l.take i))
    have hkl : ((lastL s (l.take i)).map eL).length ≤ 12 := by simp -implicitDefEqProofs only [lastL, List.length_map, List.length_take]; omega
    obtain ⟨k', H5, ha, hap', hst⟩ := app_ok (bytes := 24) ((lastL s (l.take i)).map eL) [[T.str m, .int .u64 (lastOf s m)]] hap hx23.len (by simp) (roomT (by simp -implicitDefEqProofs only [List.length_cons, List.length_nil]; omega))
    have hnn := app_nn ha (by simp)
    simp -implicitDefEqProofs only [op, ef, cl, sq, reduceIte, q5, q8, q9, j2, j3, j4, j5, j6, j7, S1] at ha
    simp -implicitDefEqProofs only [op, ef, cl, sq, reduceIte, q5, q8, q9, j2, j3, j4, j5, j6, j7, S1, h0, h3, h11, h12, h13, hlt, natOf_nat, g1, g2, g3, eS, sa3.hs, sa3.hl, lkpB_M, hlk, hall, ha, ws]
    refine ⟨i + 1, by omega, .i ⟨k', ?_, hst.ext H (by have := hx0.len; omega) hx3, hst.ext H2 (Nat.le_refl _) hx23, hap', fun h => absurd h hnn⟩, rfl, by omega⟩
    rw [take_sn hm]
    simp -implicitDefEqProofs only [lastL, List.map_append, List.map_cons, List.map_nil, eL]
  · have hil' : i = l.length := by omega
    subst hil'
    rw [List.take_length] at h3 hko
    simp -implicitDefEqProofs only [op, ef, cl, sq, reduceIte, q5, q8, q9, j2, j3, j4, j5, j6, j7, S1, h3, h12, h13, hlt]
    exact ⟨hx3, kw, l, hko, rfl, hperm, hpw⟩
end Go.Proofs.YtodegnhallgnkaaGreat.St
end

section
namespace Go.Proofs.YtodegnhallgnkaaGreat.St
open Go.Rmp Go.Proofs.YtodegnhallgnkaaGreat.Ir
set_option maxRecDepth 10000
structure Vd where
  value : ByteArray
  keys : List ByteArray
  stamp : Int
def Hd.vd (h : Hd) : Vd := ⟨h.value, h.keys, h.stamp⟩
structure Ab where
  v : Nm → Option Vd
  l : ByteArray → Option Nat
def Ab.last (a : Ab) (k : ByteArray) : Nat := (a.l k).getD 0
def Ab.has (a : Ab) (m : Nm) : Bool := (a.v m).isSome
def absS (s : Sto) : Ab := ⟨fun m => (mlook s.vs m).map Hd.vd, fun k => mlook s.ls k⟩
def Ab.emp : Ab := ⟨fun _ => none, fun _ => none⟩
def Ab.put (a : Ab) (n : Nat) (l : List (ByteArray × ByteArray)) (ks : List ByteArray) (now : Int) : Ab :=
  ⟨fun m => match a.v m with
    | some h => some h
    | none => if m.2 = n then (mlook l m.1).map fun v => ⟨v, ks, if n < a.last m.1 then now else -1⟩ else none, a.l⟩
def Ab.fresh (a : Ab) (n : Nat) (l : List (ByteArray × ByteArray)) : Bool := l.any fun p => !a.has (p.1, n)
def Ab.com (a : Ab) (n : Nat) (now : Int) : Ab :=
  ⟨fun m => (a.v m).map fun h => if h.stamp = -1 ∧ a.has (m.1, n) = true ∧ a.last m.1 < n ∧ m.2 < n then { h with stamp := now } else h,
   fun k => if a.has (k, n) = true ∧ a.last k < n then some n else a.l k⟩
def Ab.cut (a : Ab) (m0 : Nm) : Ab := ⟨fun m => if m = m0 then none else a.v m, a.l⟩
theorem ab_ext {a b : Ab} (h1 : ∀ m, a.v m = b.v m) (h2 : ∀ k, a.l k = b.l k) : a = b := by
  cases a; cases b; simp -implicitDefEqProofs only [Ab.mk.injEq]; exact ⟨funext h1, funext h2⟩
theorem mlook_of {α β : Type} [DecidableEq α] {es : List (α × β)} (hn : (es.map (·.1)).Nodup) {p : α × β} (hp : p ∈ es) : mlook es p.1 = some p.2 := by
  induction es with
  | nil => cases hp
  | cons e es ih =>
    rw [List.map_cons, List.nodup_cons] at hn
    rw [mlook_cons]
    rcases List.mem_cons.1 hp with rfl | hp
    · simp
    · rw [if_neg, ih hn.2 hp]
      intro h
      exact hn.1 (h ▸ List.mem_map.2 ⟨p, hp, rfl⟩)
theorem PutV.abs {s s' : Sto} {n : Nat} {l : List (ByteArray × ByteArray)} {ks : List ByteArray} {now : Int} {fr : Bool} (h : PutV s s' n l ks now fr) (hn : (l.map (·.1)).Nodup) : absS s' = (absS s).put n l ks now := by
  refine ab_ext (fun m => ?_) fun k => by simp -implicitDefEqProofs only [absS, Ab.put, h.ls]
  simp -implicitDefEqProofs only [absS, Ab.put]
  by_cases hm : m.2 = n ∧ m.1 ∈ l.map (·.1)
  · obtain ⟨rfl, hm⟩ := hm
    obtain ⟨p, hp, hpm⟩ := List.mem_map.1 hm
    have e : m = (p.1, m.2) := by rw [hpm]
    cases hl : mlook s.vs m with
    | some x =>
      have := h.old p hp x (by rw [← e]; exact hl)
      rw [← e] at this
      simp [this]
    | none =>
      obtain ⟨kk, _, h2⟩ := h.new p hp (by rw [← e]; exact hl)
      rw [← e] at h2
      have h3 := mlook_of hn hp
      rw [hpm] at h3 h2
      simp -implicitDefEqProofs only [h2, h3, Hd.vd, Option.map_some, Option.map_none, if_true]; rfl
  · have h1 := h.other m (by
      by_cases e : m.2 = n
      · exact .inr fun h => hm ⟨e, h⟩
      · exact .inl e)
    rw [h1]
    cases hl : mlook s.vs m with
    | some x => simp
    | none =>
      simp -implicitDefEqProofs only [Option.map_none]
      split
      · rename_i e
        rw [mlook_none.2 fun h => hm ⟨e, h⟩]; rfl
      · rfl
theorem PutV.fr {s s' : Sto} {n : Nat} {l : List (ByteArray × ByteArray)} {ks : List ByteArray} {now : Int} {fr : Bool} (h : PutV s s' n l ks now fr) : fr = (absS s).fresh n l := by
  rw [Bool.eq_iff_iff, h.fresh]
  simp -implicitDefEqProofs only [Ab.fresh, List.any_eq_true, Ab.has, absS, Option.isSome_map, Bool.not_eq_true', Option.isSome_eq_false_iff, Option.isNone_iff_eq_none]
theorem ComV.abs {s s' : Sto} {n : Nat} {now : Int} (hi : SInv s) (h : ComV s s' n now (s.pls n)) : absS s' = (absS s).com n now := by
  have hp : ∀ k, k ∈ s.pls n ↔ (absS s).has (k, n) = true := fun k => by rw [hi.plm]; simp [Ab.has, absS]
  have hlast : ∀ k, lastOf s k = (absS s).last k := fun _ => rfl
  have hv : ∀ m, (absS s).v m = (mlook s.vs m).map Hd.vd := fun _ => rfl
  have hl' : ∀ k, (absS s).l k = mlook s.ls k := fun _ => rfl
  obtain ⟨a, ha⟩ : ∃ a, a = absS s := ⟨_, rfl⟩
  rw [← ha] at hp hlast hv hl' ⊢
  refine ab_ext (fun m => ?_) fun k => ?_
  · obtain ⟨h1, h2⟩ := h.vs.2 m
    show (mlook s'.vs m).map Hd.vd = (a.v m).map _
    rw [hv]
    cases hl : mlook s.vs m with
    | none => rw [h1 hl]; rfl
    | some x =>
      obtain ⟨h3, h4⟩ := h2 x hl
      by_cases hc : (m.1 ∈ s.pls n ∧ lastOf s m.1 < n ∧ m.2 < n) ∧ x.stamp = -1
      · rw [h3 hc]
        simp -implicitDefEqProofs only [Option.map_some, Option.some.injEq]
        rw [if_pos ⟨hc.2, (hp _).1 hc.1.1, hlast _ ▸ hc.1.2.1, hc.1.2.2⟩]; rfl
      · rw [h4 hc]
        simp -implicitDefEqProofs only [Option.map_some, Option.some.injEq]
        rw [if_neg]
        rintro ⟨a, b, c, d⟩
        exact hc ⟨⟨(hp _).2 b, by rw [hlast]; exact c, d⟩, a⟩
  · show mlook s'.ls k = if _ then _ else a.l k
    rw [hl']
    by_cases hc : k ∈ s.pls n ∧ lastOf s k < n
    · rw [h.on k hc.1 hc.2, if_pos ⟨(hp _).1 hc.1, by rw [← hlast]; exact hc.2⟩]
    · rw [h.off k hc, if_neg fun hh => hc ⟨(hp _).2 hh.1, by rw [hlast]; exact hh.2⟩]
theorem drop_abs {s : Sto} (hi : SInv s) (k : ByteArray) (n : Nat) : absS (s.drop k n) = (absS s).cut (k, n) := by
  refine ab_ext (fun m => ?_) fun k => rfl
  simp -implicitDefEqProofs only [absS, Ab.cut, Sto.drop, mcut_look hi.nd]
  split <;> rfl
theorem nd_le {α : Type} : ∀ {l l' : List α}, l.Nodup → (∀ x ∈ l, x ∈ l') → l.length ≤ l'.length
  | [], _, _, _ => Nat.zero_le _
  | x :: l, l', hn, hs => by
    obtain ⟨a, b, rfl⟩ := List.append_of_mem (hs x List.mem_cons_self)
    rw [List.nodup_cons] at hn
    have := nd_le (l := l) (l' := a ++ b) hn.2 fun y hy => by
      have h := hs y (List.mem_cons_of_mem _ hy)
      rcases List.mem_append.1 h with h | h
      · exact List.mem_append_left _ h
      · rcases List.mem_cons.1 h with rfl | h
        · exact absurd hy hn.1
        · exact List.mem_append_right _ h
    simp -implicitDefEqProofs only [List.length_append, List.length_cons] at this ⊢
    omega
theorem PutV.vlen {s s' : Sto} {n : Nat} {l : List (ByteArray × ByteArray)} {ks : List ByteArray} {now : Int} {fr : Bool} (h : PutV s s' n l ks now fr) (hi : SInv s') : s'.vs.length ≤ s.vs.length + l.length := by
  have := nd_le (l := s'.vs.map (·.1)) (l' := s.vs.map (·.1) ++ l.map fun p => (p.1, n)) hi.nd fun m hm => by
    rw [List.mem_append]
    by_cases hc : m.2 = n ∧ m.1 ∈ l.map (·.1)
    · obtain ⟨p, hp, e⟩ := List.mem_map.1 hc.2
      exact .inr (List.mem_map.2 ⟨p, hp, by rw [e, ← hc.1]⟩)
    · refine .inl ?_
      rw [mem_keys] at hm ⊢
      rwa [h.other m (by
        by_cases e : m.2 = n
        · exact .inr fun h => hc ⟨e, h⟩
        · exact .inl e)] at hm
  simpa using this
theorem VS.vlen {v v' : List (Nm × Hd)} {now : Int} {S : Nm → Prop} (h : VS v v' now S) (hn : (v.map (·.1)).Nodup) : v'.length = v.length := by
  have := len_eq h.1 hn fun m => by rw [mem_keys, mem_keys, h.some]
  simpa using this
def AtS (H : Heap) (b : Bk) (a : Ab) (F : Nat → Prop) (n : Nat) : Prop := ∃ s, SH H b s F ∧ SInv s ∧ absS s = a ∧ s.n ≤ n ∧ s.vs.length ≤ n
theorem AtS.ext {H H' : Heap} {b : Bk} {a : Ab} {F : Nat → Prop} {n : Nat} (h : AtS H b a F n) (hx : Ext H H') : AtS H' b a F n := by
  obtain ⟨s, h1, h2⟩ := h
  exact ⟨s, h1.ext hx, h2⟩
theorem AtS.le {H : Heap} {b : Bk} {a : Ab} {F : Nat → Prop} {n m : Nat} (h : AtS H b a F n) (hm : n ≤ m) : AtS H b a F m := by
  obtain ⟨s, h1, h2, h3, h4, h5⟩ := h
  exact ⟨s, h1, h2, h3, by omega, by omega⟩
theorem AtS.frm {H H' : Heap} {b : Bk} {a : Ab} {F G : Nat → Prop} {n : Nat} (h : AtS H b a F n) (hf : Frm G H H') (hg : ∀ c, F c → c < H.length → ¬ G c) : AtS H' b a F n := by
  obtain ⟨s, ⟨im, pm, sa⟩, h2⟩ := h
  exact ⟨s, ⟨im, pm, sa.frm hf hg⟩, h2⟩
def Gro (F F' : Nat → Prop) (H H' : Heap) : Prop := ∀ c, F' c → F c ∨ (H.length ≤ c ∧ c < H'.length)
theorem newA (H : Heap) : W env (.call 5 []) H (fun o H' => Ext H H' ∧ ∃ b F, o = .val (.ptr b.s 0) ∧ AtS H' b Ab.emp F 0 ∧ ∀ c, F c → H.length ≤ c ∧ c < H'.length) :=
  W.use (new7 H) fun o H' ⟨hx, b, F, hu, sh, hF⟩ => ⟨hx, b, F, hu, ⟨_, sh, SInv.emp, rfl, Nat.le_refl _, Nat.le_refl _⟩, hF⟩
theorem may_nd {n : Nat} {l : List (ByteArray × ByteArray)} {ks : List ByteArray} (h : MayP n l ks) : (l.map (·.1)).Nodup := by
  refine List.pairwise_map.2 (List.pairwise_iff_getElem.2 fun i j hi hj hij e => ?_)
  have := pairs_lt h i j _ _ hij (List.getElem?_eq_getElem hi) (List.getElem?_eq_getElem hj)
  rw [e, lt_irr] at this; cases this
def PutAQ (b : Bk) (a : Ab) (F : Nat → Prop) (m n : Nat) (l : List (ByteArray × ByteArray)) (ks : List ByteArray) (now : Int) (H : Heap) : Out → Heap → Prop := fun o H' =>
  ∃ F', o = .val (.tup [.bool (a.fresh n l), .int .i64 0]) ∧ AtS H' b (a.put n l ks now) F' (m + l.length) ∧ Frm F H H' ∧ Gro F F' H H'
theorem putA {b : Bk} {a : Ab} {F : Nat → Prop} {m : Nat} (n : Nat) (k k' : SK) (l : List (ByteArray × ByteArray)) (ks : List ByteArray) (now : Int) {H : Heap} (h : AtS H b a F m) (hn : m + l.length ≤ 8000000) (hko : KOk k' ks) (hm : MayP n l ks) (ht : TickOk now) :
    W env (.call 8 [.ptr b.s 0, .int .u64 n, .sl k (l.map eP), .sl k' (ks.map eS), .int .i64 now]) H (PutAQ b a F m n l ks now H) := by
  obtain ⟨s, sh, hi, rfl, h4, h5⟩ := h
  refine W.use (put28 b s F n k k' l ks now H sh hi (by omega) hko hm ht) fun o H' ⟨s', F', fr, hu, sh', hi', hp, hn', hfr, hg⟩ => ⟨F', ?_, ⟨s', sh', hi', hp.abs (may_nd hm), by omega, ?_⟩, hfr, hg⟩
  · rw [hu, hp.fr]
  · have := hp.vlen hi'; omega
def ComAQ (b : Bk) (a : Ab) (F : Nat → Prop) (m n : Nat) (now : Int) (H : Heap) : Out → Heap → Prop := fun o H' =>
  ∃ D : List ByteArray, D.Nodup ∧ (∀ k, k ∈ D ↔ a.has (k, n) = true) ∧ o = .val (.tup [.int .i64 D.length, .int .i64 0]) ∧ AtS H' b (a.com n now) F m ∧ Frm F H H'
theorem comA {b : Bk} {a : Ab} {F : Nat → Prop} {m : Nat} (n : Nat) (now : Int) {H : Heap} (h : AtS H b a F m) (hn : m ≤ 8000000) (hid : 65536 ≤ n) (ht : TickOk now) : W env (.call 11 [.ptr b.s 0, .int .u64 n, .int .i64 now]) H (ComAQ b a F m n now H) := by
  obtain ⟨s, sh, hi, rfl, h4, h5⟩ := h
  refine W.use (commit14 b s F n now H sh hi (by omega) hid ht) fun o H' ⟨s', hu, sh', hi', hc, hn', _, _, hfr⟩ => ⟨s.pls n, hi.pnd n, fun k => ?_, hu, ⟨s', sh', hi', hc.abs hi, by omega, ?_⟩, hfr⟩
  · rw [hi.plm]; simp [Ab.has, absS]
  · have := hc.vs.vlen hi.nd; omega
def DropAQ (b : Bk) (a : Ab) (F : Nat → Prop) (m : Nat) (k : ByteArray) (n : Nat) (H : Heap) : Out → Heap → Prop := fun o H' =>
  (a.v (k, n) = none ∧ o = .val (.int .i64 110) ∧ Ext H H') ∨ (∃ h, a.v (k, n) = some h ∧ h.stamp = -1 ∧ o = .val (.int .i64 1) ∧ Ext H H') ∨
  ∃ h, a.v (k, n) = some h ∧ h.stamp ≠ -1 ∧ o = .val (.int .i64 0) ∧ AtS H' b (a.cut (k, n)) F m ∧ Frm F H H'
theorem mcut_len {α β : Type} [DecidableEq α] (es : List (α × β)) (k : α) : (mcut es k).length ≤ es.length := by
  unfold mcut; split
  · exact List.length_eraseIdx_le es _
  · exact Nat.le_refl _
theorem dropA {b : Bk} {a : Ab} {F : Nat → Prop} {m : Nat} (k : ByteArray) (n : Nat) {H : Heap} (h : AtS H b a F m) (hn : m ≤ 8000000) : W env (.call 46 [.ptr b.s 0, .str k, .int .u64 n]) H (DropAQ b a F m k n H) := by
  obtain ⟨s, sh, hi, rfl, h4, h5⟩ := h
  refine W.use (drop15 b s F k n H sh hi (by omega)) fun o H' hq => ?_
  rcases hq with ⟨h1, hu, hx⟩ | ⟨h, h1, h2, hu, hx⟩ | ⟨h, h1, h2, hu, sh', hfr⟩
  · exact .inl ⟨by simp [absS, h1], hu, hx⟩
  · exact .inr (.inl ⟨h.vd, by simp [absS, h1], h2, hu, hx⟩)
  · exact .inr (.inr ⟨h.vd, by simp [absS, h1], h2, hu, ⟨_, sh', hi.drop k n, drop_abs hi k n, by simpa [Sto.drop] using h4, Nat.le_trans (mcut_len _ _) h5⟩, hfr⟩)
def vdOf (o : Option Vd) : Vd := o.getD ⟨⟨#[]⟩, [], 0⟩
theorem vd_hd (o : Option Hd) : (hdOf o).vd = vdOf (o.map Hd.vd) := by cases o <;> rfl
def Names (a : Ab) (l : List Nm) : Prop := l.Pairwise (fun x y => ltM x y = true) ∧ ∀ m, m ∈ l ↔ a.has m = true
theorem Names.uniq {a : Ab} {l l' : List Nm} (h : Names a l) (h' : Names a l') : l = l' := sorted_eq l l' h.1 h'.1 fun m => by rw [h.2, h'.2]
def eKA (a : Ab) (m : Nm) : List T := [.str m.1, .int .u64 m.2, .str (vdOf (a.v m)).value, .sl .arg ((vdOf (a.v m)).keys.map eS), .int .i64 (vdOf (a.v m)).stamp]
theorem Names.nd {a : Ab} {l : List Nm} (h : Names a l) : l.Nodup := h.1.imp fun {x y} hxy => by rintro rfl; rw [ltM_irr] at hxy; cases hxy
theorem keptA {b : Bk} {a : Ab} {F : Nat → Prop} {m : Nat} {H : Heap} (h : AtS H b a F m) (hn : m ≤ 8000000) : W env (.call 19 [.ptr b.s 0]) H (fun o H' => Ext H H' ∧ ∃ k l, KOk k l ∧ Names a l ∧ l.length ≤ m ∧ o = .val (.sl k (l.map (eKA a)))) := by
  obtain ⟨s, sh, hi, rfl, h4, h5⟩ := h
  refine W.use (kept20 b s F H sh hi (by omega)) fun o H' ⟨hx, k, l, hko, hu, hp, hpw⟩ => ⟨hx, k, l, hko, ⟨hpw, fun m => ?_⟩, ?_, ?_⟩
  · rw [hp.mem_iff, mem_keys]; simp [Ab.has, absS]
  · rw [hp.length_eq]; simpa using h5
  · rw [hu]
    congr 2
    rw [keptL, List.map_map]
    refine List.map_congr_left fun m _ => ?_
    have e := vd_hd (mlook s.vs m)
    simp -implicitDefEqProofs only [Function.comp, eK, eKA, absS, ← e, Hd.vd]
end Go.Proofs.YtodegnhallgnkaaGreat.St
end

section
namespace Go.Proofs.YtodegnhallgnkaaGreat.St
open Go.Rmp Go.Proofs.YtodegnhallgnkaaGreat.Ir
set_option maxRecDepth 10000
def eW (x : Nm) : List T := [.str x.1, .int .u64 x.2]
theorem take_eq_s {α : Type} {l l' : List α} {i : Nat} {x : α} (h : l.take i = l'.take i) (hx : l[i]? = some x) (hy : l'[i]? = some x) : l.take (i + 1) = l'.take (i + 1) := by
  rw [take_sn hx, take_sn hy, h]
theorem ne_at {α : Type} {l l' : List α} {i : Nat} {x y : α} (hx : l[i]? = some x) (hy : l'[i]? = some y) (h : x ≠ y) : l ≠ l' := by
  rintro rfl; rw [hx] at hy; cases hy; exact h rfl
theorem eqW (x y : Nm) : eqCells (eW x) (eW y) = some (decide (x = y)) := by
  obtain ⟨a, n⟩ := x; obtain ⟨b, m⟩ := y
  simp -implicitDefEqProofs only [eW, eqCells, eqSc, if_true, strEq_eq, deq, Bool.and_true, Option.some.injEq, Prod.mk.injEq]
  rw [Bool.eq_iff_iff]; simp
theorem hasW (x : Nm) : hasAll [.str, .int] (eW x) = true := rfl
theorem sameN10 (k k' : SK) (l l' : List Nm) (H : Heap) (hl : l.length ≤ 16777216) : W env (.call 17 [.sl k (l.map eW), .sl k' (l'.map eW)]) H (Ret (.bool (decide (l = l'))) H) := by
  refine W.fnI rfl rfl rfl ?_
  by_cases hll : l.length = l'.length
  rotate_left
  · have hne : ¬ l = l' := fun h => hll (by rw [h])
    simp -implicitDefEqProofs only [ir17, op, ef, cl, sq, reduceIte, q5, q8, q9, j2, j3, j4, j5, j6, j7, S1, List.length_map, hll, hne]
  have hll' : l'.length = l.length := hll.symm
  simp -implicitDefEqProofs only [ir17, op, ef, cl, sq, reduceIte, q5, q8, q9, j2, j3, j4, j5, j6, j7, S1, List.length_map, hll']
  refine W.loopV [(0, _), (1, _)] (fun (i : Nat) R H' => H' = H ∧ R 5 = .int .i64 i ∧ i ≤ l.length ∧ l.take i = l'.take i) (fun i => l.length - i) 0 ⟨rfl, rfl, Nat.zero_le _, by simp⟩ ?_
  rintro i R H1 ⟨rfl, h5, hi, ht⟩
  have wi := wrap_succ (show i < 9223372036854775807 by omega)
  by_cases hlt : i < l.length
  · obtain ⟨x, hx⟩ := getP hlt
    obtain ⟨y, hy⟩ := getP (l := l') (i := i) (by omega)
    have ix := iadX (e := eW) (n := 2) (fun _ => rfl) (by decide) (k := k) hx
    have iy := iadX (e := eW) (n := 2) (fun _ => rfl) (by decide) (k := k') hy
    have lx : ldc H1 2 (.iptr (eW x)) = some (eW x) := rfl
    have ly : ldc H1 2 (.iptr (eW y)) = some (eW y) := rfl
    by_cases hxy : x = y
    · subst hxy
      simp -implicitDefEqProofs only [mkR_nil, mkR_cons, op, ef, cl, sq, reduceIte, q5, q8, q9, j2, j3, j4, j5, j6, j7, S1, List.length_map, h5, hlt, natOf_nat, ix, iy, lx, hasW, eqW, wi]
      exact ⟨i + 1, by omega, rfl, hlt, take_eq_s ht hx hy⟩
    · have hne := ne_at hx hy hxy
      simp -implicitDefEqProofs only [mkR_nil, mkR_cons, op, ef, cl, sq, reduceIte, q5, q8, q9, j2, j3, j4, j5, j6, j7, S1, List.length_map, h5, hlt, natOf_nat, ix, iy, lx, ly, hasW, eqW, hxy, hne]
  · have hil : i = l.length := by omega
    have he : l = l' := by rw [hil, List.take_length, ← hll', List.take_length] at ht; exact ht
    simp -implicitDefEqProofs only [mkR_nil, mkR_cons, op, ef, cl, sq, reduceIte, q5, q8, q9, j2, j3, j4, j5, j6, j7, S1, List.length_map, h5, hlt]
    simp [he]
theorem sameN22 (k k' : SK) (l l' : List Nm) (H : Heap) (hl : l.length ≤ 16777216) : W env (.call 23 [.sl k (l.map eW), .sl k' (l'.map eW)]) H (Ret (.bool (decide (l = l'))) H) := by
  refine W.fnI rfl rfl rfl ?_
  by_cases hll : l.length = l'.length
  rotate_left
  · have hne : ¬ l = l' := fun h => hll (by rw [h])
    simp -implicitDefEqProofs only [ir23, op, ef, cl, sq, reduceIte, q5, q8, q9, j2, j3, j4, j5, j6, j7, S1, List.length_map, hll, hne]
  have hll' : l'.length = l.length := hll.symm
  simp -implicitDefEqProofs only [ir23, op, ef, cl, sq, reduceIte, q5, q8, q9, j2, j3, j4, j5, j6, j7, S1, List.length_map, hll']
  refine W.loopV [(0, _), (1, _)] (fun (i : Nat) R H' => H' = H ∧ R 5 = .int .i64 i ∧ i ≤ l.length ∧ l.take i = l'.take i) (fun i => l.length - i) 0 ⟨rfl, rfl, Nat.zero_le _, by simp⟩ ?_
  rintro i R H1 ⟨rfl, h5, hi, ht⟩
  have wi := wrap_succ (show i < 9223372036854775807 by omega)
  by_cases hlt : i < l.length
  · obtain ⟨x, hx⟩ := getP hlt
    obtain ⟨y, hy⟩ := getP (l := l') (i := i) (by omega)
    have ix := iadX (e := eW) (n := 2) (fun _ => rfl) (by decide) (k := k) hx
    have iy := iadX (e := eW) (n := 2) (fun _ => rfl) (by decide) (k := k') hy
    have lx : ldc H1 2 (.iptr (eW x)) = some (eW x) := rfl
    have ly : ldc H1 2 (.iptr (eW y)) = some (eW y) := rfl
    by_cases hxy : x = y
    · subst hxy
      simp -implicitDefEqProofs only [mkR_nil, mkR_cons, op, ef, cl, sq, reduceIte, q5, q8, q9, j2, j3, j4, j5, j6, j7, S1, List.length_map, h5, hlt, natOf_nat, ix, iy, lx, hasW, eqW, wi]
      exact ⟨i + 1, by omega, rfl, hlt, take_eq_s ht hx hy⟩
    · have hne := ne_at hx hy hxy
      simp -implicitDefEqProofs only [mkR_nil, mkR_cons, op, ef, cl, sq, reduceIte, q5, q8, q9, j2, j3, j4, j5, j6, j7, S1, List.length_map, h5, hlt, natOf_nat, ix, iy, lx, ly, hasW, eqW, hxy, hne]
  · have hil : i = l.length := by omega
    have he : l = l' := by rw [hil, List.take_length, ← hll', List.take_length] at ht; exact ht
    simp -implicitDefEqProofs only [mkR_nil, mkR_cons, op, ef, cl, sq, reduceIte, q5, q8, q9, j2, j3, j4, j5, j6, j7, S1, List.length_map, h5, hlt]
    simp [he]
end Go.Proofs.YtodegnhallgnkaaGreat.St
end

section
namespace Go.Proofs.YtodegnhallgnkaaGreat.St
open Go.Rmp Go.Proofs.YtodegnhallgnkaaGreat.Ir
set_option maxRecDepth 10000
theorem tick29 (now : Int) (H : Heap) : W env (.call 38 [.int .i64 now]) H (Ret (.bool (decide (0 ≤ now) && decide (now ≤ 1099511627776))) H) := by
  refine W.fnI rfl rfl rfl ?_
  cases h : decide (0 ≤ now) <;> simp -implicitDefEqProofs only [ir38, op, ef, cl, sq, reduceIte, q5, q8, q9, j2, j3, j4, j5, j6, j7, S1, h, Bool.false_and]
theorem ret30 (now : Int) (H : Heap) : W env (.call 39 [.int .i64 now]) H (Ret (.bool (decide (0 ≤ now) && decide (now ≤ 1048576))) H) := by
  refine W.fnI rfl rfl rfl ?_
  cases h : decide (0 ≤ now) <;> simp -implicitDefEqProofs only [ir39, op, ef, cl, sq, reduceIte, q5, q8, q9, j2, j3, j4, j5, j6, j7, S1, h, Bool.false_and]
theorem wrapu8 {n : Int} (h : 0 ≤ n ∧ n < 256) : IntKind.u8.wrap n = n := by
  unfold IntKind.wrap
  simp -implicitDefEqProofs only [IntKind.signed, IntKind.bits]
  simp
  omega
theorem and_nat (w a b : Nat) (ha : a < 2 ^ w) (hb : b < 2 ^ w) : (BitVec.ofInt w (a : Int) &&& BitVec.ofInt w (b : Int)).toNat = a &&& b := by
  rw [BitVec.toNat_and]
  simp -implicitDefEqProofs only [BitVec.ofInt_natCast, BitVec.toNat_ofNat, Nat.mod_eq_of_lt ha, Nat.mod_eq_of_lt hb]
structure Opv where
  kind : Int
  id : Nat
  keys : Nat
  some : Nat
  value : ByteArray
def eO (o : Opv) : List T := [.int .i64 o.kind, .int .u64 o.id, .int .u8 o.keys, .int .u8 o.some, .str o.value]
def OkO (o : Opv) : Prop := o.id < 18446744073709551616 ∧ o.keys < 256 ∧ o.some < 256
def idO (o : Opv) : Nat := 65536 * (1 + (o.id / 4) % 16) + o.id % 4
theorem idO_ge (o : Opv) : 65536 ≤ idO o := by unfold idO; omega
theorem and15 (a : Nat) (h : a < 18446744073709551616) : IntKind.u64.wrap ((BitVec.ofInt IntKind.u64.bits (a : Int) &&& BitVec.ofInt IntKind.u64.bits 15).toNat : Nat) = ((a % 16 : Nat) : Int) := by
  have h1 := and_nat IntKind.u64.bits a 15 (by simpa [IntKind.bits] using h) (by simp [IntKind.bits])
  have h2 : ((15 : Nat) : Int) = 15 := rfl
  rw [h2] at h1
  rw [h1, show (15 : Nat) = 2 ^ 4 - 1 from rfl, Nat.and_two_pow_sub_one_eq_mod, wrapu64 (by omega)]
theorem and7 (a : Nat) (h : a < 18446744073709551616) : IntKind.u64.wrap ((BitVec.ofInt IntKind.u64.bits (a : Int) &&& BitVec.ofInt IntKind.u64.bits 7).toNat : Nat) = ((a % 8 : Nat) : Int) := by
  have h1 := and_nat IntKind.u64.bits a 7 (by simpa [IntKind.bits] using h) (by simp [IntKind.bits])
  have h2 : ((7 : Nat) : Int) = 7 := rfl
  rw [h2] at h1
  rw [h1, show (7 : Nat) = 2 ^ 3 - 1 from rfl, Nat.and_two_pow_sub_one_eq_mod, wrapu64 (by omega)]
theorem and3 (a : Nat) (h : a < 18446744073709551616) : IntKind.u64.wrap ((BitVec.ofInt IntKind.u64.bits (a : Int) &&& BitVec.ofInt IntKind.u64.bits 3).toNat : Nat) = ((a % 4 : Nat) : Int) := by
  have h1 := and_nat IntKind.u64.bits a 3 (by simpa [IntKind.bits] using h) (by simp [IntKind.bits])
  have h2 : ((3 : Nat) : Int) = 3 := rfl
  rw [h2] at h1
  rw [h1, show (3 : Nat) = 2 ^ 2 - 1 from rfl, Nat.and_two_pow_sub_one_eq_mod, wrapu64 (by omega)]
theorem shr2 (a : Nat) : ((a : Int).fdiv (2 ^ (min ((2 : Int)).toNat IntKind.u64.bits))) = ((a / 4 : Nat) : Int) := by
  have : (2 : Int) ^ (min ((2 : Int)).toNat IntKind.u64.bits) = ((4 : Nat) : Int) := by decide
  rw [this, Int.fdiv_eq_ediv_of_nonneg _ (by omega)]; omega
theorem id15 (o : Opv) (ho : OkO o) (H : Heap) : W env (.call 9 [.agg (eO o)]) H (RetG (.int .u64 (idO o : Nat)) H) := by
  have h0 : ¬ ((2 : Int) < 0) := by decide
  have h1 := shr2 o.id
  have h2 := and15 (o.id / 4) (by have := ho.1; omega)
  have h3 := and3 o.id ho.1
  have h4 : IntKind.u64.wrap (1 + ((o.id / 4 % 16 : Nat) : Int)) = ((1 + o.id / 4 % 16 : Nat) : Int) := by rw [wrapu64 (by omega)]; omega
  have h5 : IntKind.u64.wrap (65536 * ((1 + o.id / 4 % 16 : Nat) : Int)) = ((65536 * (1 + o.id / 4 % 16) : Nat) : Int) := by rw [wrapu64 (by omega)]; omega
  have h6 : IntKind.u64.wrap (((65536 * (1 + o.id / 4 % 16) : Nat) : Int) + ((o.id % 4 : Nat) : Int)) = ((idO o : Nat) : Int) := by rw [wrapu64 (by omega)]; unfold idO; omega
  refine W.fnI rfl rfl rfl ?_
  simp -implicitDefEqProofs only [ir9, eO, op, ef, cl, sq, reduceIte, q5, q8, q9, j2, j3, j4, j5, j6, j7, S1, S2, h0, h1, h2, h3, h4, h5, h6]
def nm6 (i : Nat) : ByteArray := match i with
  | 0 => ⟨#[]⟩
  | 1 => ⟨#[97]⟩
  | 2 => ⟨#[98]⟩
  | 3 => ⟨#[99]⟩
  | 4 => ⟨#[100]⟩
  | _ => ⟨#[101]⟩
def bitm (m i : Nat) : Bool := ((IntKind.u8.wrap ((BitVec.ofInt IntKind.u8.bits ((m : Int).fdiv (2 ^ (min (i : Int).toNat IntKind.u8.bits))) &&& BitVec.ofInt IntKind.u8.bits 1).toNat : Nat)) == 1)
set_option maxRecDepth 100000 in
theorem bitm_eq' : ∀ m : Fin 256, ∀ i : Fin 6, bitm m i = m.val.testBit i := by decide +kernel
theorem bitm_eq {m i : Nat} (hm : m < 256) (hi : i < 6) : bitm m i = m.testBit i := bitm_eq' ⟨m, hm⟩ ⟨i, hi⟩
def namesN (m : Nat) : Nat → List ByteArray
  | 0 => []
  | i + 1 => namesN m i ++ if m.testBit i then [nm6 i] else []
def names (m : Nat) : List ByteArray := namesN m 6
theorem namesN_len (m : Nat) : ∀ i, (namesN m i).length ≤ i
  | 0 => Nat.le_refl _
  | i + 1 => by
    have := namesN_len m i
    simp -implicitDefEqProofs only [namesN, List.length_append]
    split <;> simp <;> omega
theorem mem_namesN {m : Nat} {x : ByteArray} : ∀ i, x ∈ namesN m i ↔ ∃ j, j < i ∧ m.testBit j = true ∧ x = nm6 j
  | 0 => by simp [namesN]
  | i + 1 => by
    simp -implicitDefEqProofs only [namesN, List.mem_append, mem_namesN i]
    constructor
    · rintro (⟨j, h1, h2⟩ | h)
      · exact ⟨j, by omega, h2⟩
      · split at h
        · rename_i hb; simp at h; exact ⟨i, by omega, hb, h⟩
        · simp at h
    · rintro ⟨j, h1, h2, h3⟩
      by_cases e : j = i
      · subst e; rw [if_pos h2]; exact .inr (by simp [h3])
      · exact .inl ⟨j, by omega, h2, h3⟩
theorem nm6_lt : ∀ i j : Fin 6, i < j → strLt (nm6 i) (nm6 j) = true := by decide +kernel
theorem namesN_pw (m : Nat) : ∀ i, i ≤ 6 → (namesN m i).Pairwise (fun a b => strLt a b = true)
  | 0, _ => by simp [namesN]
  | i + 1, h => by
    simp -implicitDefEqProofs only [namesN]
    rw [List.pairwise_append]
    refine ⟨namesN_pw m i (by omega), by split <;> simp, fun a ha b hb => ?_⟩
    obtain ⟨j, h1, _, rfl⟩ := (mem_namesN i).1 ha
    split at hb
    · simp at hb; subst hb
      exact nm6_lt ⟨j, by omega⟩ ⟨i, by omega⟩ h1
    · simp at hb
theorem names32 (m : Nat) (hm : m < 256) (H : Heap) : W env (.call 27 [.int .u8 m]) H (fun o H' => Ext H H' ∧ ∃ k, KOk k (names m) ∧ o = .val (.sl k ((names m).map eS))) := by
  refine W.fnI rfl rfl rfl ?_
  simp -implicitDefEqProofs only [ir27, op, ef, cl, sq, reduceIte, q5, q8, q9, j2, j3, j4, j5, j6, j7, S1]
  refine W.loopV [(0, _), (3, _)] (fun (i : Nat) R H' => At H' (fun H' => ∃ kw, R 4 = .sl kw ((namesN m i).map eS) ∧ Ext H H' ∧ Apd H.length H' kw ∧ KOk kw (namesN m i)) ∧ R 5 = .int .i64 i ∧ i ≤ 6) (fun i => 6 - i) 0 ⟨.i ⟨.nil, rfl, Ext.rfl', apd_nil _ _, fun _ => rfl⟩, rfl, Nat.zero_le _⟩ ?_
  rintro i R H1 ⟨⟨kw, g4, hx, hap, hko⟩, g5, hi⟩
  by_cases hlt : i < 6
  · have wsi := wrap_succ (show i < 9223372036854775807 by omega)
    have nn : ¬ (i : Int) < 0 := by omega
    have hb : (IntKind.u8.wrap ((BitVec.ofInt IntKind.u8.bits ((m : Int).fdiv (2 ^ (min (i : Int).toNat IntKind.u8.bits))) &&& BitVec.ofInt IntKind.u8.bits 1).toNat : Nat) == 1) = m.testBit i := bitm_eq hm hlt
    have hia : iadT 1 i (.sl .full [[T.str ⟨#[]⟩], [T.str ⟨#[97]⟩], [T.str ⟨#[98]⟩], [T.str ⟨#[99]⟩], [T.str ⟨#[100]⟩], [T.str ⟨#[101]⟩]]) = some (.iptr [.str (nm6 i)]) := by
      have hc : i = 0 ∨ i = 1 ∨ i = 2 ∨ i = 3 ∨ i = 4 ∨ i = 5 := by omega
      rcases hc with rfl | rfl | rfl | rfl | rfl | rfl <;> rfl
    cases hbi : m.testBit i
    · rw [hbi] at hb
      simp -implicitDefEqProofs only [mkR_nil, mkR_cons, op, ef, cl, sq, reduceIte, q5, q8, q9, j2, j3, j4, j5, j6, j7, S1, g4, g5, hlt, nn, hb, wsi]
      exact ⟨i + 1, by omega, .i ⟨kw, by simp -implicitDefEqProofs only [op, ef, cl, sq, reduceIte, q5, q8, q9, j2, j3, j4, j5, j6, j7, S1, g4, namesN, hbi], hx, hap, by simpa [namesN, hbi] using hko⟩, rfl, by omega⟩
    · rw [hbi] at hb
      have hl := namesN_len m i
      have hall := all_map (enc := eS) (n := 1) (fun _ => rfl) (namesN m i)
      obtain ⟨k', H', ha, hap', hst⟩ := app_ok (bytes := 16) ((namesN m i).map eS) [[T.str (nm6 i)]] hap hx.len (by simp) (roomS (by simp; omega) (by omega))
      have hnn := app_nn ha (by simp)
      simp -implicitDefEqProofs only [op, ef, cl, sq, reduceIte, q5, q8, q9, j2, j3, j4, j5, j6, j7, S1] at ha
      simp -implicitDefEqProofs only [mkR_nil, mkR_cons, op, ef, cl, sq, reduceIte, q5, q8, q9, j2, j3, j4, j5, j6, j7, S1, g4, g5, hlt, nn, hb, natOf_nat, hia, hall, ha, wsi]
      exact ⟨i + 1, by omega, .i ⟨k', by simp -implicitDefEqProofs only [op, ef, cl, sq, reduceIte, q5, q8, q9, j2, j3, j4, j5, j6, j7, S1, namesN, hbi, if_true, List.map_append, eS], hst.ext H (Nat.le_refl _) hx, hap', fun h => absurd h hnn⟩, rfl, by omega⟩
  · have hi6 : i = 6 := by omega
    subst hi6
    simp -implicitDefEqProofs only [mkR_nil, mkR_cons, op, ef, cl, sq, reduceIte, q5, q8, q9, j2, j3, j4, j5, j6, j7, S1, g4, g5, hlt]
    exact ⟨hx, kw, hko, rfl⟩
def sh300 (v : ByteArray) : ByteArray := v.extract 0 (min v.size 300)
theorem sh300_size (v : ByteArray) : (sh300 v).size ≤ 300 := by simp -implicitDefEqProofs only [sh300, ByteArray.size_extract]; omega
def pairsO (o : Opv) : List (ByteArray × ByteArray) := (names (o.keys &&& o.some)).map fun k => (k, sh300 o.value)
def keysO (o : Opv) : List ByteArray := names o.keys
theorem pairsO_len (o : Opv) : (pairsO o).length ≤ 6 := by simpa [pairsO, names] using namesN_len (o.keys &&& o.some) 6
theorem keysO_len (o : Opv) : (keysO o).length ≤ 6 := namesN_len o.keys 6
theorem and8 (a b : Nat) (ha : a < 256) (hb : b < 256) : IntKind.u8.wrap ((BitVec.ofInt IntKind.u8.bits (a : Int) &&& BitVec.ofInt IntKind.u8.bits (b : Int)).toNat : Nat) = ((a &&& b : Nat) : Int) := by
  have h1 := and_nat IntKind.u8.bits a b (by simpa [IntKind.bits] using ha) (by simpa [IntKind.bits] using hb)
  have : a &&& b ≤ a := Nat.and_le_left
  rw [h1, wrapu8 (by omega)]
theorem write13 (o : Opv) (ho : OkO o) (H : Heap) : W env (.call 7 [.agg (eO o)]) H (fun u H' => Ext H H' ∧ ∃ k k', KOk k (pairsO o) ∧ KOk k' (keysO o) ∧ u = .val (.tup [.sl k ((pairsO o).map eP), .sl k' ((keysO o).map eS)])) := by
  have hand := and8 o.keys o.some ho.2.1 ho.2.2
  have hlt : o.keys &&& o.some < 256 := Nat.lt_of_le_of_lt Nat.and_le_left ho.2.1
  refine W.fnI rfl rfl rfl ?_
  simp -implicitDefEqProofs only [ir7, eO, op, ef, cl, sq, reduceIte, q5, q8, q9, j2, j3, j4, j5, j6, j7, S1, S2]
  have hx0 : Ext H (H ++ [B.cells [T.int IntKind.i64 o.kind, T.int IntKind.u64 o.id, T.int IntKind.u8 o.keys, T.int IntKind.u8 o.some, T.str o.value]]) := ⟨_, rfl⟩
  refine callB_of _ _ _ _ _ _ _ _ (names32 o.keys ho.2.1 _) ?_
  rintro u H1 ⟨hx1, k1, hk1, hu⟩
  cases hu
  have hc1 : H1[H.length]? = some (.cells [T.int IntKind.i64 o.kind, T.int IntKind.u64 o.id, T.int IntKind.u8 o.keys, T.int IntKind.u8 o.some, T.str o.value]) := hx1.get (g_tail rfl)
  simp -implicitDefEqProofs only [op, ef, cl, sq, reduceIte, q5, q8, q9, j2, j3, j4, j5, j6, j7, S1, hc1, hand]
  refine callB_of _ _ _ _ _ _ _ _ (names32 (o.keys &&& o.some) hlt _) ?_
  rintro u H2 ⟨hx2, k2, hk2, hu⟩
  cases hu
  have hc2 := hx2.get hc1
  obtain ⟨ns, hns⟩ : ∃ ns, ns = names (o.keys &&& o.some) := ⟨_, rfl⟩
  have hnl : ns.length ≤ 6 := by rw [hns]; exact namesN_len _ 6
  rw [← hns]
  have hx3 : Ext H H2 := (hx0.trans hx1).trans hx2
  have lH := glt hc2
  simp -implicitDefEqProofs only [op, ef, cl, sq, reduceIte, q5, q8, q9, j2, j3, j4, j5, j6, j7, S1, List.length_map]
  refine W.loopV [(1, _), (4, _), (5, _)] (fun (i : Nat) R H' => At H' (fun H' => ∃ kw, R 6 = .sl kw (((ns.take i).map fun k => (k, sh300 o.value)).map eP) ∧ Ext H2 H' ∧ Apd H2.length H' kw ∧ KOk kw (ns.take i)) ∧ R 7 = .int .i64 i ∧ i ≤ ns.length) (fun i => ns.length - i) 0 ⟨.i ⟨.nil, rfl, Ext.rfl', apd_nil _ _, fun _ => rfl⟩, rfl, Nat.zero_le _⟩ ?_
  rintro i R H3 ⟨⟨kw, g6, hx, hap, hko⟩, g7, hi⟩
  by_cases hlt : i < ns.length
  · obtain ⟨x, hxi⟩ := getP hlt
    have ix := iadX (e := eS) (n := 1) (fun _ => rfl) (by decide) (k := k2) hxi
    have wsi := wrap_succ (show i < 9223372036854775807 by omega)
    have hc3 := hx.get hc2
    have hall := all_map (enc := eP) (n := 2) (fun _ => rfl) ((ns.take i).map fun k => (k, sh300 o.value))
    have hmn : (if (300 : Int) < (o.value.size : Int) then (300 : Int) else (o.value.size : Int)) = ((min o.value.size 300 : Nat) : Int) := by split <;> omega
    have hle : min o.value.size 300 ≤ o.value.size := Nat.min_le_left _ _
    obtain ⟨k', H', ha, hap', hst⟩ := app_ok (bytes := 32) (((ns.take i).map fun k => (k, sh300 o.value)).map eP) [[T.str x, T.str (sh300 o.value)]] hap hx.len (by simp) (roomS (by simp; omega) (by omega))
    have hnn := app_nn ha (by simp)
    simp -implicitDefEqProofs only [op, ef, cl, sq, reduceIte, q5, q8, q9, j2, j3, j4, j5, j6, j7, S1] at ha
    unfold sh300 at *
    simp -implicitDefEqProofs only [mkR_nil, mkR_cons, op, ef, cl, sq, reduceIte, q5, q8, q9, j2, j3, j4, j5, j6, j7, S1, g6, g7, hlt, natOf_nat, ix, eS, hc3, hmn, hle, Nat.zero_le, and_self, hall, ha, wsi]
    refine ⟨i + 1, by omega, .i ⟨k', ?_, hst.ext H2 (Nat.le_refl _) hx, hap', fun h => absurd h hnn⟩, rfl, by omega⟩
    simp -implicitDefEqProofs only [op, ef, cl, sq, reduceIte, q5, q8, q9, j2, j3, j4, j5, j6, j7, S1, take_sn hxi, List.map_append, eP]
  · have hie : i = ns.length := by omega
    subst hie
    rw [List.take_length] at g6 hko
    simp -implicitDefEqProofs only [mkR_nil, mkR_cons, op, ef, cl, sq, reduceIte, q5, q8, q9, j2, j3, j4, j5, j6, j7, S1, List.length_map, g6, g7, hlt]
    refine ⟨hx3.trans hx, kw, k1, fun h => ?_, hk1, ?_⟩
    · simp -implicitDefEqProofs only [pairsO, ← hns, hko h, List.map_nil]
    · rw [hns]; rfl
end Go.Proofs.YtodegnhallgnkaaGreat.St
end

section
namespace Go.Proofs.YtodegnhallgnkaaGreat.St
open Go.Rmp Go.Proofs.YtodegnhallgnkaaGreat.Ir
set_option maxRecDepth 10000
theorem rises_pw2 {l : List ByteArray} (h : l.Pairwise (fun a b => strLt a b = true)) {i j : Nat} {a b : ByteArray} (hij : i < j) (ha : l[i]? = some a) (hb : l[j]? = some b) : strLt a b = true := by
  obtain ⟨h1, e1⟩ := List.getElem?_eq_some_iff.1 ha
  obtain ⟨h2, e2⟩ := List.getElem?_eq_some_iff.1 hb
  have := List.pairwise_iff_getElem.1 h i j h1 h2 hij
  rwa [e1, e2] at this
theorem nm6_size (j : Nat) : (nm6 j).size ≤ 1 := by
  unfold nm6; split <;> decide
theorem names_good {m : Nat} (h : names m ≠ []) : GoodKeys (names m) := by
  have hp := namesN_pw m 6 (Nat.le_refl _)
  have hl := namesN_len m 6
  refine ⟨fun i hi x hx => ⟨?_, fun h0 y hy => rises_pw2 hp (by omega) hy hx⟩, ?_, by unfold names; omega⟩
  · obtain ⟨j, _, _, rfl⟩ := (mem_namesN 6).1 (List.mem_of_getElem? hx)
    have := nm6_size j; omega
  · cases e : names m with
    | nil => exact absurd e h
    | cons x l => simp
theorem names_sub {a b : Nat} {x : ByteArray} (h : x ∈ names (a &&& b)) : x ∈ names a := by
  obtain ⟨j, h1, h2, h3⟩ := (mem_namesN 6).1 h
  rw [Nat.testBit_and, Bool.and_eq_true] at h2
  exact (mem_namesN 6).2 ⟨j, h1, h2.1, h3⟩
theorem may_O (o : Opv) (hne : pairsO o ≠ []) : MayP (idO o) (pairsO o) (keysO o) := by
  have hp := namesN_pw (o.keys &&& o.some) 6 (Nat.le_refl _)
  have hn : names (o.keys &&& o.some) ≠ [] := fun h => hne (by simp [pairsO, h])
  have hk : keysO o ≠ [] := fun h => by
    obtain ⟨x, hx⟩ := List.exists_mem_of_ne_nil _ hn
    have := names_sub hx
    have h : names o.keys = [] := h
    rw [h] at this; cases this
  have hs := sh300_size o.value
  refine ⟨idO_ge o, names_good hk, ?_, fun i hi p hp' => ?_⟩
  · cases e : pairsO o with
    | nil => exact absurd e hne
    | cons x l => simp
  · unfold pairsO at hp'
    rw [List.getElem?_map] at hp'
    cases hk : (names (o.keys &&& o.some))[i]? with
    | none => rw [hk] at hp'; cases hp'
    | some k =>
      rw [hk] at hp'; cases hp'
      refine ⟨fun h0 q hq => ?_, names_sub (List.mem_of_getElem? hk), by simp only; omega⟩
      unfold pairsO at hq
      rw [List.getElem?_map] at hq
      cases hk2 : (names (o.keys &&& o.some))[i - 1]? with
      | none => rw [hk2] at hq; cases hq
      | some k2 => rw [hk2] at hq; cases hq; exact rises_pw2 hp (by omega) hk2 hk
theorem putNo {b : Bk} {a : Ab} {F : Nat → Prop} {m : Nat} (n : Nat) (k k' : SK) (l : List (ByteArray × ByteArray)) (ks : List ByteArray) (now : Int) {H : Heap} (h : AtS H b a F m) (hl : l.length ≤ 8000000) (hks : ks.length ≤ 8000000) (hm : ¬ (MayP n l ks ∧ TickOk now)) :
    W env (.call 8 [.ptr b.s 0, .int .u64 n, .sl k (l.map eP), .sl k' (ks.map eS), .int .i64 now]) H (fun o H' => o = .val (.tup [.bool false, .int .i64 1]) ∧ Ext H H') := by
  refine W.fnI rfl rfl rfl ?_
  simp -implicitDefEqProofs only [ir8, op, ef, cl, sq, reduceIte, q5, q8, q9, j2, j3, j4, j5, j6, j7, S1]
  refine callB_of _ _ _ _ _ _ _ _ (may43 n k k' l ks _ (by omega) (by omega)) ?_
  rintro u H1 ⟨hx1, bb, hu, hb⟩
  cases hu
  cases bb
  · simp -implicitDefEqProofs only [op, ef, cl, sq, reduceIte, q5, q8, q9, j2, j3, j4, j5, j6, j7, S1]; exact hx1
  · simp -implicitDefEqProofs only [op, ef, cl, sq, reduceIte, q5, q8, q9, j2, j3, j4, j5, j6, j7, S1]
    refine callB_of _ _ _ _ _ _ _ _ (tick31 now _) ?_
    rintro u H2 ⟨hu, rfl⟩
    cases hu
    have hf : (decide (0 ≤ now) && decide (now ≤ 1099511627776)) = false := by
      rw [Bool.and_eq_false_iff, decide_eq_false_iff_not, decide_eq_false_iff_not]
      have : ¬ TickOk now := fun h => hm ⟨hb.1 rfl, h⟩
      unfold TickOk at this; omega
    simp -implicitDefEqProofs only [op, ef, cl, sq, reduceIte, q5, q8, q9, j2, j3, j4, j5, j6, j7, S1, hf]
    exact hx1
theorem has28 {b : Bk} {a : Ab} {F : Nat → Prop} {m : Nat} (n : Nat) {H : Heap} (h : AtS H b a F m) : W env (.call 26 [.ptr b.s 0, .int .u64 n]) H (fun o H' => H' = H ∧ ∃ D : List ByteArray, D.Nodup ∧ (∀ k, k ∈ D ↔ a.has (k, n) = true) ∧ o = .val (.int .i64 D.length)) := by
  obtain ⟨s, ⟨im, pm, sa⟩, hi, rfl, h4, h5⟩ := h
  obtain ⟨t, htt⟩ : ∃ t, lkpT (mlook pm n) (.sl .nil []) false = t := ⟨_, rfl⟩
  have hlH : lenT H .sl t = some (s.pls n).length := by
    have := (sa.op n).mut
    rw [htt] at this
    rcases this with ⟨e, rfl⟩ | ⟨c, rfl, _, _⟩
    · rw [e]; rfl
    · rfl
  refine W.fnI rfl rfl rfl ?_
  simp -implicitDefEqProofs only [ir26, op, ef, cl, sq, reduceIte, q5, q8, q9, j2, j3, j4, j5, j6, j7, S1, sa.hs, sa.hp, lkpB_N, htt, hlH]
  exact ⟨s.pls n, hi.pnd n, fun k => by rw [hi.plm]; simp [Ab.has, absS], rfl⟩
def stampOf (a : Ab) (m : Nm) : Int := (vdOf (a.v m)).stamp
def isDue (a : Ab) (now r : Int) (m : Nm) : Bool := decide (0 ≤ stampOf a m) && decide (stampOf a m ≤ now - r)
def dueL (a : Ab) (now r : Int) (l : List Nm) : List Nm := l.filter (isDue a now r)
def RetOk (r : Int) : Prop := 0 ≤ r ∧ r ≤ 1048576
theorem dueL_len (a : Ab) (now r : Int) (l : List Nm) : (dueL a now r l).length ≤ l.length := List.length_filter_le _ _
theorem filter_take {α : Type} {p : α → Bool} {l : List α} {i : Nat} {x : α} (hx : l[i]? = some x) : (l.take (i + 1)).filter p = (l.take i).filter p ++ if p x then [x] else [] := by
  rw [take_sn hx, List.filter_append]; congr 1
  cases h : p x <;> simp [h]
theorem due9 {b : Bk} {a : Ab} {F : Nat → Prop} {m : Nat} (now r : Int) {H : Heap} (h : AtS H b a F m) (hm : m ≤ 8000000) (ht : TickOk now) (hr : RetOk r) : W env (.call 13 [.ptr b.s 0, .int .i64 now, .int .i64 r]) H (fun o H' => Ext H H' ∧ ∃ k l, KOk k (dueL a now r l) ∧ Names a l ∧ l.length ≤ m ∧ o = .val (.tup [.sl k ((dueL a now r l).map eW), .int .i64 0])) := by
  have h1 : (decide (0 ≤ now) && decide (now ≤ 1099511627776)) = true := by simp [ht.1, ht.2]
  have h2 : (decide (0 ≤ r) && decide (r ≤ 1048576)) = true := by simp [hr.1, hr.2]
  have hw : IntKind.i64.wrap (now - r) = now - r := by
    have := ht.1; have := ht.2; have := hr.1; have := hr.2
    rw [wrap64 (by omega)]
  refine W.fnI rfl rfl rfl ?_
  simp -implicitDefEqProofs only [ir13, op, ef, cl, sq, reduceIte, q5, q8, q9, j2, j3, j4, j5, j6, j7, S1, eqRef, nilOf]
  refine callB_of _ _ _ _ _ _ _ _ (tick29 now _) ?_
  rintro u H1 ⟨hu, rfl⟩
  cases hu
  simp -implicitDefEqProofs only [op, ef, cl, sq, reduceIte, q5, q8, q9, j2, j3, j4, j5, j6, j7, S1, h1]
  refine callB_of _ _ _ _ _ _ _ _ (ret30 r _) ?_
  rintro u H2 ⟨hu, rfl⟩
  cases hu
  simp -implicitDefEqProofs only [op, ef, cl, sq, reduceIte, q5, q8, q9, j2, j3, j4, j5, j6, j7, S1, h2]
  refine callB_of _ _ _ _ _ _ _ _ (keptA h hm) ?_
  rintro u H3 ⟨hx3, k, l, hko, hn, hll, hu⟩
  cases hu
  simp -implicitDefEqProofs only [op, ef, cl, sq, reduceIte, q5, q8, q9, j2, j3, j4, j5, j6, j7, S1, List.length_map]
  refine W.loopV [(1, _), (2, _), (24, _), (25, _)] (fun (i : Nat) R H' => At H' (fun H' => ∃ kw, R 8 = .sl kw ((dueL a now r (l.take i)).map eW) ∧ Ext H3 H' ∧ Apd H3.length H' kw ∧ KOk kw (dueL a now r (l.take i))) ∧ R 26 = .int .i64 i ∧ i ≤ l.length) (fun i => l.length - i) 0 ⟨.i ⟨.nil, rfl, Ext.rfl', apd_nil _ _, fun _ => rfl⟩, rfl, Nat.zero_le _⟩ ?_
  rintro i R H4 ⟨⟨kw, g8, hx, hap, hkw⟩, g26, hi⟩
  by_cases hlt : i < l.length
  · obtain ⟨x, hxi⟩ := getP hlt
    have ix := iadX (e := eKA a) (n := 5) (fun _ => rfl) (by decide) (k := k) hxi
    have wsi := wrap_succ (show i < 9223372036854775807 by omega)
    obtain ⟨hd, hhd⟩ : ∃ hd, hd = vdOf (a.v x) := ⟨_, rfl⟩
    have hst : stampOf a x = hd.stamp := by rw [hhd]; rfl
    have hft := filter_take (p := isDue a now r) hxi
    have hxx : ∀ y : B, Ext H4 (H4 ++ [y]) := fun y => ⟨_, rfl⟩
    by_cases h0 : 0 ≤ hd.stamp
    · by_cases h3 : hd.stamp ≤ now - r
      · have hdue : isDue a now r x = true := by simp [isDue, hst, h0, h3]
        rw [hdue] at hft
        have hl2 := dueL_len a now r (l.take i)
        have hall := all_map (enc := eW) (n := 2) (fun _ => rfl) (dueL a now r (l.take i))
        obtain ⟨k', H', ha, hap', hst'⟩ := app_ok (bytes := 24) ((dueL a now r (l.take i)).map eW) [[T.str x.1, T.int .u64 x.2]] (hap.ext (hxx (.cells [.str x.1, .int .u64 x.2, .str hd.value, .sl .arg (hd.keys.map eS), .int .i64 hd.stamp]))) (Nat.le_trans hx.len (hxx _).len) (by simp) (roomS (by simp at hl2 ⊢; omega) (by omega))
        have hnn := app_nn ha (by simp)
        simp -implicitDefEqProofs only [op, ef, cl, sq, reduceIte, q5, q8, q9, j2, j3, j4, j5, j6, j7, S1] at ha
        simp -implicitDefEqProofs only [mkR_nil, mkR_cons, op, ef, cl, sq, reduceIte, q5, q8, q9, j2, j3, j4, j5, j6, j7, S1, S2, g8, g26, hlt, natOf_nat, ix, eKA, ← hhd, h0, h3, hw, hall, ha, wsi]
        refine ⟨i + 1, by omega, .i ⟨k', ?_, hst'.ext H3 (Nat.le_refl _) (hx.trans (hxx _)), hap', fun h => absurd h hnn⟩, rfl, by omega⟩
        simp -implicitDefEqProofs only [op, ef, cl, sq, reduceIte, q5, q8, q9, j2, j3, j4, j5, j6, j7, S1, dueL, hft, if_true, List.map_append, eW]
      · have hdue : isDue a now r x = false := by simp [isDue, hst, h3]
        rw [hdue] at hft
        simp -implicitDefEqProofs only [mkR_nil, mkR_cons, op, ef, cl, sq, reduceIte, q5, q8, q9, j2, j3, j4, j5, j6, j7, S1, S2, g8, g26, hlt, natOf_nat, ix, eKA, ← hhd, h0, h3, hw, wsi]
        refine ⟨i + 1, by omega, .i ⟨kw, ?_, hx.trans (hxx _), hap.ext (hxx _), ?_⟩, rfl, by omega⟩
        · simp -implicitDefEqProofs only [op, ef, cl, sq, reduceIte, q5, q8, q9, j2, j3, j4, j5, j6, j7, S1, g8, dueL, hft, Bool.false_eq_true, if_false, List.append_nil]
        · simpa [dueL, hft] using hkw
    · have hdue : isDue a now r x = false := by simp [isDue, hst, h0]
      rw [hdue] at hft
      simp -implicitDefEqProofs only [mkR_nil, mkR_cons, op, ef, cl, sq, reduceIte, q5, q8, q9, j2, j3, j4, j5, j6, j7, S1, S2, g8, g26, hlt, natOf_nat, ix, eKA, ← hhd, h0, wsi]
      refine ⟨i + 1, by omega, .i ⟨kw, ?_, hx.trans (hxx _), hap.ext (hxx _), ?_⟩, rfl, by omega⟩
      · simp -implicitDefEqProofs only [op, ef, cl, sq, reduceIte, q5, q8, q9, j2, j3, j4, j5, j6, j7, S1, g8, dueL, hft, Bool.false_eq_true, if_false, List.append_nil]
      · simpa [dueL, hft] using hkw
  · have hie : i = l.length := by omega
    subst hie
    rw [List.take_length] at g8 hkw
    simp -implicitDefEqProofs only [mkR_nil, mkR_cons, op, ef, cl, sq, reduceIte, q5, q8, q9, j2, j3, j4, j5, j6, j7, S1, List.length_map, g8, g26, hlt]
    exact ⟨hx3.trans hx, kw, l, hkw, hn, hll, rfl⟩
theorem dueNo (t : T) (now r : Int) (H : Heap) (hp : t = .nilp ∨ ∃ b, t = .ptr b 0 ∧ ¬ (TickOk now ∧ RetOk r)) : W env (.call 13 [t, .int .i64 now, .int .i64 r]) H (Ret (.tup [.sl .nil [], .int .i64 1]) H) := by
  refine W.fnI rfl rfl rfl ?_
  rcases hp with rfl | ⟨b, rfl, hno⟩
  · simp -implicitDefEqProofs only [ir13, op, ef, cl, sq, reduceIte, q5, q8, q9, j2, j3, j4, j5, j6, j7, S1, eqRef, nilOf]
  simp -implicitDefEqProofs only [ir13, op, ef, cl, sq, reduceIte, q5, q8, q9, j2, j3, j4, j5, j6, j7, S1, eqRef, nilOf]
  refine callB_of _ _ _ _ _ _ _ _ (tick29 now _) ?_
  rintro u H1 ⟨hu, rfl⟩
  cases hu
  by_cases ht : TickOk now
  · have h1 : (decide (0 ≤ now) && decide (now ≤ 1099511627776)) = true := by simp [ht.1, ht.2]
    have h2 : (decide (0 ≤ r) && decide (r ≤ 1048576)) = false := by
      rw [Bool.and_eq_false_iff, decide_eq_false_iff_not, decide_eq_false_iff_not]
      have : ¬ RetOk r := fun h => hno ⟨ht, h⟩
      unfold RetOk at this; omega
    simp -implicitDefEqProofs only [op, ef, cl, sq, reduceIte, q5, q8, q9, j2, j3, j4, j5, j6, j7, S1, h1]
    refine callB_of _ _ _ _ _ _ _ _ (ret30 r _) ?_
    rintro u H2 ⟨hu, rfl⟩
    cases hu
    simp -implicitDefEqProofs only [op, ef, cl, sq, reduceIte, q5, q8, q9, j2, j3, j4, j5, j6, j7, S1, h2]
  · have h1 : (decide (0 ≤ now) && decide (now ≤ 1099511627776)) = false := by
      rw [Bool.and_eq_false_iff, decide_eq_false_iff_not, decide_eq_false_iff_not]
      unfold TickOk at ht; omega
    simp -implicitDefEqProofs only [op, ef, cl, sq, reduceIte, q5, q8, q9, j2, j3, j4, j5, j6, j7, S1, h1]
def memN (D : List Nm) (m : Nm) : Bool := D.any fun x => decide (x = m)
theorem memN_iff {D : List Nm} {m : Nm} : memN D m = true ↔ m ∈ D := by simp [memN]
theorem memN_no {D : List Nm} {m : Nm} (h : m ∉ D) : memN D m = false := by
  cases e : memN D m with
  | false => rfl
  | true => exact absurd (memN_iff.1 e) h
def Ab.cuts (a : Ab) (D : List Nm) : Ab := ⟨fun m => if memN D m = true then none else a.v m, a.l⟩
theorem cuts_nil (a : Ab) : a.cuts [] = a := by cases a; rfl
theorem cuts_s (a : Ab) (D : List Nm) (x : Nm) : (a.cuts D).cut x = a.cuts (D ++ [x]) := ab_ext (fun m => by
  have e : memN (D ++ [x]) m = (memN D m || decide (x = m)) := by simp [memN]
  simp -implicitDefEqProofs only [Ab.cut, Ab.cuts, e]
  by_cases h : m = x
  · subst h; simp
  · simp [h, Ne.symm h]) fun _ => rfl
theorem due_mem {a : Ab} {now r : Int} {l : List Nm} {x : Nm} (hn : Names a l) (hx : x ∈ dueL a now r l) : ∃ h, a.v x = some h ∧ 0 ≤ h.stamp ∧ h.stamp ≤ now - r := by
  obtain ⟨h1, h2⟩ := List.mem_filter.1 hx
  have h3 := (hn.2 x).1 h1
  simp -implicitDefEqProofs only [Ab.has, Option.isSome_iff_exists] at h3
  obtain ⟨h, h3⟩ := h3
  simp -implicitDefEqProofs only [isDue, stampOf, h3, vdOf, Option.getD_some, Bool.and_eq_true, decide_eq_true_eq] at h2
  exact ⟨h, h3, h2⟩
theorem dueL_nd {a : Ab} {now r : Int} {l : List Nm} (hn : Names a l) : (dueL a now r l).Nodup := hn.nd.sublist List.filter_sublist
theorem collect11 {b : Bk} {a : Ab} {F : Nat → Prop} {m : Nat} (now r : Int) {H : Heap} (h : AtS H b a F m) (hm : m ≤ 8000000) (ht : TickOk now) (hr : RetOk r) : W env (.call 21 [.ptr b.s 0, .int .i64 now, .int .i64 r]) H (fun o H' => ∃ k l, KOk k (dueL a now r l) ∧ Names a l ∧ l.length ≤ m ∧ o = .val (.tup [.sl k ((dueL a now r l).map eW), .int .i64 0]) ∧ AtS H' b (a.cuts (dueL a now r l)) F m ∧ Frm F H H') := by
  refine W.fnI rfl rfl rfl ?_
  simp -implicitDefEqProofs only [ir21, op, ef, cl, sq, reduceIte, q5, q8, q9, j2, j3, j4, j5, j6, j7, S1]
  refine callB_of _ _ _ _ _ _ _ _ (due9 now r h hm ht hr) ?_
  rintro u H1 ⟨hx1, k, l, hko, hn, hll, hu⟩
  cases hu
  obtain ⟨D, hD⟩ : ∃ D, D = dueL a now r l := ⟨_, rfl⟩
  have hDl := dueL_len a now r l
  have hdm := fun x => due_mem (a := a) (now := now) (r := r) (l := l) (x := x) hn
  have hdn := dueL_nd (now := now) (r := r) hn
  rw [← hD] at hDl hdm hdn hko
  rw [← hD]
  simp -implicitDefEqProofs only [op, ef, cl, sq, reduceIte, q5, q8, q9, j2, j3, j4, j5, j6, j7, S1, List.length_map]
  refine W.loopV [(0, _), (8, _), (9, _), (19, _), (20, _)] (fun (i : Nat) R H' => At H' (fun H' => AtS H' b (a.cuts (D.take i)) F m ∧ Frm F H H') ∧ R 21 = .int .i64 i ∧ i ≤ D.length) (fun i => D.length - i) 0 ⟨.i ⟨by rw [List.take_zero, cuts_nil]; exact h.ext hx1, ext_frm hx1⟩, rfl, Nat.zero_le _⟩ ?_
  rintro i R H2 ⟨⟨ha, hf⟩, g21, hi⟩
  by_cases hlt : i < D.length
  · obtain ⟨x, hxi⟩ := getP hlt
    have ix := iadX (e := eW) (n := 2) (fun _ => rfl) (by decide) (k := k) hxi
    have wsi := wrap_succ (show i < 9223372036854775807 by omega)
    obtain ⟨hd, hv, h0, _⟩ := hdm x (List.mem_of_getElem? hxi)
    have hnm : x ∉ D.take i := fun hh => by
      obtain ⟨j, hj, e2⟩ := List.getElem_of_mem hh
      have hj' : j < i ∧ j < D.length := by simp -implicitDefEqProofs only [List.length_take] at hj; omega
      have hjk : D[j]? = some x := by rw [← e2]; simp [List.getElem?_eq_getElem hj'.2]
      have := (List.getElem?_inj hj'.2 hdn).1 (hjk.trans hxi.symm)
      omega
    have hvc : (a.cuts (D.take i)).v (x.1, x.2) = some hd := by simp -implicitDefEqProofs only [Ab.cuts, memN_no hnm, Bool.false_eq_true, if_false]; exact hv
    have hxx : ∀ y : B, Ext H2 (H2 ++ [y]) := fun y => ⟨_, rfl⟩
    simp -implicitDefEqProofs only [mkR_nil, mkR_cons, op, ef, cl, sq, reduceIte, q5, q8, q9, j2, j3, j4, j5, j6, j7, S1, S2, List.length_map, g21, hlt, natOf_nat, ix, eW]
    refine callB_of _ _ _ _ _ _ _ _ (dropA x.1 x.2 (ha.ext (hxx _)) hm) ?_
    rintro u H3 (⟨hh, _⟩ | ⟨h', hh, hm1, _⟩ | ⟨h', hh, hm1, hu, ha3, hf3⟩)
    · rw [hvc] at hh; cases hh
    · rw [hvc] at hh; cases hh; omega
    cases hu
    rw [cuts_s, ← take_sn hxi] at ha3
    simp -implicitDefEqProofs only [mkR_nil, mkR_cons, op, ef, cl, sq, reduceIte, q5, q8, q9, j2, j3, j4, j5, j6, j7, S1, g21, wsi]
    exact ⟨i + 1, by omega, .i ⟨ha3, (hf.ext (hxx _)).trans hf3 fun c h => .inl h⟩, rfl, by omega⟩
  · have hie : i = D.length := by omega
    subst hie
    rw [List.take_length] at ha
    simp -implicitDefEqProofs only [mkR_nil, mkR_cons, op, ef, cl, sq, reduceIte, q5, q8, q9, j2, j3, j4, j5, j6, j7, S1, List.length_map, g21, hlt]
    exact ⟨k, l, by rw [← hD]; exact hko, hn, hll, by rw [← hD], by rw [← hD]; exact ha, hf⟩
theorem collectNo (t : T) (now r : Int) (H : Heap) (hp : t = .nilp ∨ ∃ b, t = .ptr b 0 ∧ ¬ (TickOk now ∧ RetOk r)) : W env (.call 21 [t, .int .i64 now, .int .i64 r]) H (Ret (.tup [.sl .nil [], .int .i64 1]) H) := by
  refine W.fnI rfl rfl rfl ?_
  simp -implicitDefEqProofs only [ir21, op, ef, cl, sq, reduceIte, q5, q8, q9, j2, j3, j4, j5, j6, j7, S1]
  refine callB_of _ _ _ _ _ _ _ _ (dueNo t now r _ hp) ?_
  rintro u H1 ⟨hu, rfl⟩
  cases hu
  simp -implicitDefEqProofs only [op, ef, cl, sq, reduceIte, q5, q8, q9, j2, j3, j4, j5, j6, j7, S1]
  refine W.loopV [(0, _), (8, _), (9, _), (19, _), (20, _)] (fun (i : Nat) R H' => H' = H1 ∧ R 21 = .int .i64 0 ∧ i = 0) (fun i => i) 0 ⟨rfl, rfl, rfl⟩ ?_
  rintro i R H2 ⟨rfl, g21, rfl⟩
  simp -implicitDefEqProofs only [mkR_nil, mkR_cons, op, ef, cl, sq, reduceIte, q5, q8, q9, j2, j3, j4, j5, j6, j7, S1, g21]
end Go.Proofs.YtodegnhallgnkaaGreat.St
end

section
namespace Go.Proofs.YtodegnhallgnkaaGreat.St
open Go.Rmp Go.Proofs.YtodegnhallgnkaaGreat.Ir
set_option maxRecDepth 10000
def AbT (a : Ab) : Prop := ∀ m h, a.v m = some h → h.stamp = -1 ∨ TickOk h.stamp
theorem AbT.emp : AbT Ab.emp := fun m h e => by cases e
theorem AbT.put {a : Ab} (h : AbT a) {n : Nat} {l : List (ByteArray × ByteArray)} {ks : List ByteArray} {now : Int} (ht : TickOk now) : AbT (a.put n l ks now) := fun m x e => by
  simp -implicitDefEqProofs only [Ab.put] at e
  cases h1 : a.v m with
  | some y => rw [h1] at e; cases e; exact h m _ h1
  | none =>
    rw [h1] at e
    simp only at e
    split at e
    · cases h2 : mlook l m.1 with
      | none => rw [h2] at e; cases e
      | some v =>
        rw [h2] at e; cases e
        simp only
        split
        · exact .inr ht
        · exact .inl rfl
    · cases e
theorem AbT.com {a : Ab} (h : AbT a) {n : Nat} {now : Int} (ht : TickOk now) : AbT (a.com n now) := fun m x e => by
  simp -implicitDefEqProofs only [Ab.com] at e
  cases h1 : a.v m with
  | none => rw [h1] at e; cases e
  | some y =>
    rw [h1] at e; simp -implicitDefEqProofs only [Option.map_some, Option.some.injEq] at e; subst e
    split
    · exact .inr ht
    · exact h m y h1
theorem AbT.cuts {a : Ab} (h : AbT a) (D : List Nm) : AbT (a.cuts D) := fun m x e => by
  simp -implicitDefEqProofs only [Ab.cuts] at e
  split at e
  · cases e
  · exact h m x e
theorem AbT.st {a : Ab} (h : AbT a) {m : Nm} (hm : a.has m = true) : stampOf a m = -1 ∨ TickOk (stampOf a m) := by
  obtain ⟨x, hx⟩ := Option.isSome_iff_exists.1 hm
  have := h m x hx
  simp -implicitDefEqProofs only [stampOf, hx, vdOf, Option.getD_some]; exact this
structure NxtV (a : Ab) (l : List Nm) (r at_ : Int) (is : Bool) : Prop where
  some : is = true ↔ ∃ m ∈ l, 0 ≤ stampOf a m
  on : is = true → ∃ m ∈ l, 0 ≤ stampOf a m ∧ at_ = stampOf a m + r
  least : ∀ m ∈ l, 0 ≤ stampOf a m → at_ ≤ stampOf a m + r
  off : is = false → at_ = 0
theorem NxtV.skip {a : Ab} {l : List Nm} {r t : Int} {is : Bool} (h : NxtV a l r t is) {m : Nm} (hm : 0 ≤ stampOf a m → is = true ∧ t ≤ stampOf a m + r) : NxtV a (l ++ [m]) r t is := by
  refine ⟨?_, fun e => ?_, fun x hx h0 => ?_, h.off⟩
  · rw [h.some]
    constructor
    · rintro ⟨x, hx, h0⟩; exact ⟨x, List.mem_append_left _ hx, h0⟩
    · rintro ⟨x, hx, h0⟩
      rcases List.mem_append.1 hx with hx | hx
      · exact ⟨x, hx, h0⟩
      · simp at hx; subst hx; exact h.some.1 (hm h0).1
  · obtain ⟨x, hx, h0⟩ := h.on e; exact ⟨x, List.mem_append_left _ hx, h0⟩
  · rcases List.mem_append.1 hx with hx | hx
    · exact h.least x hx h0
    · simp at hx; subst hx; exact (hm h0).2
theorem NxtV.take {a : Ab} {l : List Nm} {r t : Int} {is : Bool} (h : NxtV a l r t is) {m : Nm} (h0 : 0 ≤ stampOf a m) (hm : is = true → stampOf a m + r < t) : NxtV a (l ++ [m]) r (stampOf a m + r) true := by
  refine ⟨⟨fun _ => ⟨m, by simp, h0⟩, fun _ => rfl⟩, fun _ => ⟨m, by simp, h0, rfl⟩, fun x hx h1 => ?_, fun e => by cases e⟩
  rcases List.mem_append.1 hx with hx | hx
  · have := h.least x hx h1
    have := hm (h.some.2 ⟨x, hx, h1⟩)
    omega
  · simp at hx; subst hx; exact Int.le_refl _
theorem next24 {b : Bk} {a : Ab} {F : Nat → Prop} {m : Nat} (r : Int) {H : Heap} (h : AtS H b a F m) (hm : m ≤ 8000000) (hT : AbT a) (hr : RetOk r) : W env (.call 15 [.ptr b.s 0, .int .i64 r]) H (fun o H' => Ext H H' ∧ ∃ l t is, Names a l ∧ NxtV a l r t is ∧ o = .val (.tup [.int .i64 t, .bool is, .int .i64 0])) := by
  have h2 : (decide (0 ≤ r) && decide (r ≤ 1048576)) = true := by simp [hr.1, hr.2]
  refine W.fnI rfl rfl rfl ?_
  simp -implicitDefEqProofs only [ir15, op, ef, cl, sq, reduceIte, q5, q8, q9, j2, j3, j4, j5, j6, j7, S1, eqRef, nilOf]
  refine callB_of _ _ _ _ _ _ _ _ (ret30 r _) ?_
  rintro u H2 ⟨hu, rfl⟩
  cases hu
  simp -implicitDefEqProofs only [op, ef, cl, sq, reduceIte, q5, q8, q9, j2, j3, j4, j5, j6, j7, S1, h2]
  refine callB_of _ _ _ _ _ _ _ _ (keptA h hm) ?_
  rintro u H3 ⟨hx3, k, l, hko, hn, hll, hu⟩
  cases hu
  simp -implicitDefEqProofs only [op, ef, cl, sq, reduceIte, q5, q8, q9, j2, j3, j4, j5, j6, j7, S1, List.length_map]
  refine W.loopV [(1, _), (19, _), (20, _)] (fun (i : Nat) R H' => At H' (fun H' => Ext H3 H' ∧ ∃ t is, R 7 = .int .i64 t ∧ R 8 = .bool is ∧ NxtV a (l.take i) r t is) ∧ R 21 = .int .i64 i ∧ i ≤ l.length) (fun i => l.length - i) 0 ⟨.i ⟨Ext.rfl', 0, false, rfl, rfl, ⟨(by simp), fun e => (by cases e), (by simp), fun _ => rfl⟩⟩, rfl, Nat.zero_le _⟩ ?_
  rintro i R H4 ⟨⟨hx, t, is, g7, g8, hv⟩, g21, hi⟩
  by_cases hlt : i < l.length
  · obtain ⟨x, hxi⟩ := getP hlt
    have ix := iadX (e := eKA a) (n := 5) (fun _ => rfl) (by decide) (k := k) hxi
    have wsi := wrap_succ (show i < 9223372036854775807 by omega)
    have hst := hT.st ((hn.2 x).1 (List.mem_of_getElem? hxi))
    obtain ⟨st, hs⟩ : ∃ st, st = stampOf a x := ⟨_, rfl⟩
    have hs' : (vdOf (a.v x)).stamp = st := by rw [hs]; rfl
    have hw : IntKind.i64.wrap (st + r) = st + r := by
      unfold TickOk RetOk at *
      rw [wrap64 (by omega)]
    have hxx : ∀ y : B, Ext H3 (H4 ++ [y]) := fun y => hx.app _
    by_cases h0 : 0 ≤ st
    · cases is
      · simp -implicitDefEqProofs only [mkR_nil, mkR_cons, op, ef, cl, sq, reduceIte, q5, q8, q9, j2, j3, j4, j5, j6, j7, S1, S2, g7, g8, g21, hlt, natOf_nat, ix, eKA, hs', h0, hw, wsi]
        refine ⟨i + 1, by omega, .i ⟨hxx _, st + r, true, rfl, rfl, ?_⟩, rfl, by omega⟩
        rw [take_sn hxi, hs]; exact hv.take (hs ▸ h0) (fun e => by cases e)
      · by_cases hl : st + r < t
        · simp -implicitDefEqProofs only [mkR_nil, mkR_cons, op, ef, cl, sq, reduceIte, q5, q8, q9, j2, j3, j4, j5, j6, j7, S1, S2, g7, g8, g21, hlt, natOf_nat, ix, eKA, hs', h0, hl, hw, wsi]
          refine ⟨i + 1, by omega, .i ⟨hxx _, st + r, true, rfl, rfl, ?_⟩, rfl, by omega⟩
          rw [take_sn hxi, hs]; exact hv.take (hs ▸ h0) (fun _ => hs ▸ hl)
        · simp -implicitDefEqProofs only [mkR_nil, mkR_cons, op, ef, cl, sq, reduceIte, q5, q8, q9, j2, j3, j4, j5, j6, j7, S1, S2, g7, g8, g21, hlt, natOf_nat, ix, eKA, hs', h0, hl, hw, wsi]
          refine ⟨i + 1, by omega, .i ⟨hxx _, t, true, rfl, rfl, ?_⟩, rfl, by omega⟩
          rw [take_sn hxi]; exact hv.skip fun _ => ⟨rfl, by rw [← hs]; omega⟩
    · simp -implicitDefEqProofs only [mkR_nil, mkR_cons, op, ef, cl, sq, reduceIte, q5, q8, q9, j2, j3, j4, j5, j6, j7, S1, S2, g7, g8, g21, hlt, natOf_nat, ix, eKA, hs', h0, hw, wsi]
      refine ⟨i + 1, by omega, .i ⟨hxx _, t, is, rfl, rfl, ?_⟩, rfl, by omega⟩
      rw [take_sn hxi]; exact hv.skip fun h => absurd (hs ▸ h) h0
  · have hie : i = l.length := by omega
    subst hie
    rw [List.take_length] at hv
    simp -implicitDefEqProofs only [mkR_nil, mkR_cons, op, ef, cl, sq, reduceIte, q5, q8, q9, j2, j3, j4, j5, j6, j7, S1, List.length_map, g7, g8, g21, hlt]
    exact ⟨hx3.trans hx, l, t, is, hn, hv, rfl⟩
theorem nextNo (t : T) (r : Int) (H : Heap) (hp : t = .nilp ∨ ∃ b, t = .ptr b 0 ∧ ¬ RetOk r) : W env (.call 15 [t, .int .i64 r]) H (Ret (.tup [.int .i64 0, .bool false, .int .i64 1]) H) := by
  refine W.fnI rfl rfl rfl ?_
  rcases hp with rfl | ⟨b, rfl, hno⟩
  · simp -implicitDefEqProofs only [ir15, op, ef, cl, sq, reduceIte, q5, q8, q9, j2, j3, j4, j5, j6, j7, S1, eqRef, nilOf]
  have h2 : (decide (0 ≤ r) && decide (r ≤ 1048576)) = false := by
    rw [Bool.and_eq_false_iff, decide_eq_false_iff_not, decide_eq_false_iff_not]
    unfold RetOk at hno; omega
  simp -implicitDefEqProofs only [ir15, op, ef, cl, sq, reduceIte, q5, q8, q9, j2, j3, j4, j5, j6, j7, S1, eqRef, nilOf]
  refine callB_of _ _ _ _ _ _ _ _ (ret30 r _) ?_
  rintro u H2 ⟨hu, rfl⟩
  cases hu
  simp -implicitDefEqProofs only [op, ef, cl, sq, reduceIte, q5, q8, q9, j2, j3, j4, j5, j6, j7, S1, h2]
def LNames (a : Ab) (l : List ByteArray) : Prop := l.Pairwise (fun x y => strLt x y = true) ∧ ∀ k, k ∈ l ↔ (a.l k).isSome = true
def lnm (a : Ab) (k : ByteArray) : Nm := (k, a.last k)
def Few (a : Ab) : Prop := ∃ K : List ByteArray, K.length ≤ 12 ∧ ∀ k, (a.l k).isSome = true → k ∈ K
theorem lastsA {b : Bk} {a : Ab} {F : Nat → Prop} {m : Nat} {H : Heap} (h : AtS H b a F m) (hf : Few a) : W env (.call 24 [.ptr b.s 0]) H (fun o H' => Ext H H' ∧ ∃ k l, KOk k l ∧ LNames a l ∧ l.length ≤ 12 ∧ o = .val (.sl k ((l.map (lnm a)).map eW))) := by
  obtain ⟨s, sh, hi, rfl, h4, h5⟩ := h
  obtain ⟨K, hK, hk⟩ := hf
  have hl : s.ls.length ≤ 12 := by
    have := nd_le (l := s.ls.map (·.1)) (l' := K) hi.ndl fun x hx => hk x (by rw [mem_keys] at hx; exact hx)
    simp at this; omega
  refine W.use (lasts24 b s F H sh hi hl) fun o H' ⟨hx, k, l, hko, hu, hp, hpw⟩ => ⟨hx, k, l, hko, ⟨hpw, fun x => ?_⟩, ?_, ?_⟩
  · rw [hp.mem_iff, mem_keys]; rfl
  · rw [hp.length_eq]; simpa using hl
  · rw [hu, lastL, List.map_map, List.map_map]; rfl
theorem sortedS_eq : ∀ (l l' : List ByteArray), l.Pairwise (fun a b => strLt a b = true) → l'.Pairwise (fun a b => strLt a b = true) → (∀ x, x ∈ l ↔ x ∈ l') → l = l'
  | [], [], _, _, _ => rfl
  | [], b :: l', _, _, h => by have := (h b).2 (by simp); cases this
  | a :: l, [], _, _, h => by have := (h a).1 (by simp); cases this
  | a :: l, b :: l', h1, h2, h => by
    rw [List.pairwise_cons] at h1 h2
    have hab : a = b := by
      rcases List.mem_cons.1 ((h a).1 (by simp)) with e | ha
      · exact e
      · rcases List.mem_cons.1 ((h b).2 (by simp)) with e | hb
        · exact e.symm
        · have x1 := h1.1 b hb
          have x2 := h2.1 a ha
          rw [lt_asymm x1] at x2; cases x2
    subst hab
    congr 1
    refine sortedS_eq l l' h1.2 h2.2 fun x => ⟨fun hx => ?_, fun hx => ?_⟩
    · rcases List.mem_cons.1 ((h x).1 (by simp [hx])) with e | hx'
      · subst e; have := h1.1 x hx; rw [lt_irr] at this; cases this
      · exact hx'
    · rcases List.mem_cons.1 ((h x).2 (by simp [hx])) with e | hx'
      · subst e; have := h2.1 x hx; rw [lt_irr] at this; cases this
      · exact hx'
theorem LNames.uniq {a : Ab} {l l' : List ByteArray} (h : LNames a l) (h' : LNames a l') : l = l' := sortedS_eq l l' h.1 h'.1 fun m => by rw [h.2, h'.2]
def stepO (s : Ab × Int) (o : Opv) : Ab × Int :=
  if o.kind = 1 then (if (pairsO o).isEmpty = true then s.1 else s.1.put (idO o) (pairsO o) (keysO o) s.2, s.2)
  else if o.kind = 2 then (s.1.com (idO o) s.2, s.2) else (s.1, s.2 + (o.id % 8 : Nat))
theorem has_put {a : Ab} {n : Nat} {l : List (ByteArray × ByteArray)} {ks : List ByteArray} {now : Int} {m : Nm} : (a.put n l ks now).has m = (a.has m || (decide (m.2 = n) && (mlook l m.1).isSome)) := by
  simp -implicitDefEqProofs only [Ab.has, Ab.put]
  cases h : a.v m with
  | some x => simp
  | none =>
    by_cases e : m.2 = n
    · simp [e]
    · simp [e]
theorem has_com {a : Ab} {n : Nat} {now : Int} {m : Nm} : (a.com n now).has m = a.has m := by
  simp -implicitDefEqProofs only [Ab.has, Ab.com, Option.isSome_map]
theorem names63 {m : Nat} {x : ByteArray} (h : x ∈ names m) : x ∈ names 63 := by
  obtain ⟨j, h1, h2, h3⟩ := (mem_namesN 6).1 h
  refine (mem_namesN 6).2 ⟨j, h1, ?_, h3⟩
  have : ∀ j : Fin 6, (63 : Nat).testBit j = true := by decide
  exact this ⟨j, h1⟩
theorem mlook_key {α β : Type} [DecidableEq α] {es : List (α × β)} {k : α} (h : (mlook es k).isSome = true) : k ∈ es.map (·.1) := by rw [mem_keys]; exact h
theorem putO {b : Bk} {a : Ab} {F : Nat → Prop} {m : Nat} (o : Opv) (k k' : SK) (now : Int) {H : Heap} (h : AtS H b a F m) (hn : m + 6 ≤ 8000000) (hko : KOk k' (keysO o)) (ht : TickOk now) :
    W env (.call 8 [.ptr b.s 0, .int .u64 (idO o : Nat), .sl k ((pairsO o).map eP), .sl k' ((keysO o).map eS), .int .i64 now]) H (fun u H' => ∃ F', (u = if (pairsO o).isEmpty = true then .val (.tup [.bool false, .int .i64 1]) else .val (.tup [.bool (a.fresh (idO o) (pairsO o)), .int .i64 0])) ∧ AtS H' b (if (pairsO o).isEmpty = true then a else a.put (idO o) (pairsO o) (keysO o) now) F' (m + 6) ∧ Frm F H H' ∧ Gro F F' H H') := by
  have h6 := pairsO_len o
  have k6 := keysO_len o
  by_cases he : (pairsO o).isEmpty = true
  · refine W.use (putNo (idO o) k k' (pairsO o) (keysO o) now h (by omega) (by omega) fun hh => ?_) fun u H' ⟨hu, hx⟩ => ⟨F, ?_, ?_, ext_frm hx, fun c h => .inl h⟩
    · have := hh.1.2.2.1
      rw [List.isEmpty_iff.1 he] at this; simp at this
    · rw [if_pos he]; exact hu
    · rw [if_pos he]; exact (h.ext hx).le (by omega)
  · refine W.use (putA (idO o) k k' (pairsO o) (keysO o) now h (by omega) hko (may_O o fun e => he (by rw [e]; rfl)) ht) fun u H' ⟨F', hu, ha, hf, hg⟩ => ⟨F', ?_, ?_, hf, hg⟩
    · rw [if_neg he]; exact hu
    · rw [if_neg he]; exact ha.le (by omega)
theorem Gro.trans {F F' F2 : Nat → Prop} {H H' H2 : Heap} (h : Gro F F' H H') (h' : Gro F' F2 H' H2) (l1 : H.length ≤ H'.length) (l2 : H'.length ≤ H2.length) : Gro F F2 H H2 := fun c hc => by
  rcases h' c hc with hc | hc
  · rcases h c hc with hc | hc
    · exact .inl hc
    · exact .inr ⟨hc.1, by omega⟩
  · exact .inr ⟨by omega, hc.2⟩
end Go.Proofs.YtodegnhallgnkaaGreat.St
end

section
namespace Go.Proofs.YtodegnhallgnkaaGreat.St
open Go.Rmp Go.Proofs.YtodegnhallgnkaaGreat.Ir
set_option maxRecDepth 10000
structure Prv (H0 H : Heap) (b : Bk) (a : Ab) (F : Nat → Prop) (m : Nat) : Prop where
  at_ : AtS H b a F m
  frm : Frm (fun _ => False) H0 H
  new : ∀ c, F c → H0.length ≤ c ∧ c < H.length
theorem Prv.ext {H0 H H' : Heap} {b : Bk} {a : Ab} {F : Nat → Prop} {m : Nat} (h : Prv H0 H b a F m) (hx : Ext H H') : Prv H0 H' b a F m := ⟨h.at_.ext hx, h.frm.ext hx, fun c hc => by have := h.new c hc; have := hx.len; omega⟩
theorem Prv.go {H0 H H' : Heap} {b : Bk} {a a' : Ab} {F F' : Nat → Prop} {m m' : Nat} (h : Prv H0 H b a F m) (ha : AtS H' b a' F' m') (hf : Frm F H H') (hg : Gro F F' H H') : Prv H0 H' b a' F' m' := ⟨ha, h.frm.more hf fun c hc => (h.new c hc).1, fun c hc => by
  have l1 := h.frm.1
  have l2 := hf.1
  rcases hg c hc with h' | h'
  · have := h.new c h'; omega
  · omega⟩
theorem Prv.go' {H0 H H' : Heap} {b : Bk} {a a' : Ab} {F : Nat → Prop} {m m' : Nat} (h : Prv H0 H b a F m) (ha : AtS H' b a' F m') (hf : Frm F H H') : Prv H0 H' b a' F m' := h.go ha hf fun _ h => .inl h
def p1 : List (ByteArray × ByteArray) := [(tA, tX)]
def p2 : List (ByteArray × ByteArray) := [(tA, tY)]
theorem mayL1 : MayP 65536 p1 [tA] := by
  refine ⟨by decide, goodB_iff.1 (by decide +kernel), by decide, fun i hi p hp => ?_⟩
  have : i = 0 := by simp [p1] at hi; omega
  subst this
  simp [p1] at hp; subst hp
  exact ⟨fun h => by omega, by simp, by decide⟩
theorem mayL2 : MayP 131072 p2 [tA] := by
  refine ⟨by decide, goodB_iff.1 (by decide +kernel), by decide, fun i hi p hp => ?_⟩
  have : i = 0 := by simp [p2] at hi; omega
  subst this
  simp [p2] at hp; subst hp
  exact ⟨fun h => by omega, by simp, by decide⟩
def aL : Ab := (((Ab.emp.put 65536 p1 [tA] 0).com 65536 0).put 131072 p2 [tA] 1).com 131072 3
def nL : List Nm := [(tA, 65536), (tA, 131072)]
theorem namesL : Names aL nL := by
  refine ⟨by simp -implicitDefEqProofs only [nL, List.pairwise_cons]; exact ⟨fun x hx => by simp at hx; subst hx; decide +kernel, by simp⟩, fun m => ?_⟩
  simp -implicitDefEqProofs only [aL, has_com, has_put, p1, p2, mlook_cons, mlook_nil, nL, List.mem_cons, List.not_mem_nil, or_false]
  obtain ⟨k, n⟩ := m
  simp -implicitDefEqProofs only [Ab.has, Ab.emp, Prod.mk.injEq, Option.isSome_none, Bool.false_or, Bool.or_eq_true, Bool.and_eq_true, decide_eq_true_eq]
  by_cases hk : k = tA <;> simp [hk]
theorem due0 : dueL aL 12 10 nL = [] := by decide +kernel
theorem due1 : dueL aL 13 10 nL = [(tA, 65536)] := by decide +kernel
theorem stL1 : stampOf aL (tA, 65536) = 3 := by decide +kernel
theorem stL2 : stampOf aL (tA, 131072) = -1 := by decide +kernel
theorem nxtL {t : Int} {is : Bool} (h : NxtV aL nL 10 t is) : t = 13 ∧ is = true := by
  have his : is = true := h.some.2 ⟨(tA, 65536), by simp [nL], by rw [stL1]; decide⟩
  obtain ⟨m, hm, h0, e⟩ := h.on his
  simp -implicitDefEqProofs only [nL, List.mem_cons, List.not_mem_nil, or_false] at hm
  rcases hm with rfl | rfl
  · rw [stL1] at e; exact ⟨e, his⟩
  · rw [stL2] at h0; omega
theorem has0 : ∀ k, (aL.cuts [(tA, 65536)]).has (k, 65536) = false := fun k => by
  have hn := namesL.2 (k, 65536)
  simp -implicitDefEqProofs only [Ab.has, Ab.cuts]
  by_cases h : k = tA
  · subst h; rfl
  · have : memN [(tA, 65536)] (k, 65536) = false := by simp [memN, Ne.symm h]
    rw [this]
    have hh : aL.has (k, 65536) = false := by
      cases e : aL.has (k, 65536) with
      | false => rfl
      | true => have := hn.2 e; simp [nL, h] at this
    simpa [Ab.has] using hh
theorem tAL : AbT aL := (((AbT.emp.put ⟨by decide, by decide⟩).com ⟨by decide, by decide⟩).put ⟨by decide, by decide⟩).com ⟨by decide, by decide⟩
theorem alive7 (H : Heap) : W env (.call 4 []) H (RetG (.bool true) H) := by
  refine W.fnI rfl rfl rfl ?_
  simp -implicitDefEqProofs only [ir4, op, ef, cl, sq, reduceIte, q5, q8, q9, j2, j3, j4, j5, j6, j7, S1]
  refine callB_of _ _ _ _ _ _ _ _ (newA _) ?_
  rintro u H1 ⟨hx1, b, F0, hu, h1, hF0⟩
  cases hu
  have v1 : Prv H H1 b Ab.emp F0 0 := ⟨h1, ext_frm hx1, hF0⟩
  simp -implicitDefEqProofs only [op, ef, cl, sq, reduceIte, q5, q8, q9, j2, j3, j4, j5, j6, j7, S1, eqRef, nilOf]
  refine callB_of _ _ _ _ _ _ _ _ (putA 65536 .full .full p1 [tA] 0 v1.at_ (by decide) (fun h => by cases h) mayL1 ⟨by decide, by decide⟩) ?_
  rintro u H2 ⟨F2, hu, a2, f2, g2⟩
  cases hu
  have v2 := v1.go a2 f2 g2
  simp -implicitDefEqProofs only [op, ef, cl, sq, reduceIte, q5, q8, q9, j2, j3, j4, j5, j6, j7, S1]
  refine callB_of _ _ _ _ _ _ _ _ (comA 65536 0 v2.at_ (by decide) (by decide) ⟨by decide, by decide⟩) ?_
  rintro u H3 ⟨D3, _, _, hu, a3, f3⟩
  cases hu
  have v3 := v2.go' a3 f3
  simp -implicitDefEqProofs only [op, ef, cl, sq, reduceIte, q5, q8, q9, j2, j3, j4, j5, j6, j7, S1]
  refine callB_of _ _ _ _ _ _ _ _ (putA 131072 .full .full p2 [tA] 1 v3.at_ (by decide) (fun h => by cases h) mayL2 ⟨by decide, by decide⟩) ?_
  rintro u H4 ⟨F4, hu, a4, f4, g4⟩
  cases hu
  have v4 := v3.go a4 f4 g4
  simp -implicitDefEqProofs only [op, ef, cl, sq, reduceIte, q5, q8, q9, j2, j3, j4, j5, j6, j7, S1]
  refine callB_of _ _ _ _ _ _ _ _ (comA 131072 3 v4.at_ (by decide) (by decide) ⟨by decide, by decide⟩) ?_
  rintro u H5 ⟨D5, _, _, hu, a5, f5⟩
  cases hu
  have v5 : Prv H H5 b aL F4 (0 + p1.length + p2.length) := v4.go' a5 f5
  simp -implicitDefEqProofs only [op, ef, cl, sq, reduceIte, q5, q8, q9, j2, j3, j4, j5, j6, j7, S1]
  refine callB_of _ _ _ _ _ _ _ _ (due9 12 10 v5.at_ (by decide) ⟨by decide, by decide⟩ ⟨by decide, by decide⟩) ?_
  rintro u H6 ⟨x6, k6, l6, _, n6, _, hu⟩
  cases n6.uniq namesL
  cases hu
  rw [due0]
  have v6 := v5.ext x6
  simp -implicitDefEqProofs only [op, ef, cl, sq, reduceIte, q5, q8, q9, j2, j3, j4, j5, j6, j7, S1]
  refine callB_of _ _ _ _ _ _ _ _ (next24 10 v6.at_ (by decide) tAL ⟨by decide, by decide⟩) ?_
  rintro u H7 ⟨x7, l7, t7, is7, n7, hv7, hu⟩
  cases n7.uniq namesL
  cases hu
  obtain ⟨rfl, rfl⟩ := nxtL hv7
  have v7 := v6.ext x7
  simp -implicitDefEqProofs only [op, ef, cl, sq, reduceIte, q5, q8, q9, j2, j3, j4, j5, j6, j7, S1]
  refine callB_of _ _ _ _ _ _ _ _ (collect11 13 10 v7.at_ (by decide) ⟨by decide, by decide⟩ ⟨by decide, by decide⟩) ?_
  rintro u H8 ⟨k8, l8, _, n8, _, hu, a8, f8⟩
  cases n8.uniq namesL
  cases hu
  rw [due1] at a8
  rw [due1]
  have v8 := v7.go' a8 f8
  have z0 : natOf (.int .i64 0) = some 0 := rfl
  have ia : ∀ k, iadT 2 0 (.sl k [eW (tA, 65536)]) = some (.iptr (eW (tA, 65536))) := fun _ => rfl
  have ld : ∀ Hx, ldc Hx 2 (.iptr (eW (tA, 65536))) = some (eW (tA, 65536)) := fun _ => rfl
  have e1 : eqCells (eW (tA, 65536)) [T.str ⟨#[97]⟩, T.int .u64 65536] = some true := by decide +kernel
  have e2 := hasW (tA, 65536)
  simp -implicitDefEqProofs only [op, ef, cl, sq, reduceIte, q5, q8, q9, j2, j3, j4, j5, j6, j7, S1, z0, ia, ld, e1, e2]
  refine callB_of _ _ _ _ _ _ _ _ (has28 65536 v8.at_) ?_
  rintro u H9 ⟨rfl, D, hD, hDm, hu⟩
  cases hu
  have hD0 : D = [] := by
    cases D with
    | nil => rfl
    | cons x D => have := (hDm x).1 (by simp); rw [has0] at this; cases this
  subst hD0
  simp -implicitDefEqProofs only [op, ef, cl, sq, reduceIte, q5, q8, q9, j2, j3, j4, j5, j6, j7, S1, Int.cast_ofNat_Int]
  first | exact frm_ext v8.frm | simp [retg_ext (frm_ext v8.frm)]
end Go.Proofs.YtodegnhallgnkaaGreat.St
end

section
namespace Go.Proofs.YtodegnhallgnkaaGreat.St
open Go.Rmp Go.Proofs.YtodegnhallgnkaaGreat.Ir
set_option maxRecDepth 10000
theorem AtS.keys {H : Heap} {b : Bk} {a : Ab} {F : Nat → Prop} {n : Nat} (h : AtS H b a F n) : ∀ m, (vdOf (a.v m)).keys.length ≤ 1024 := fun m => by
  obtain ⟨s, _, hi, rfl, _⟩ := h
  simp -implicitDefEqProofs only [absS]
  cases e : mlook s.vs m with
  | none => simp [vdOf]
  | some x => exact (hi.kok m x e).2
theorem sameK20 (k k' : SK) (a : Ab) (l : List Nm) (hl : l.length ≤ 8000000) (hk : ∀ m, (vdOf (a.v m)).keys.length ≤ 1024) (H : Heap) : W env (.call 18 [.sl k (l.map (eKA a)), .sl k' (l.map (eKA a))]) H (RetG (.bool true) H) := by
  refine W.fnI rfl rfl rfl ?_
  simp -implicitDefEqProofs only [ir18, op, ef, cl, sq, reduceIte, q5, q8, q9, j2, j3, j4, j5, j6, j7, S1, List.length_map]
  refine W.loopV [(0, _), (1, _)] (fun (i : Nat) R H' => At H' (fun H' => Ext H H') ∧ R 5 = .int .i64 i ∧ i ≤ l.length) (fun i => l.length - i) 0 ⟨.i Ext.rfl', rfl, Nat.zero_le _⟩ ?_
  rintro i R H1 ⟨hx, g5, hi⟩
  have hx : Ext H H1 := hx
  by_cases hlt : i < l.length
  · obtain ⟨x, hxi⟩ := getP hlt
    have ix := iadX (e := eKA a) (n := 5) (fun _ => rfl) (by decide) (k := k) hxi
    have iy := iadX (e := eKA a) (n := 5) (fun _ => rfl) (by decide) (k := k') hxi
    have wsi := wrap_succ (show i < 9223372036854775807 by omega)
    have l4 : fadT 4 (.iptr (eKA a x)) = some (.iptr [.int .i64 (vdOf (a.v x)).stamp]) := rfl
    have l0 : fadT 0 (.iptr (eKA a x)) = some (.iptr (eKA a x)) := rfl
    have ld : ∀ Hx, ldc Hx 4 (.iptr (eKA a x)) = some (eVer x.1 x.2 (vdOf (a.v x)).value .arg (vdOf (a.v x)).keys) := fun _ => rfl
    simp -implicitDefEqProofs only [mkR_nil, mkR_cons, op, ef, cl, sq, reduceIte, q5, q8, q9, j2, j3, j4, j5, j6, j7, S1, List.length_map, g5, hlt, natOf_nat, ix, iy, l4, l0, ldc1, ld]
    refine callB_of _ _ _ _ _ _ _ _ (same22 x.1 x.2 _ .arg .arg _ _ (by have := hk x; omega)) ?_
    rintro u H2 ⟨hu, hx2⟩
    cases hu
    have hx2 : Ext H1 H2 := hx2
    simp -implicitDefEqProofs only [mkR_nil, mkR_cons, op, ef, cl, sq, reduceIte, q5, q8, q9, j2, j3, j4, j5, j6, j7, S1, g5, wsi]
    exact ⟨i + 1, by omega, .i (hx.trans hx2), rfl, by omega⟩
  · simp -implicitDefEqProofs only [mkR_nil, mkR_cons, op, ef, cl, sq, reduceIte, q5, q8, q9, j2, j3, j4, j5, j6, j7, S1, List.length_map, g5, hlt]
    simp -implicitDefEqProofs only [retg_ext hx]
theorem AtS.names {H : Heap} {b : Bk} {a : Ab} {F : Nat → Prop} {n : Nat} (h : AtS H b a F n) : ∃ l, Names a l ∧ l.length ≤ n := by
  obtain ⟨s, _, hi, rfl, _, hv⟩ := h
  obtain ⟨hp, hpw⟩ := sorted_listF (d := (s.vs.map (·.1)).toArray) (by simpa using hi.nd)
  refine ⟨_, ⟨hpw, fun m => ?_⟩, ?_⟩
  · rw [hp.mem_iff]
    show m ∈ (s.vs.map (·.1)).toArray.toList ↔ _
    rw [List.toList_toArray, mem_keys]; simp [Ab.has, absS]
  · rw [hp.length_eq]; simpa using hv
end Go.Proofs.YtodegnhallgnkaaGreat.St
end

section
namespace Go.Proofs.YtodegnhallgnkaaGreat.St
open Go.Rmp Go.Proofs.YtodegnhallgnkaaGreat.Ir
set_option maxRecDepth 10000
def AbS (a : Ab) : Prop := ∀ m h, a.v m = some h → (h.stamp = -1 ↔ ¬ m.2 < a.last m.1)
theorem AbS.emp : AbS Ab.emp := fun m h e => by cases e
theorem AbS.put {a : Ab} (h : AbS a) {n : Nat} {l : List (ByteArray × ByteArray)} {ks : List ByteArray} {now : Int} (ht : 0 ≤ now) : AbS (a.put n l ks now) := fun m x e => by
  have hl : (a.put n l ks now).last m.1 = a.last m.1 := rfl
  rw [hl]
  simp -implicitDefEqProofs only [Ab.put] at e
  cases h1 : a.v m with
  | some y => rw [h1] at e; cases e; exact h m _ h1
  | none =>
    rw [h1] at e
    simp only at e
    split at e
    · rename_i en
      cases h2 : mlook l m.1 with
      | none => rw [h2] at e; cases e
      | some v =>
        rw [h2] at e; cases e
        simp only
        split
        · rename_i hlt; rw [en]; constructor
          · intro; omega
          · intro hh; exact absurd hlt hh
        · rename_i hlt; rw [en]; simp [hlt]
    · cases e
theorem AbS.com {a : Ab} (h : AbS a) {n : Nat} {now : Int} (ht : 0 ≤ now) : AbS (a.com n now) := fun m x e => by
  have hl : (a.com n now).last m.1 = if a.has (m.1, n) = true ∧ a.last m.1 < n then n else a.last m.1 := by
    show (if _ then some n else a.l m.1).getD 0 = _
    by_cases hc : a.has (m.1, n) = true ∧ a.last m.1 < n
    · rw [if_pos hc, if_pos hc]; rfl
    · rw [if_neg hc, if_neg hc]; rfl
  rw [hl]
  simp -implicitDefEqProofs only [Ab.com] at e
  cases h1 : a.v m with
  | none => rw [h1] at e; cases e
  | some y =>
    have hy := h m y h1
    rw [h1] at e; simp -implicitDefEqProofs only [Option.map_some, Option.some.injEq] at e; subst e
    by_cases hc : a.has (m.1, n) = true ∧ a.last m.1 < n
    · rw [if_pos hc]
      by_cases hs : y.stamp = -1
      · by_cases hm : m.2 < n
        · rw [if_pos ⟨hs, hc.1, hc.2, hm⟩]; simp only; constructor
          · intro; omega
          · intro hh; exact absurd hm hh
        · rw [if_neg fun hh => hm hh.2.2.2]; exact ⟨fun _ => hm, fun _ => hs⟩
      · rw [if_neg fun hh => hs hh.1]
        have : m.2 < a.last m.1 := Decidable.of_not_not fun hh => hs (hy.2 hh)
        constructor
        · intro hh; exact absurd hh hs
        · intro hh; omega
    · rw [if_neg hc, if_neg fun hh => hc ⟨hh.2.1, hh.2.2.1⟩]; exact hy
theorem AbS.cuts {a : Ab} (h : AbS a) (D : List Nm) : AbS (a.cuts D) := fun m x e => by
  simp -implicitDefEqProofs only [Ab.cuts] at e
  split at e
  · cases e
  · exact h m x e
end Go.Proofs.YtodegnhallgnkaaGreat.St
end

section
namespace Go.Proofs.YtodegnhallgnkaaGreat.St
open Go.Rmp Go.Proofs.YtodegnhallgnkaaGreat.Ir
set_option maxRecDepth 10000
theorem put_0 (a : Ab) (n : Nat) (ks : List ByteArray) (now : Int) : a.put n [] ks now = a := ab_ext (fun m => by
  simp -implicitDefEqProofs only [Ab.put, mlook_nil, Option.map_none]
  cases a.v m <;> simp) fun _ => rfl
theorem put_v (a : Ab) (n : Nat) (l : List (ByteArray × ByteArray)) (ks : List ByteArray) (now : Int) (m : Nm) : (a.put n l ks now).v m = (a.v m).or (if m.2 = n then (mlook l m.1).map fun v => ⟨v, ks, if n < a.last m.1 then now else -1⟩ else none) := by
  simp -implicitDefEqProofs only [Ab.put]
  cases a.v m <;> rfl
theorem last_com (a : Ab) (n : Nat) (now : Int) (k : ByteArray) : (a.com n now).last k = if a.has (k, n) = true ∧ a.last k < n then n else a.last k := by
  show (if _ then some n else a.l k).getD 0 = _
  by_cases hc : a.has (k, n) = true ∧ a.last k < n
  · rw [if_pos hc, if_pos hc]; rfl
  · rw [if_neg hc, if_neg hc]; rfl
end Go.Proofs.YtodegnhallgnkaaGreat.St
end

section
namespace Go.Proofs.YtodegnhallgnkaaGreat.St
open Go.Rmp Go.Proofs.YtodegnhallgnkaaGreat.Ir
set_option maxRecDepth 10000
structure Kd where
  key : ByteArray
  id : Nat
  value : ByteArray
  kk : SK
  keys : List ByteArray
  stamp : Int
def Kd.nm (x : Kd) : Nm := (x.key, x.id)
def Kd.vd (x : Kd) : Vd := ⟨x.value, x.keys, x.stamp⟩
def eKd (x : Kd) : List T := [.str x.key, .int .u64 x.id, .str x.value, .sl x.kk (x.keys.map eS), .int .i64 x.stamp]
end Go.Proofs.YtodegnhallgnkaaGreat.St
end

section
namespace Go.Proofs.YtodegnhallgnkaaGreat.St
open Go.Rmp Go.Proofs.YtodegnhallgnkaaGreat.Ir
set_option maxRecDepth 10000
def lastsUp (ls : List Nm) : Prop := ls.Pairwise (fun a b => strLt a.1 b.1 = true)
def keptUp (l : List Kd) : Prop := l.Pairwise (fun x y => ltM x.nm y.nm = true)
def kdL (l : List Kd) : List (Nm × Vd) := l.map fun x => (x.nm, x.vd)
def ldAb (kept : List Kd) (lasts : List Nm) : Ab := ⟨fun m => mlook (kdL kept) m, fun k => mlook lasts k⟩
theorem lastsUp.nd {ls : List Nm} (h : lastsUp ls) : (ls.map (·.1)).Nodup := List.pairwise_map.2 (h.imp fun {a b} hab e => by rw [e, lt_irr] at hab; cases hab)
theorem kdL_key (l : List Kd) : (kdL l).map (·.1) = l.map Kd.nm := by simp [kdL, Function.comp_def]
theorem keptUp.nd {l : List Kd} (h : keptUp l) : (l.map Kd.nm).Nodup := List.pairwise_map.2 (h.imp fun {a b} hab e => by rw [e, ltM_irr] at hab; cases hab)
theorem mlook_in {α β : Type} [DecidableEq α] {es : List (α × β)} {k : α} {v : β} (h : mlook es k = some v) : (k, v) ∈ es := by
  induction es with
  | nil => cases h
  | cons e es ih =>
    rw [mlook_cons] at h
    split at h
    · rename_i e2; cases h; rw [e2]; exact List.mem_cons_self
    · exact List.mem_cons_of_mem _ (ih h)
end Go.Proofs.YtodegnhallgnkaaGreat.St
end

section
namespace Go.Proofs.YtodegnhallgnkaaGreat.St
open Go.Rmp Go.Proofs.YtodegnhallgnkaaGreat.Ir
set_option maxRecDepth 10000
def AbG (a : Ab) : Prop := ∀ m h, a.v m = some h → 65536 ≤ m.2 ∧ GoodKeys h.keys ∧ m.1 ∈ h.keys ∧ h.value.size ≤ 65535
structure AbW (a : Ab) : Prop where
  S : AbS a
  T : AbT a
  G : AbG a
  L : ∀ k n, a.l k = some n → a.has (k, n) = true
theorem AbW.emp : AbW Ab.emp := ⟨AbS.emp, fun m h e => (by cases e), fun m h e => (by cases e), fun k n e => (by cases e)⟩
theorem put_some {a : Ab} {n : Nat} {l : List (ByteArray × ByteArray)} {ks : List ByteArray} {now : Int} {m : Nm} {x : Vd} (h : (a.put n l ks now).v m = some x) : a.v m = some x ∨ (m.2 = n ∧ ∃ v, (m.1, v) ∈ l ∧ x = ⟨v, ks, if n < a.last m.1 then now else -1⟩) := by
  rw [put_v] at h
  cases h1 : a.v m with
  | some y => rw [h1] at h; exact .inl h
  | none =>
    rw [h1] at h
    simp -implicitDefEqProofs only [Option.none_or] at h
    split at h
    · rename_i e
      cases h2 : mlook l m.1 with
      | none => rw [h2] at h; cases h
      | some v => rw [h2] at h; cases h; exact .inr ⟨e, v, mlook_in h2, rfl⟩
    · cases h
theorem com_some {a : Ab} {n : Nat} {now : Int} {m : Nm} {x : Vd} (h : (a.com n now).v m = some x) : ∃ y, a.v m = some y ∧ x.value = y.value ∧ x.keys = y.keys ∧ (x.stamp = y.stamp ∨ x.stamp = now) := by
  simp -implicitDefEqProofs only [Ab.com] at h
  cases h1 : a.v m with
  | none => rw [h1] at h; cases h
  | some y =>
    rw [h1] at h; simp -implicitDefEqProofs only [Option.map_some, Option.some.injEq] at h; subst h
    refine ⟨y, rfl, ?_⟩
    split
    · exact ⟨rfl, rfl, .inr rfl⟩
    · exact ⟨rfl, rfl, .inl rfl⟩
theorem may_mem {n : Nat} {l : List (ByteArray × ByteArray)} {ks : List ByteArray} (h : MayP n l ks) {p : ByteArray × ByteArray} (hp : p ∈ l) : p.1 ∈ ks ∧ p.2.size ≤ 65535 := by
  obtain ⟨i, hi, e⟩ := List.getElem_of_mem hp
  exact (h.2.2.2 i hi p (by rw [List.getElem?_eq_getElem hi, e])).2
theorem AbW.put {a : Ab} (h : AbW a) {n : Nat} {l : List (ByteArray × ByteArray)} {ks : List ByteArray} {now : Int} (hm : MayP n l ks) (ht : TickOk now) : AbW (a.put n l ks now) := by
  refine ⟨h.S.put ht.1, fun m x e => ?_, fun m x e => ?_, fun k n' e => ?_⟩
  · rcases put_some e with e | ⟨_, v, _, rfl⟩
    · exact h.T m x e
    · simp only; split
      · exact .inr ht
      · exact .inl rfl
  · rcases put_some e with e | ⟨rfl, v, hv, rfl⟩
    · exact h.G m x e
    · have := may_mem hm hv
      exact ⟨hm.1, hm.2.1, this.1, this.2⟩
  · rw [has_put, h.L k n' e]; rfl
theorem AbW.com {a : Ab} (h : AbW a) {n : Nat} {now : Int} (ht : TickOk now) : AbW (a.com n now) := by
  refine ⟨h.S.com ht.1, fun m x e => ?_, fun m x e => ?_, fun k n' e => ?_⟩
  · obtain ⟨y, hy, _, _, hs⟩ := com_some e
    rcases hs with hs | hs
    · rw [hs]; exact h.T m y hy
    · rw [hs]; exact .inr ht
  · obtain ⟨y, hy, h1, h2, _⟩ := com_some e
    rw [h1, h2]; exact h.G m y hy
  · rw [has_com]
    simp -implicitDefEqProofs only [Ab.com] at e
    split at e
    · rename_i hc; cases e; exact hc.1
    · exact h.L k n' e
end Go.Proofs.YtodegnhallgnkaaGreat.St
end

section
namespace Go.Proofs.YtodegnhallgnkaaGreat.St
open Go.Rmp Go.Proofs.YtodegnhallgnkaaGreat.Ir
set_option maxRecDepth 10000
theorem rid68 (n : Nat) (H : Heap) : W env (.call 36 [.int .u64 n]) H (Ret (.bool (decide (65536 ≤ n))) H) := by
  refine W.fnI rfl rfl rfl ?_
  simp -implicitDefEqProofs only [ir36, op, ef, cl, sq, reduceIte, q5, q8, q9, j2, j3, j4, j5, j6, j7, S1]
theorem rtick71 (now : Int) (H : Heap) : W env (.call 33 [.int .i64 now]) H (Ret (.bool (decide (0 ≤ now) && decide (now ≤ 1099511627776))) H) := by
  refine W.fnI rfl rfl rfl ?_
  cases h : decide (0 ≤ now) <;> simp -implicitDefEqProofs only [ir33, op, ef, cl, sq, reduceIte, q5, q8, q9, j2, j3, j4, j5, j6, j7, S1, h, Bool.false_and]
theorem rhas70 (k : SK) (l : List ByteArray) (x : ByteArray) (H : Heap) (hl : l.length ≤ 16777216) : W env (.call 55 [.sl k (l.map eS), .str x]) H (Ret (.bool (memB l x)) H) := by
  refine W.fnI rfl rfl rfl ?_
  simp -implicitDefEqProofs only [ir55, op, ef, cl, sq, reduceIte, q5, q8, q9, j2, j3, j4, j5, j6, j7, S1]
  refine W.loopV [(0, _), (1, _)] (fun (i : Nat) R H' => H' = H ∧ R 5 = .int .i64 i ∧ i ≤ l.length ∧ x ∉ l.take i) (fun i => l.length - i) 0 ⟨rfl, rfl, Nat.zero_le _, by simp⟩ ?_
  rintro i R H1 ⟨rfl, g5, hi, hno⟩
  by_cases hlt : i < l.length
  · obtain ⟨y, hy⟩ := getP hlt
    have iy := iadX (e := eS) (n := 1) (fun _ => rfl) (by decide) (k := k) hy
    have wsi := wrap_succ (show i < 9223372036854775807 by omega)
    by_cases h : y = x
    · have hm : memB l x = true := memB_iff.2 (h ▸ List.mem_of_getElem? hy)
      simp -implicitDefEqProofs only [mkR_nil, mkR_cons, op, ef, cl, sq, reduceIte, q5, q8, q9, j2, j3, j4, j5, j6, j7, S1, List.length_map, g5, hlt, natOf_nat, iy, eS, h, hm]
    · simp -implicitDefEqProofs only [mkR_nil, mkR_cons, op, ef, cl, sq, reduceIte, q5, q8, q9, j2, j3, j4, j5, j6, j7, S1, List.length_map, g5, hlt, natOf_nat, iy, eS, h, wsi]
      refine ⟨i + 1, by omega, rfl, hlt, ?_⟩
      rw [take_sn hy]; simp [hno, Ne.symm h]
  · have hie : i = l.length := by omega
    subst hie
    rw [List.take_length] at hno
    have hm : memB l x = false := memB_no.2 hno
    simp -implicitDefEqProofs only [mkR_nil, mkR_cons, op, ef, cl, sq, reduceIte, q5, q8, q9, j2, j3, j4, j5, j6, j7, S1, List.length_map, g5, hlt, hm]
def lensB (l : List ByteArray) : Bool := l.all (fun x => decide (x.size ≤ 65535)) && (decide (1 ≤ l.length) && decide (l.length ≤ 1024))
theorem rlen92 (k : SK) (l : List ByteArray) (H : Heap) (hl : l.length ≤ 16777216) : W env (.call 74 [.sl k (l.map eS)]) H (Ret (.bool (lensB l)) H) := by
  refine W.fnI rfl rfl rfl ?_
  simp -implicitDefEqProofs only [ir74, op, ef, cl, sq, reduceIte, q5, q8, q9, j2, j3, j4, j5, j6, j7, S1]
  refine W.loopV [(0, _)] (fun (i : Nat) R H' => H' = H ∧ R 3 = .int .i64 i ∧ i ≤ l.length ∧ (l.take i).all (fun x => decide (x.size ≤ 65535)) = true) (fun i => l.length - i) 0 ⟨rfl, rfl, Nat.zero_le _, by simp⟩ ?_
  rintro i R H1 ⟨rfl, g3, hi, hall⟩
  by_cases hlt : i < l.length
  · obtain ⟨y, hy⟩ := getP hlt
    have iy := iadX (e := eS) (n := 1) (fun _ => rfl) (by decide) (k := k) hy
    have wsi := wrap_succ (show i < 9223372036854775807 by omega)
    by_cases h : 65535 < y.size
    · have hf : lensB l = false := by
        unfold lensB
        have : l.all (fun x => decide (x.size ≤ 65535)) = false := List.all_eq_false.2 ⟨y, List.mem_of_getElem? hy, by simp; omega⟩
        rw [this]; rfl
      simp -implicitDefEqProofs only [mkR_nil, mkR_cons, op, ef, cl, sq, reduceIte, q5, q8, q9, j2, j3, j4, j5, j6, j7, S1, List.length_map, g3, hlt, natOf_nat, iy, eS, h, hf]
    · simp -implicitDefEqProofs only [mkR_nil, mkR_cons, op, ef, cl, sq, reduceIte, q5, q8, q9, j2, j3, j4, j5, j6, j7, S1, List.length_map, g3, hlt, natOf_nat, iy, eS, h, wsi]
      refine ⟨i + 1, by omega, rfl, hlt, ?_⟩
      rw [take_sn hy, List.all_append, hall]; simp; omega
  · have hie : i = l.length := by omega
    subst hie
    rw [List.take_length] at hall
    have hf : lensB l = (decide (1 ≤ l.length) && decide (l.length ≤ 1024)) := by unfold lensB; rw [hall]; rfl
    by_cases h1 : 1 ≤ l.length
    · simp -implicitDefEqProofs only [mkR_nil, mkR_cons, op, ef, cl, sq, reduceIte, q5, q8, q9, j2, j3, j4, j5, j6, j7, S1, List.length_map, g3, hlt, hf, h1]
    · simp -implicitDefEqProofs only [mkR_nil, mkR_cons, op, ef, cl, sq, reduceIte, q5, q8, q9, j2, j3, j4, j5, j6, j7, S1, List.length_map, g3, hlt, hf, h1, Bool.false_and]
theorem rris93 (k : SK) (l : List ByteArray) (H : Heap) (hl : l.length ≤ 16777216) : W env (.call 75 [.sl k (l.map eS)]) H (Ret (.bool (rises l)) H) := by
  refine W.fnI rfl rfl rfl ?_
  simp -implicitDefEqProofs only [ir75, op, ef, cl, sq, reduceIte, q5, q8, q9, j2, j3, j4, j5, j6, j7, S1]
  refine W.loopV [(0, _)] (fun (i : Nat) R H' => H' = H ∧ R 3 = .int .i64 ((i : Nat) + 1 : Nat) ∧ ∀ j, j < i → ∀ a b, l[j]? = some a → l[j + 1]? = some b → strLt a b = true) (fun i => l.length - i) 0 ⟨rfl, rfl, fun j h => by omega⟩ ?_
  rintro i R H1 ⟨rfl, g3, hall⟩
  by_cases hlt : i + 1 < l.length
  · obtain ⟨y, hy⟩ := getP hlt
    obtain ⟨z, hz⟩ := getP (l := l) (i := i) (by omega)
    have iy := iadX (e := eS) (n := 1) (fun _ => rfl) (by decide) (k := k) hy
    have iz := iadX (e := eS) (n := 1) (fun _ => rfl) (by decide) (k := k) hz
    have wsi := wrap_succ (show i + 1 < 9223372036854775807 by omega)
    have wp := wrap_pred (show i + 1 < 9223372036854775807 by omega) (by omega)
    simp -implicitDefEqProofs only [Nat.add_sub_cancel] at wp
    cases h : strLt z y
    · have hf : rises l = false := by
        cases e : rises l with
        | false => rfl
        | true => have := (rises_iff l).1 e i z y hz hy; rw [h] at this; cases this
      simp -implicitDefEqProofs only [mkR_nil, mkR_cons, op, ef, cl, sq, reduceIte, q5, q8, q9, j2, j3, j4, j5, j6, j7, S1, List.length_map, g3, hlt, natOf_nat, wp, iy, iz, eS, h, hf]
    · simp -implicitDefEqProofs only [mkR_nil, mkR_cons, op, ef, cl, sq, reduceIte, q5, q8, q9, j2, j3, j4, j5, j6, j7, S1, List.length_map, g3, hlt, natOf_nat, wp, iy, iz, eS, h, wsi]
      refine ⟨i + 1, by omega, rfl, fun j hj a b ha hb => ?_⟩
      by_cases e : j = i
      · subst e; rw [hz] at ha; rw [hy] at hb; cases ha; cases hb; exact h
      · exact hall j (by omega) a b ha hb
  · have hr : rises l = true := (rises_iff l).2 fun j a b ha hb => hall j (by have := (List.getElem?_eq_some_iff.1 hb).1; omega) a b ha hb
    simp -implicitDefEqProofs only [mkR_nil, mkR_cons, op, ef, cl, sq, reduceIte, q5, q8, q9, j2, j3, j4, j5, j6, j7, S1, List.length_map, g3, hlt, hr]
theorem rwhole69 (k : SK) (l : List ByteArray) (H : Heap) (hl : l.length ≤ 16777216) : W env (.call 54 [.sl k (l.map eS)]) H (Ret (.bool (goodB l)) H) := by
  have hg : goodB l = (lensB l && rises l) := by
    unfold goodB lensB
    cases rises l <;> cases l.all (fun x => decide (x.size ≤ 65535)) <;> cases decide (1 ≤ l.length) <;> cases decide (l.length ≤ 1024) <;> rfl
  refine W.fnI rfl rfl rfl ?_
  simp -implicitDefEqProofs only [ir54, op, ef, cl, sq, reduceIte, q5, q8, q9, j2, j3, j4, j5, j6, j7, S1]
  refine callB_of _ _ _ _ _ _ _ _ (rlen92 k l _ hl) ?_
  rintro u H1 ⟨hu, rfl⟩
  cases hu
  cases h : lensB l
  · rw [h, Bool.false_and] at hg
    simp -implicitDefEqProofs only [op, ef, cl, sq, reduceIte, q5, q8, q9, j2, j3, j4, j5, j6, j7, S1, hg]
  · rw [h, Bool.true_and] at hg
    simp -implicitDefEqProofs only [op, ef, cl, sq, reduceIte, q5, q8, q9, j2, j3, j4, j5, j6, j7, S1]
    refine callB_of _ _ _ _ _ _ _ _ (rris93 k l _ hl) ?_
    rintro u H2 ⟨hu, rfl⟩
    cases hu
    simp -implicitDefEqProofs only [op, ef, cl, sq, reduceIte, q5, q8, q9, j2, j3, j4, j5, j6, j7, S1, hg]
theorem ltM_eq (a b : Nm) : ltM a b = (strLt a.1 b.1 || (decide (a.1 = b.1) && decide (a.2 < b.2))) := by
  rw [Bool.eq_iff_iff, ltM_iff]; simp
theorem rless32 (a b : Nm) (va vb ka kb : T) (ha : va.one = true ∧ vb.one = true ∧ ka.one = true ∧ kb.one = true) (H : Heap) : W env (.call 56 [.agg [.str a.1, .int .u64 a.2, va, ka], .agg [.str b.1, .int .u64 b.2, vb, kb]]) H (RetG (.bool (ltM a b)) H) := by
  have hl := ltM_eq a b
  have c0 : ∀ x y : B, (H ++ [x] ++ [y])[H.length]? = some x := fun x y => by rw [g_app (by simp), g_tail rfl]
  have ce : ∀ l : List T, (T.agg l).cells? = some l := fun _ => rfl
  refine W.fnI rfl rfl rfl ?_
  cases h1 : strLt a.1 b.1
  · by_cases h2 : a.1 = b.1
    · rw [h1] at hl
      simp -implicitDefEqProofs only [h2, decide_true, Bool.true_and, Bool.false_or] at hl
      rw [h2] at h1
      simp -implicitDefEqProofs only [ir56, op, ef, cl, sq, reduceIte, q5, q8, q9, j2, j3, j4, j5, j6, j7, S1, S2, S3, c0, h1, h2, hl, retg_ext ((Ext.rfl'.app _).app _)]
    · rw [h1] at hl
      simp -implicitDefEqProofs only [h2, decide_false, Bool.false_and, Bool.false_or] at hl
      simp -implicitDefEqProofs only [ir56, op, ef, cl, sq, reduceIte, q5, q8, q9, j2, j3, j4, j5, j6, j7, S1, S2, S3, c0, h1, h2, hl, retg_ext ((Ext.rfl'.app _).app _)]
  · rw [h1, Bool.true_or] at hl
    simp -implicitDefEqProofs only [ir56, op, ef, cl, sq, reduceIte, q5, q8, q9, j2, j3, j4, j5, j6, j7, S1, S2, S3, c0, h1, hl, retg_ext ((Ext.rfl'.app _).app _)]
end Go.Proofs.YtodegnhallgnkaaGreat.St
end

section
namespace Go.Proofs.YtodegnhallgnkaaGreat.St
open Go.Rmp Go.Proofs.YtodegnhallgnkaaGreat.Ir
set_option maxRecDepth 10000
theorem mut_frm {α : Type} {enc : α → List T} {n n0 : Nat} {H H' : Heap} {G : Nat → Prop} {t : T} {l : List α} (h : Mut enc n n0 H t l) (hf : Frm G H H') (hg : ∀ c, tb t = some c → ¬ G c) : Mut enc n n0 H' t l := by
  rcases h with h | ⟨c, rfl, hc, h0⟩
  · exact .inl h
  · exact .inr ⟨c, rfl, hf.get hc (hg c rfl), h0⟩
theorem mut_blk {α : Type} {enc : α → List T} {n n0 : Nat} {H : Heap} {t : T} {l : List α} (h : Mut enc n n0 H t l) {c : Nat} (hc : tb t = some c) : H[c]? = some (.cells (msC enc l)) := by
  rcases h with ⟨_, rfl⟩ | ⟨c', rfl, hc', _⟩
  · cases hc
  · cases hc; exact hc'
theorem stayM_frm {n0 : Nat} {H H' : Heap} {t : T} (h : StayM n0 H t H') : Frm (fun c => tb t = some c) H H' := ⟨h.len, fun c hc hg => by
  have hx : H[c]? = some H[c] := List.getElem?_eq_getElem hc
  rw [hx]
  exact h.get c _ hx fun off len n e => hg (by rw [e]; rfl)⟩
theorem fgt_mut {α : Type} {enc : α → List T} {n n0 : Nat} {H : Heap} {t : T} {l : List α} (h : Mut enc n n0 H t l) : fgt t = t := by
  rcases h with ⟨_, rfl⟩ | ⟨c, rfl, _⟩ <;> rfl
theorem len_mut {α : Type} {enc : α → List T} {n n0 : Nat} {H : Heap} {t : T} {l : List α} (h : Mut enc n n0 H t l) : ∀ Hx, lenT Hx .sl t = some l.length := fun Hx => by
  rcases h with ⟨e, rfl⟩ | ⟨c, rfl, _, _⟩
  · rw [e]; rfl
  · rfl
def mapTo {α : Type} (f : α → α) (l : List α) (i : Nat) : List α := (l.take i).map f ++ l.drop i
section
variable {α : Type} {f : α → α} {l : List α} {i : Nat} {x : α}
theorem mapTo_0 : mapTo f l 0 = l := by simp [mapTo]
theorem mapTo_len : (mapTo f l i).length = l.length := by simp [mapTo]; omega
theorem mapTo_end : mapTo f l l.length = l.map f := by simp [mapTo]
theorem drop_at (h : l[i]? = some x) : l.drop i = x :: l.drop (i + 1) := by
  obtain ⟨hi, e⟩ := List.getElem?_eq_some_iff.1 h
  rw [← e]; exact List.drop_eq_getElem_cons hi
theorem mapTo_get (h : l[i]? = some x) : (mapTo f l i)[i]? = some x := by
  have hi := (List.getElem?_eq_some_iff.1 h).1
  unfold mapTo
  rw [List.getElem?_append_right (by simp; omega), drop_at h]
  have : i - ((l.take i).map f).length = 0 := by simp; omega
  rw [this]; rfl
theorem mapTo_set (h : l[i]? = some x) : (mapTo f l i).set i (f x) = mapTo f l (i + 1) := by
  have hi := (List.getElem?_eq_some_iff.1 h).1
  unfold mapTo
  rw [take_sn h, drop_at h, List.set_append_right _ _ (by simp; omega)]
  have : i - ((l.take i).map f).length = 0 := by simp; omega
  rw [this]; simp
theorem mapTo_same (h : l[i]? = some x) (e : f x = x) : mapTo f l (i + 1) = mapTo f l i := by
  rw [← mapTo_set h, e]
  refine List.ext_getElem? fun j => ?_
  rw [List.getElem?_set]
  split
  · rename_i hj; subst hj
    rw [mapTo_get h]
    have hi := (List.getElem?_eq_some_iff.1 h).1
    rw [mapTo_len, if_pos hi]
  · rfl
end
theorem tb_of {α : Type} {enc : α → List T} {n n0 : Nat} {H : Heap} {t : T} {l : List α} {i c q : Nat} {x : α} (h : Mut enc n n0 H t l) (hx : l[i]? = some x) (hi : iadT n i t = some (.ptr c q)) (h0 : n ≠ 0) : tb t = some c := by
  rcases h with ⟨e, _⟩ | ⟨c', e1, _, _⟩
  · rw [e] at hx; cases hx
  · rw [e1, iad_m] at hi
    split at hi
    · simp -implicitDefEqProofs only [Option.some.injEq, T.ptr.injEq] at hi
      rw [e1, ← hi.1]; rfl
    · cases hi
theorem appM_any {α : Type} {enc : α → List T} {n : Nat} (hn : ∀ x, (enc x).length = n) {H : Heap} {t : T} {l : List α} {bytes : Nat} (new : List α) (h : Mut enc n 0 H t l) (hr : roomOk (l.length + new.length) bytes = true) :
    ∃ t' H', appM H n bytes t (new.map enc) = some (t', H') ∧ Mut enc n 0 H' t' (l ++ new) ∧ Frm (fun c => tb t = some c) H H' ∧ ∀ c, tb t' = some c → (tb t = some c ∧ new = []) ∨ H.length ≤ c := by
  by_cases he : new = []
  · subst he
    refine ⟨t, H, ?_, by simpa using h, Frm.refl _ _, fun c hc => .inl ⟨hc, rfl⟩⟩
    have : isSlT t = true := by rcases h with ⟨_, rfl⟩ | ⟨c, rfl, _⟩ <;> rfl
    simp [appM, this]
  · obtain ⟨t', H', ha, hm, hst⟩ := appM_ok (enc := enc) (n := n) (n0 := 0) hn (bytes := bytes) new h (Nat.zero_le _) he hr
    refine ⟨t', H', ha, hm, stayM_frm hst, fun c hc => .inr ?_⟩
    rcases hm with ⟨e, _⟩ | ⟨c', rfl, _, _⟩
    · simp at e; exact absurd e.2 he
    · cases hc; exact appM_fr ha (by simpa using he)
theorem elems_sub {α : Type} {enc : α → List T} {n : Nat} (hn : ∀ x, (enc x).length = n) {H : Heap} {b : Nat} {xs : List α} (hb : H[b]? = some (.cells (msC enc xs))) (j k : Nat) (hjk : j + k ≤ xs.length) : elemsOf H n (.msl b (j * n) k n) = some (((xs.drop j).take k).map enc) := (elemsK_ms hn hb j k k 0 hjk).1
structure RC (H : Heap) (p : Nat) (tK tL : T) (K : List Kd) (L : List Nm) (G : Nat → Prop) : Prop where
  hp : H[p]? = some (.cells [tK, tL])
  mK : Mut eKd 5 0 H tK K
  mL : Mut eW 2 0 H tL L
  gp : G p
  gK : ∀ c, tb tK = some c → G c ∧ c ≠ p
  gL : ∀ c, tb tL = some c → G c ∧ c ≠ p
  ne : ∀ c, tb tK = some c → tb tL = some c → False
  ko : ∀ x ∈ K, x.kk = .arg ∧ x.keys.length ≤ 1024
theorem RC.frm {H H' : Heap} {p : Nat} {tK tL : T} {K : List Kd} {L : List Nm} {G D : Nat → Prop} (h : RC H p tK tL K L G) (hf : Frm D H H') (hd : ∀ c, G c → c < H.length → ¬ D c) : RC H' p tK tL K L G :=
  ⟨hf.get h.hp (hd p h.gp (glt h.hp)), mut_frm h.mK hf fun c hc => hd c (h.gK c hc).1 (glt (mut_blk h.mK hc)), mut_frm h.mL hf fun c hc => hd c (h.gL c hc).1 (glt (mut_blk h.mL hc)), h.gp, h.gK, h.gL, h.ne, h.ko⟩
theorem RC.ext {H H' : Heap} {p : Nat} {tK tL : T} {K : List Kd} {L : List Nm} {G : Nat → Prop} (h : RC H p tK tL K L G) (hx : Ext H H') : RC H' p tK tL K L G := h.frm (ext_frm (F := fun _ => False) hx) fun _ _ _ h => h
def fiK (K : List Kd) (m : Nm) : Nat := (K.takeWhile fun x => ltM x.nm m).length
theorem tw_len {α : Type} {p : α → Bool} : ∀ {l : List α} {i : Nat}, (∀ j x, j < i → l[j]? = some x → p x = true) → i ≤ l.length → (∀ x, l[i]? = some x → p x = false) → (l.takeWhile p).length = i
  | [], i, _, hi, _ => by simp at hi; subst hi; rfl
  | x :: l, 0, _, _, h => by have := h x rfl; simp [List.takeWhile_cons, this]
  | x :: l, i + 1, h1, hi, h2 => by
    have hx := h1 0 x (by omega) rfl
    simp -implicitDefEqProofs only [List.takeWhile_cons, hx, if_true, List.length_cons]
    rw [tw_len (i := i) (fun j y hj hy => h1 (j + 1) y (Nat.succ_lt_succ hj) (by simpa using hy)) (by simpa using hi) (fun y hy => h2 y (by simpa using hy))]
theorem tw_lt {α : Type} {p : α → Bool} : ∀ {l : List α} {j : Nat} {x : α}, j < (l.takeWhile p).length → l[j]? = some x → p x = true
  | [], j, x, h, _ => by simp at h
  | y :: l, j, x, h, hx => by
    simp -implicitDefEqProofs only [List.takeWhile_cons] at h
    cases hy : p y
    · rw [hy] at h; simp at h
    · rw [hy] at h
      cases j with
      | zero => cases hx; exact hy
      | succ j => exact tw_lt (j := j) (by simpa using h) (by simpa using hx)
theorem tw_at {α : Type} {p : α → Bool} : ∀ {l : List α} {x : α}, l[(l.takeWhile p).length]? = some x → p x = false
  | [], x, h => by simp at h
  | y :: l, x, h => by
    simp -implicitDefEqProofs only [List.takeWhile_cons] at h
    cases hy : p y
    · rw [hy] at h; simp at h; subst h; exact hy
    · rw [hy] at h; simp at h; exact tw_at h
theorem tw_le {α : Type} (p : α → Bool) : ∀ l : List α, (l.takeWhile p).length ≤ l.length
  | [] => by simp
  | y :: l => by
    simp -implicitDefEqProofs only [List.takeWhile_cons]
    split
    · have := tw_le p l; simp; omega
    · simp
theorem fiK_mem {K : List Kd} (hs : keptUp K) (m : Nm) : memN (K.map Kd.nm) m = true ↔ ∃ x, K[fiK K m]? = some x ∧ x.nm = m := by
  rw [memN_iff, List.mem_map]
  constructor
  · rintro ⟨x, hx, rfl⟩
    obtain ⟨j, hj, e⟩ := List.getElem_of_mem hx
    refine ⟨x, ?_, rfl⟩
    have : fiK K x.nm = j := tw_len (fun i y hi hy => by
      have := List.pairwise_iff_getElem.1 hs i j (List.getElem?_eq_some_iff.1 hy).1 hj hi
      rw [(List.getElem?_eq_some_iff.1 hy).2, e] at this; exact this) (Nat.le_of_lt hj) (fun y hy => by
      rw [List.getElem?_eq_getElem hj, e] at hy; cases hy; exact ltM_irr _)
    rw [this, List.getElem?_eq_getElem hj, e]
  · rintro ⟨x, hx, e⟩; exact ⟨x, List.mem_of_getElem? hx, e⟩
theorem rlast56 {H : Heap} {p : Nat} {tK tL : T} {K : List Kd} {L : List Nm} {G : Nat → Prop} (h : RC H p tK tL K L G) (hl : L.length ≤ 8000000) (k : ByteArray) : W env (.call 35 [.ptr p 0, .str k]) H (Ret (.int .u64 ((ldAb K L).last k : Nat)) H) := by
  have hlen := len_mut h.mL
  have hlast : ∀ ls : List Nm, (ldAb K ls).last k = (mlook ls k).getD 0 := fun _ => rfl
  refine W.fnI rfl rfl rfl ?_
  simp -implicitDefEqProofs only [ir35, op, ef, cl, sq, reduceIte, q5, q8, q9, j2, j3, j4, j5, j6, j7, S1]
  refine W.loopV [(0, _), (1, _)] (fun (i : Nat) R H' => H' = H ∧ R 5 = .int .i64 i ∧ i ≤ L.length ∧ mlook L k = mlook (L.drop i) k) (fun i => L.length - i) 0 ⟨rfl, rfl, Nat.zero_le _, by simp⟩ ?_
  rintro i R H1 ⟨rfl, g5, hi, hno⟩
  by_cases hlt : i < L.length
  · obtain ⟨x, hx⟩ := getP hlt
    obtain ⟨c, hc, ia, _⟩ := mut_n (enc := eW) (n := 2) (fun _ => rfl) (by decide) h.mL hx
    have wsi := wrap_succ (show i < 9223372036854775807 by omega)
    have r0 : ldcB 1 (i * 2 + 0) (some (.cells (msC eW L))) = some [.str x.1] := msC_get (enc := eW) (n := 2) (fun _ => rfl) hx 0 1 (by decide)
    have r1 : ldcB 1 (i * 2 + 1) (some (.cells (msC eW L))) = some [.int .u64 x.2] := msC_get (enc := eW) (n := 2) (fun _ => rfl) hx 1 1 (by decide)
    have he : mlook (L.drop i) k = if k = x.1 then some x.2 else mlook (L.drop (i + 1)) k := by
      rw [drop_at hx, mlook_cons]
    by_cases h1 : x.1 = k
    · rw [if_pos h1.symm] at he
      have : (ldAb K L).last k = x.2 := by rw [hlast, hno, he]; rfl
      simp -implicitDefEqProofs only [mkR_nil, mkR_cons, op, ef, cl, sq, reduceIte, q5, q8, q9, j2, j3, j4, j5, j6, j7, S1, h.hp, hlen, g5, hlt, natOf_nat, ia, hc, r0, r1, h1, this]
    · rw [if_neg fun h => h1 h.symm] at he
      simp -implicitDefEqProofs only [mkR_nil, mkR_cons, op, ef, cl, sq, reduceIte, q5, q8, q9, j2, j3, j4, j5, j6, j7, S1, h.hp, hlen, g5, hlt, natOf_nat, ia, hc, r0, r1, h1, wsi]
      exact ⟨i + 1, by omega, rfl, hlt, by rw [hno, he]⟩
  · have hie : i = L.length := by omega
    subst hie
    have : (ldAb K L).last k = 0 := by rw [hlast, hno, List.drop_length]; rfl
    simp -implicitDefEqProofs only [mkR_nil, mkR_cons, op, ef, cl, sq, reduceIte, q5, q8, q9, j2, j3, j4, j5, j6, j7, S1, h.hp, hlen, g5, hlt, this]
    rfl
set_option maxHeartbeats 1000000 in
theorem rfind34 {H : Heap} {p : Nat} {tK tL : T} {K : List Kd} {L : List Nm} {G : Nat → Prop} (h : RC H p tK tL K L G) (hs : keptUp K) (hl : K.length ≤ 8000000) (m : Nm) : W env (.call 34 [.ptr p 0, .str m.1, .int .u64 m.2]) H (fun o H' => Ext H H' ∧ o = .val (.tup [.int .i64 (fiK K m), .bool (memN (K.map Kd.nm) m)])) := by
  have hlen := len_mut h.mK
  refine W.fnI rfl rfl rfl ?_
  simp -implicitDefEqProofs only [ir34, op, ef, cl, sq, reduceIte, q5, q8, q9, j2, j3, j4, j5, j6, j7, S1]
  refine W.loopX 0 [(0, _), (1, _), (2, _)] (fun (i : Nat) R H' => At H' (fun H' => Ext H H') ∧ R 8 = .int .i64 i ∧ i ≤ K.length ∧ ∀ j x, j < i → K[j]? = some x → ltM x.nm m = true) (fun i => K.length - i) 0
    (fun R H' => At H' (fun H' => Ext H H') ∧ R 8 = .int .i64 (fiK K m)) ⟨.i Ext.rfl', rfl, Nat.zero_le _, fun j x hj => by omega⟩ ?_ ?_
  · rintro i R H1 ⟨hx1, g8, hi, hall⟩
    have hx1 : Ext H H1 := hx1
    have h1 := h.ext hx1
    by_cases hlt : i < K.length
    · obtain ⟨x, hx⟩ := getP hlt
      obtain ⟨c, hc, ia, _⟩ := mut_n (enc := eKd) (n := 5) (fun _ => rfl) (by decide) h1.mK hx
      have wsi := wrap_succ (show i < 9223372036854775807 by omega)
      have r0 : ldcB 4 (i * 5 + 0) (some (.cells (msC eKd K))) = some [.str x.nm.1, .int .u64 x.nm.2, .str x.value, .sl x.kk (x.keys.map eS)] := msC_get (enc := eKd) (n := 5) (fun _ => rfl) hx 0 4 (by decide)
      simp -implicitDefEqProofs only [mkR_nil, mkR_cons, op, ef, cl, sq, reduceIte, q5, q8, q9, j2, j3, j4, j5, j6, j7, S1, h1.hp, hlen, g8, hlt, natOf_nat, ia, hc, r0]
      refine callB_of _ _ _ _ _ _ _ _ (rless32 x.nm m _ _ _ _ ⟨rfl, rfl, rfl, rfl⟩ _) ?_
      rintro u H2 ⟨hu, hx2⟩
      cases hu
      have hx2 : Ext H1 H2 := hx2
      cases hlm : ltM x.nm m
      · simp -implicitDefEqProofs only [mkR_nil, mkR_cons, op, ef, cl, sq, reduceIte, q5, q8, q9, j2, j3, j4, j5, j6, j7, S1, g8]
        refine ⟨.i (hx1.trans hx2), ?_⟩
        rw [fiK, tw_len hall hi fun y hy => by rw [hx] at hy; cases hy; exact hlm]
      · simp -implicitDefEqProofs only [mkR_nil, mkR_cons, op, ef, cl, sq, reduceIte, q5, q8, q9, j2, j3, j4, j5, j6, j7, S1, g8, wsi]
        refine ⟨i + 1, by omega, .i (hx1.trans hx2), rfl, hlt, fun j y hj hy => ?_⟩
        by_cases e : j = i
        · subst e; rw [hx] at hy; cases hy; exact hlm
        · exact hall j y (by omega) hy
    · have hie : i = K.length := by omega
      subst hie
      simp -implicitDefEqProofs only [mkR_nil, mkR_cons, op, ef, cl, sq, reduceIte, q5, q8, q9, j2, j3, j4, j5, j6, j7, S1, h1.hp, hlen, g8, hlt]
      refine ⟨.i hx1, ?_⟩
      rw [fiK, tw_len hall hi fun y hy => by have := (List.getElem?_eq_some_iff.1 hy).1; omega]
  · rintro R H1 ⟨hx1, g8⟩
    have hx1 : Ext H H1 := hx1
    have h1 := h.ext hx1
    have hmem := fiK_mem hs m
    have no : (∀ x, K[fiK K m]? = some x → x.nm ≠ m) → memN (K.map Kd.nm) m = false := fun hh => by
      cases e : memN (K.map Kd.nm) m with
      | false => rfl
      | true => obtain ⟨x, hx, e2⟩ := hmem.1 e; exact absurd e2 (hh x hx)
    by_cases hlt : fiK K m < K.length
    · obtain ⟨x, hx⟩ := getP hlt
      obtain ⟨c, hc, ia, _⟩ := mut_n (enc := eKd) (n := 5) (fun _ => rfl) (by decide) h1.mK hx
      have r0 : ldcB 1 (fiK K m * 5 + 0 + 0) (some (.cells (msC eKd K))) = some [.str x.key] := msC_get (enc := eKd) (n := 5) (fun _ => rfl) hx 0 1 (by decide)
      have r1 : ldcB 1 (fiK K m * 5 + 0 + 1) (some (.cells (msC eKd K))) = some [.int .u64 x.id] := msC_get (enc := eKd) (n := 5) (fun _ => rfl) hx 1 1 (by decide)
      by_cases e1 : x.key = m.1
      · by_cases e2 : x.id = m.2
        · have ht : memN (K.map Kd.nm) m = true := hmem.2 ⟨x, hx, Prod.ext e1 e2⟩
          simp -implicitDefEqProofs only [mkR_nil, mkR_cons, op, ef, cl, sq, reduceIte, q5, q8, q9, j2, j3, j4, j5, j6, j7, S1, h1.hp, hlen, g8, hlt, natOf_nat, ia, hc, r0, r1, e1, e2, ht]
          exact hx1
        · have hf := no fun y hy e => by rw [hx] at hy; cases hy; exact e2 (congrArg Prod.snd e)
          simp -implicitDefEqProofs only [mkR_nil, mkR_cons, op, ef, cl, sq, reduceIte, q5, q8, q9, j2, j3, j4, j5, j6, j7, S1, h1.hp, hlen, g8, hlt, natOf_nat, ia, hc, r0, r1, e1, e2, hf]
          exact hx1
      · have hf := no fun y hy e => by rw [hx] at hy; cases hy; exact e1 (congrArg Prod.fst e)
        simp -implicitDefEqProofs only [mkR_nil, mkR_cons, op, ef, cl, sq, reduceIte, q5, q8, q9, j2, j3, j4, j5, j6, j7, S1, h1.hp, hlen, g8, hlt, natOf_nat, ia, hc, r0, r1, e1, hf]
        exact hx1
    · have hf := no fun y hy e => by have := (List.getElem?_eq_some_iff.1 hy).1; omega
      simp -implicitDefEqProofs only [mkR_nil, mkR_cons, op, ef, cl, sq, reduceIte, q5, q8, q9, j2, j3, j4, j5, j6, j7, S1, h1.hp, hlen, g8, hlt, hf]
      exact hx1
end Go.Proofs.YtodegnhallgnkaaGreat.St
end

section
namespace Go.Proofs.YtodegnhallgnkaaGreat.St
open Go.Rmp Go.Proofs.YtodegnhallgnkaaGreat.Ir
set_option maxRecDepth 10000
theorem app_nil {α : Type} {enc : α → List T} {n bytes : Nat} (he : ∀ x, (enc x).map T.erase = enc x) (l : List α) (hr : roomOk l.length bytes = true) (H : Heap) : ∃ k' H', appT H bytes .nil [] (l.map enc) = some (.sl k' (l.map enc), H') ∧ Ext H H' ∧ KOk k' l := by
  cases l with
  | nil => exact ⟨.nil, H, rfl, Ext.rfl', fun _ => rfl⟩
  | cons a l =>
    obtain ⟨k', H', ha, hap, hst⟩ := app_ok (n0 := H.length) (H := H) (bytes := bytes) (k := .nil) [] ((a :: l).map enc) (.inl rfl) (Nat.le_refl _) (by simp) (by simpa using hr)
    have e : ((a :: l).map enc).map (·.map T.erase) = (a :: l).map enc := by
      rw [List.map_map]; exact List.map_congr_left fun x _ => he x
    rw [List.nil_append, e] at ha
    refine ⟨k', H', ha, hst.ext H (Nat.le_refl _) Ext.rfl', fun h => absurd h (app_nn ha (by simp))⟩
theorem rown33 (k : ByteArray) (n : Nat) (v : ByteArray) (kk : SK) (ks : List ByteArray) (hl : ks.length ≤ 8000000) (H : Heap) : W env (.call 45 [.agg [.str k, .int .u64 n, .str v, .sl kk (ks.map eS)]]) H (fun o H' => Ext H H' ∧ ∃ kk', KOk kk' ks ∧ o = .val (.agg [.str k, .int .u64 n, .str v, .sl kk' (ks.map eS)])) := by
  have h1 := all_map (enc := eS) (n := 1) (fun _ => rfl) ks
  obtain ⟨k', H3, ha, hx, hko⟩ := app_nil (enc := eS) (n := 1) (bytes := 16) (fun _ => rfl) ks (roomS (by omega) (by omega)) (H ++ [B.cells [.str k, .int .u64 n, .str v, .sl kk (ks.map eS)]] ++ [B.cells [.str ⟨#[]⟩, .int .u64 0, .str ⟨#[]⟩, .sl .nil []]])
  have c0 : H3[H.length]? = some (.cells [.str k, .int .u64 n, .str v, .sl kk (ks.map eS)]) := hx.get (by rw [g_app (by simp), g_tail rfl])
  have c1 : H3[H.length + 1]? = some (.cells [.str ⟨#[]⟩, .int .u64 0, .str ⟨#[]⟩, .sl .nil []]) := hx.get (g_tail (by simp))
  have l0 := glt c0
  have l1 := glt c1
  have c2 : ∀ x, (H3.set H.length x)[H.length + 1]? = some (.cells [.str ⟨#[]⟩, .int .u64 0, .str ⟨#[]⟩, .sl .nil []]) := fun x => by rw [g_ne (by omega)]; exact c1
  have hxx : Ext H H3 := ((Ext.rfl'.app _).app _).trans hx
  refine W.fnI rfl rfl rfl ?_
  simp -implicitDefEqProofs only [ir45, op, ef, cl, sq, reduceIte, q5, q8, q9, j2, j3, j4, j5, j6, j7, S1, S2, S3, h1, ha, c0, c1, c2, l0, l1, List.length_set]
  exact ⟨(hxx.set (by simp) _).set (by simp) _, k', hko, rfl⟩
theorem elems_mut {α : Type} {enc : α → List T} {n n0 : Nat} (hn : ∀ x, (enc x).length = n) {H : Heap} {t : T} {l : List α} (h : Mut enc n n0 H t l) : elemsOf H n t = some (l.map enc) := by
  rcases h with ⟨rfl, rfl⟩ | ⟨b, rfl, hb, _⟩
  · rfl
  · have := elems_sub hn hb 0 l.length (by omega)
    simpa using this
theorem rkept11 {H : Heap} {p : Nat} {tK tL : T} {K : List Kd} {L : List Nm} {G : Nat → Prop} (h : RC H p tK tL K L G) (hl : K.length ≤ 8000000) : W env (.call 20 [.ptr p 0]) H (fun o H' => Ext H H' ∧ ∃ kw, KOk kw K ∧ o = .val (.sl kw (K.map eKd))) := by
  have hlen := len_mut h.mK
  refine W.fnI rfl rfl rfl ?_
  simp -implicitDefEqProofs only [ir20, op, ef, cl, sq, reduceIte, q5, q8, q9, j2, j3, j4, j5, j6, j7, S1]
  refine W.loopV [(0, _)] (fun (i : Nat) R H' => At H' (fun H' => ∃ kw, R 3 = .sl kw ((K.take i).map eKd) ∧ Ext H H' ∧ Apd H.length H' kw ∧ KOk kw (K.take i)) ∧ R 4 = .int .i64 i ∧ i ≤ K.length) (fun i => K.length - i) 0 ⟨.i ⟨.nil, rfl, Ext.rfl', apd_nil _ _, fun _ => rfl⟩, rfl, Nat.zero_le _⟩ ?_
  rintro i R H1 ⟨⟨kw, g3, hx1, hap, hko⟩, g4, hi⟩
  have hx1 : Ext H H1 := hx1
  have h1 := h.ext hx1
  by_cases hlt : i < K.length
  · obtain ⟨x, hx⟩ := getP hlt
    have hxk := h.ko x (List.mem_of_getElem? hx)
    obtain ⟨c, hc, ia, _⟩ := mut_n (enc := eKd) (n := 5) (fun _ => rfl) (by decide) h1.mK hx
    have wsi := wrap_succ (show i < 9223372036854775807 by omega)
    have r0 : ldcB 4 (i * 5 + 0) (some (.cells (msC eKd K))) = some [.str x.nm.1, .int .u64 x.nm.2, .str x.value, .sl x.kk (x.keys.map eS)] := msC_get (enc := eKd) (n := 5) (fun _ => rfl) hx 0 4 (by decide)
    have r4 : ldcB 1 (i * 5 + 4) (some (.cells (msC eKd K))) = some [.int .i64 x.stamp] := msC_get (enc := eKd) (n := 5) (fun _ => rfl) hx 4 1 (by decide)
    simp -implicitDefEqProofs only [mkR_nil, mkR_cons, op, ef, cl, sq, reduceIte, q5, q8, q9, j2, j3, j4, j5, j6, j7, S1, h1.hp, hlen, g4, hlt, natOf_nat, ia, hc, r0, r4]
    refine callB_of _ _ _ _ _ _ _ _ (rown33 _ _ _ _ x.keys (by omega) _) ?_
    rintro u H2 ⟨hx2, kk', hkk, hu⟩
    cases hu
    have hx2 : Ext H1 H2 := hx2
    have hall := all_map (enc := eKd) (n := 5) (fun _ => rfl) (K.take i)
    obtain ⟨k', H5, ha, hap', hst⟩ := app_ok (bytes := 72) ((K.take i).map eKd) [[T.str x.nm.1, .int .u64 x.nm.2, .str x.value, .sl .arg (x.keys.map eS), .int .i64 x.stamp]] (hap.ext hx2) (by have := (hx1.trans hx2).len; omega) (by simp) (roomT (by simp -implicitDefEqProofs only [List.length_cons, List.length_nil, List.length_map, List.length_take]; omega))
    have hnn := app_nn ha (by simp)
    simp -implicitDefEqProofs only [op, ef, cl, sq, reduceIte, q5, q8, q9, j2, j3, j4, j5, j6, j7, S1] at ha
    have hc2 := hx2.get hc
    simp -implicitDefEqProofs only [mkR_nil, mkR_cons, op, ef, cl, sq, reduceIte, q5, q8, q9, j2, j3, j4, j5, j6, j7, S1, g3, g4, hall, ha, wsi, (h1.ext hx2).hp, hc2, r4]
    refine ⟨i + 1, by omega, .i ⟨k', ?_, hst.ext H (Nat.le_refl _) (hx1.trans hx2), hap', fun h => absurd h hnn⟩, rfl, hlt⟩
    rw [take_sn hx, List.map_append]
    simp -implicitDefEqProofs only [List.map_cons, List.map_nil, eKd, hxk.1]; rfl
  · have hie : i = K.length := by omega
    subst hie
    rw [List.take_length] at g3 hko
    simp -implicitDefEqProofs only [mkR_nil, mkR_cons, op, ef, cl, sq, reduceIte, q5, q8, q9, j2, j3, j4, j5, j6, j7, S1, h1.hp, hlen, g3, g4, hlt]
    exact ⟨hx1, kw, hko, rfl⟩
theorem rlasts14 {H : Heap} {p : Nat} {tK tL : T} {K : List Kd} {L : List Nm} {G : Nat → Prop} (h : RC H p tK tL K L G) (hl : L.length ≤ 8000000) : W env (.call 25 [.ptr p 0]) H (fun o H' => Ext H H' ∧ ∃ kw, KOk kw L ∧ o = .val (.sl kw (L.map eW))) := by
  obtain ⟨k', H', ha, hx, hko⟩ := app_nil (enc := eW) (n := 2) (bytes := 24) (fun _ => rfl) L (roomT (by omega)) H
  have he := elems_mut (enc := eW) (n := 2) (fun _ => rfl) h.mL
  refine W.fnI rfl rfl rfl ?_
  simp -implicitDefEqProofs only [ir25, op, ef, cl, sq, reduceIte, q5, q8, q9, j2, j3, j4, j5, j6, j7, S1, h.hp, he, ha]
  exact ⟨hx, k', hko, rfl⟩
end Go.Proofs.YtodegnhallgnkaaGreat.St
end

section
namespace Go.Proofs.YtodegnhallgnkaaGreat.St
open Go.Rmp Go.Proofs.YtodegnhallgnkaaGreat.Ir
set_option maxRecDepth 10000
theorem cells_mut {α : Type} {enc : α → List T} {n n0 : Nat} {H : Heap} {t : T} {l : List α} (h : Mut enc n n0 H t l) : t.cells? = some [t] := by
  rcases h with ⟨_, rfl⟩ | ⟨c, rfl, _⟩ <;> rfl
theorem RC.setK {H H' : Heap} {p : Nat} {tK tL t' : T} {K K' : List Kd} {L : List Nm} {G : Nat → Prop} (h : RC H p tK tL K L G) (hf : Frm (fun c => tb tK = some c) H H') (hm : Mut eKd 5 0 H' t' K') (hn : ∀ c, tb t' = some c → H.length ≤ c) (hko : ∀ x ∈ K', x.kk = .arg ∧ x.keys.length ≤ 1024) :
    H'[p]? = some (.cells [tK, tL]) ∧ Frm G H (H'.set p (.cells [t', tL])) ∧ ∃ G', RC (H'.set p (.cells [t', tL])) p t' tL K' L G' ∧ Gro G G' H (H'.set p (.cells [t', tL])) := by
  have hp := hf.get h.hp fun hc => (h.gK _ hc).2 rfl
  have lp := glt hp
  have lp0 := glt h.hp
  have f1 : Frm (fun c => c = p) H' (H'.set p (.cells [t', tL])) := (Frm.refl (fun c => c = p) H').set (.inl rfl) _
  have tK' : ∀ c, tb t' = some c → c ≠ p := fun c hc e => by have := hn c hc; omega
  refine ⟨hp, (hf.mono fun c hc => (h.gK c hc).1).set (.inl h.gp) _, fun c => c = p ∨ tb t' = some c ∨ tb tL = some c, ⟨g_eq lp, mut_frm hm f1 tK', mut_frm (mut_frm h.mL hf fun c hc hc' => h.ne c hc' hc) f1 fun c hc => (h.gL c hc).2, .inl rfl, fun c hc => ⟨.inr (.inl hc), tK' c hc⟩, fun c hc => ⟨.inr (.inr hc), (h.gL c hc).2⟩, fun c hc hc' => ?_, hko⟩, fun c hc => ?_⟩
  · have := hn c hc; have := glt (mut_blk h.mL hc'); omega
  · rcases hc with rfl | hc | hc
    · exact .inl h.gp
    · exact .inr ⟨hn c hc, by rw [List.length_set]; exact glt (mut_blk hm hc)⟩
    · exact .inl (h.gL c hc).1
theorem RC.setL {H H' : Heap} {p : Nat} {tK tL t' : T} {K : List Kd} {L L' : List Nm} {G : Nat → Prop} (h : RC H p tK tL K L G) (hf : Frm (fun c => tb tL = some c) H H') (hm : Mut eW 2 0 H' t' L') (hn : ∀ c, tb t' = some c → H.length ≤ c) :
    H'[p]? = some (.cells [tK, tL]) ∧ Frm G H (H'.set p (.cells [tK, t'])) ∧ ∃ G', RC (H'.set p (.cells [tK, t'])) p tK t' K L' G' ∧ Gro G G' H (H'.set p (.cells [tK, t'])) := by
  have hp := hf.get h.hp fun hc => (h.gL _ hc).2 rfl
  have lp := glt hp
  have lp0 := glt h.hp
  have f1 : Frm (fun c => c = p) H' (H'.set p (.cells [tK, t'])) := (Frm.refl (fun c => c = p) H').set (.inl rfl) _
  have tK' : ∀ c, tb t' = some c → c ≠ p := fun c hc e => by have := hn c hc; omega
  refine ⟨hp, (hf.mono fun c hc => (h.gL c hc).1).set (.inl h.gp) _, fun c => c = p ∨ tb tK = some c ∨ tb t' = some c, ⟨g_eq lp, mut_frm (mut_frm h.mK hf fun c hc hc' => h.ne c hc hc') f1 fun c hc => (h.gK c hc).2, mut_frm hm f1 tK', .inl rfl, fun c hc => ⟨.inr (.inl hc), (h.gK c hc).2⟩, fun c hc => ⟨.inr (.inr hc), tK' c hc⟩, fun c hc hc' => ?_, h.ko⟩, fun c hc => ?_⟩
  · have := hn c hc'; have := glt (mut_blk h.mK hc); omega
  · rcases hc with rfl | hc | hc
    · exact .inl h.gp
    · exact .inl (h.gK c hc).1
    · exact .inr ⟨hn c hc, by rw [List.length_set]; exact glt (mut_blk hm hc)⟩
end Go.Proofs.YtodegnhallgnkaaGreat.St
end

section
namespace Go.Proofs.YtodegnhallgnkaaGreat.St
open Go.Rmp Go.Proofs.YtodegnhallgnkaaGreat.Ir
set_option maxRecDepth 10000
end Go.Proofs.YtodegnhallgnkaaGreat.St
end

section
namespace Go.Proofs.YtodegnhallgnkaaGreat.St
open Go.Rmp Go.Proofs.YtodegnhallgnkaaGreat.Ir
set_option maxRecDepth 10000
def insK (K : List Kd) (x : Kd) : List Kd := K.take (fiK K x.nm) ++ x :: K.drop (fiK K x.nm)
theorem drop_ge {α : Type} {R : α → α → Prop} {l : List α} {i : Nat} (hs : l.Pairwise R) {y z : α} (hy : l[i]? = some y) (hz : z ∈ l.drop i) : z = y ∨ R y z := by
  rw [drop_at hy] at hz
  rcases List.mem_cons.1 hz with h | h
  · exact .inl h
  · have := hs.sublist (List.drop_sublist i l)
    rw [drop_at hy, List.pairwise_cons] at this
    exact .inr (this.1 z h)
theorem insK_up {K : List Kd} (hs : keptUp K) {x : Kd} (hno : x.nm ∉ K.map Kd.nm) : keptUp (insK K x) := by
  have ht : ∀ y ∈ K.take (fiK K x.nm), ltM y.nm x.nm = true := fun y hy => by
    obtain ⟨j, hj, e⟩ := List.getElem_of_mem hy
    rw [List.length_take] at hj
    rw [List.getElem_take] at e
    unfold fiK at hj
    have := tw_lt (p := fun x' : Kd => ltM x'.nm x.nm) (l := K) (j := j) (x := y) (by omega) (by rw [List.getElem?_eq_getElem (by omega), e])
    exact this
  have hd : ∀ z ∈ K.drop (fiK K x.nm), ltM x.nm z.nm = true := fun z hz => by
    by_cases hlt : fiK K x.nm < K.length
    · obtain ⟨y, hy⟩ := getP hlt
      have hy' := hy
      unfold fiK at hy'
      have h1 : (fun x' : Kd => ltM x'.nm x.nm) y = false := tw_at (p := fun x' : Kd => ltM x'.nm x.nm) hy'
      have h2 : ltM x.nm y.nm = true := by
        cases e : ltM x.nm y.nm with
        | true => rfl
        | false => exact absurd (List.mem_map.2 ⟨y, List.mem_of_getElem? hy, ltM_tri h1 e⟩) hno
      rcases drop_ge hs hy hz with rfl | h
      · exact h2
      · exact ltM_trans h2 h
    · rw [List.drop_eq_nil_of_le (by omega)] at hz; cases hz
  refine List.pairwise_append.2 ⟨hs.sublist (List.take_sublist _ _), List.pairwise_cons.2 ⟨hd, hs.sublist (List.drop_sublist _ _)⟩, fun y hy z hz => ?_⟩
  rcases List.mem_cons.1 hz with rfl | hz
  · exact ht y hy
  · exact ltM_trans (ht y hy) (hd z hz)
theorem mlook_ap {α β : Type} [DecidableEq α] (A B : List (α × β)) (k : α) : mlook (A ++ B) k = (mlook A k).or (mlook B k) := by
  induction A with
  | nil => simp [mlook_nil]
  | cons e A ih =>
    rw [List.cons_append, mlook_cons, mlook_cons, ih]
    split <;> rfl
theorem mlook_ins {α β : Type} [DecidableEq α] (A B : List (α × β)) (e : α × β) (h : e.1 ∉ A.map (·.1)) (k : α) : mlook (A ++ e :: B) k = if k = e.1 then some e.2 else mlook (A ++ B) k := by
  rw [mlook_ap, mlook_ap, mlook_cons]
  by_cases hk : k = e.1
  · subst hk
    rw [mlook_none.2 h]; simp
  · simp [hk]
theorem mlook_cut {α β : Type} [DecidableEq α] (A B : List (α × β)) (e : α × β) (h : e.1 ∉ (A ++ B).map (·.1)) (k : α) : mlook (A ++ B) k = if k = e.1 then none else mlook (A ++ e :: B) k := by
  rw [mlook_ins _ _ _ (fun hh => h (by rw [List.map_append]; exact List.mem_append_left _ hh))]
  by_cases hk : k = e.1
  · subst hk; rw [mlook_none.2 h]; simp
  · simp [hk]
theorem kdL_app (A B : List Kd) : kdL (A ++ B) = kdL A ++ kdL B := List.map_append
theorem kdL_cons (x : Kd) (B : List Kd) : kdL (x :: B) = (x.nm, x.vd) :: kdL B := rfl
theorem insK_look {K : List Kd} {x : Kd} (hno : x.nm ∉ K.map Kd.nm) (m : Nm) : mlook (kdL (insK K x)) m = if m = x.nm then some x.vd else mlook (kdL K) m := by
  rw [insK, kdL_app, kdL_cons, mlook_ins _ _ _ (fun h => hno (by
    rw [kdL_key] at h
    obtain ⟨y, hy, e⟩ := List.mem_map.1 h
    exact List.mem_map.2 ⟨y, List.mem_of_mem_take hy, e⟩)), ← kdL_app, List.take_append_drop]
theorem insK_len (K : List Kd) (x : Kd) : (insK K x).length = K.length + 1 := by
  have := tw_le (fun x' => ltM x'.nm x.nm) K
  simp -implicitDefEqProofs only [insK, List.length_append, List.length_take, List.length_cons, List.length_drop, fiK]; omega
theorem sll_lo {α : Type} {enc : α → List T} {n n0 : Nat} (hn : ∀ x, (enc x).length = n) {H : Heap} {t : T} {l : List α} (h : Mut enc n n0 H t l) {i : Nat} (hi : i ≤ l.length) : ∃ t', (∀ R Hx a b, (X.r a).ev R = t → (X.r b).ev R = .int .i64 i → evop R Hx (.sll n (.r a) none (some (.r b)) none) = some (t', Hx)) ∧ ∀ Hx, Mut enc n n0 Hx t l → elemsOf Hx n t' = some ((l.take i).map enc) := by
  rcases h with ⟨rfl, rfl⟩ | ⟨c, rfl, hc, _⟩
  · have : i = 0 := by simpa using hi
    subst this
    refine ⟨.sl .nil [], fun R Hx a b ha hb => ?_, fun Hx _ => rfl⟩
    simp -implicitDefEqProofs only [evop, ha, bnd, hb, natOf_nat]
    simp
    rfl
  · refine ⟨.msl c 0 i n, fun R Hx a b ha hb => ?_, fun Hx hx => ?_⟩
    · simp -implicitDefEqProofs only [evop, ha, bnd, hb, natOf_nat]
      rw [if_pos ⟨trivial, Nat.zero_le _, hi⟩]
      by_cases h0 : 0 = i
      · subst h0; rfl
      · rw [if_neg h0]; simp
    · have := elems_sub hn (mut_blk hx (c := c) rfl) 0 i (by omega)
      simpa using this
theorem sll_hi {α : Type} {enc : α → List T} {n n0 : Nat} (hn : ∀ x, (enc x).length = n) {H : Heap} {t : T} {l : List α} (h : Mut enc n n0 H t l) {i : Nat} (hi : i ≤ l.length) : ∃ t', (∀ R Hx a b, (X.r a).ev R = t → (X.r b).ev R = .int .i64 i → evop R Hx (.sll n (.r a) (some (.r b)) none none) = some (t', Hx)) ∧ ∀ Hx, Mut enc n n0 Hx t l → elemsOf Hx n t' = some ((l.drop i).map enc) := by
  rcases h with ⟨rfl, rfl⟩ | ⟨c, rfl, hc, _⟩
  · have : i = 0 := by simpa using hi
    subst this
    refine ⟨.sl .nil [], fun R Hx a b ha hb => ?_, fun Hx _ => rfl⟩
    simp -implicitDefEqProofs only [evop, ha, bnd, hb, natOf_nat]
    simp
    rfl
  · refine ⟨if i = l.length then (if i = 0 then .msl c 0 0 n else .sl .arg []) else .msl c (0 + i * n) (l.length - i) n, fun R Hx a b ha hb => ?_, fun Hx hx => ?_⟩
    · simp -implicitDefEqProofs only [evop, ha, bnd, hb, natOf_nat]
      rw [if_pos ⟨trivial, hi, Nat.le_refl _⟩]
    · have h1 := elems_sub hn (mut_blk hx (c := c) rfl) i (l.length - i) (by omega)
      by_cases e : i = l.length
      · rw [if_pos e]
        subst e
        by_cases e2 : l.length = 0
        · rw [if_pos e2]
          have := elems_sub hn (mut_blk hx (c := c) rfl) 0 0 (by omega)
          simpa using this
        · rw [if_neg e2]; simp [elemsOf]
      · rw [if_neg e, Nat.zero_add, h1, List.take_of_length_le (by rw [List.length_drop]; omega)]
structure Ins {α : Type} (enc : α → List T) (n bytes : Nat) (H : Heap) (t : T) (l : List α) (i : Nat) (t1 : T) (H1 : Heap) (ta tz : T) : Prop where
  lo : ∀ R Hx a b, (X.r a).ev R = t → (X.r b).ev R = .int .i64 i → evop R Hx (.sll n (.r a) none (some (.r b)) none) = some (ta, Hx)
  hi : ∀ R Hx a b, (X.r a).ev R = t → (X.r b).ev R = .int .i64 i → evop R Hx (.sll n (.r a) (some (.r b)) none none) = some (tz, Hx)
  ea : elemsOf H n ta = some ((l.take i).map enc)
  a1 : appM H n bytes (.sl .nil []) ((l.take i).map enc) = some (t1, H1)
  m1 : Mut enc n 0 H1 t1 (l.take i)
  x1 : Ext H H1
  b1 : ∀ c, tb t1 = some c → H.length ≤ c
  ez : ∀ Hx, Mut enc n 0 Hx t l → elemsOf Hx n tz = some ((l.drop i).map enc)
theorem ins_mk {α : Type} {enc : α → List T} {n bytes : Nat} (hn : ∀ x, (enc x).length = n) {H : Heap} {t : T} {l : List α} (h : Mut enc n 0 H t l) {i : Nat} (hi : i ≤ l.length) (hr : ∀ j, j ≤ l.length + 1 → roomOk j bytes = true) : ∃ t1 H1 ta tz, Ins enc n bytes H t l i t1 H1 ta tz := by
  obtain ⟨ta, lo, ea⟩ := sll_lo hn h hi
  obtain ⟨tz, hi', ez⟩ := sll_hi hn h hi
  obtain ⟨t1, H1, a1, m1, f1, b1⟩ := appM_any hn (bytes := bytes) (l.take i) (mut_nil enc n 0 H) (hr _ (by simp; omega))
  exact ⟨t1, H1, ta, tz, lo, hi', ea H h, a1, by simpa using m1, frm_ext (f1.mono fun c hc => by cases hc), fun c hc => (b1 c hc).elim (fun h => by cases h.1) id, ez⟩
theorem app_own {α : Type} {enc : α → List T} {n bytes : Nat} (hn : ∀ x, (enc x).length = n) {H0 H : Heap} {t : T} {l : List α} (h : Mut enc n 0 H t l) (hx : Ext H0 H) (hb : ∀ c, tb t = some c → H0.length ≤ c) (new : List α) (hr : roomOk (l.length + new.length) bytes = true) :
    ∃ t' H', appM H n bytes t (new.map enc) = some (t', H') ∧ Mut enc n 0 H' t' (l ++ new) ∧ Ext H0 H' ∧ ∀ c, tb t' = some c → H0.length ≤ c := by
  obtain ⟨t', H', ha, hm, hf, hb'⟩ := appM_any hn (bytes := bytes) new h hr
  have := hx.len
  refine ⟨t', H', ha, hm, frm_ext ((ext_frm (F := fun _ => False) hx).more hf hb), fun c hc => ?_⟩
  rcases hb' c hc with h | h
  · exact hb c h.1
  · omega
end Go.Proofs.YtodegnhallgnkaaGreat.St
end

section
namespace Go.Proofs.YtodegnhallgnkaaGreat.St
open Go.Rmp Go.Proofs.YtodegnhallgnkaaGreat.Ir
set_option maxRecDepth 10000
theorem rmay81 (n : Nat) (k k' : SK) (l : List (ByteArray × ByteArray)) (ks : List ByteArray) (H : Heap) (hl : l.length ≤ 8000000) (hks : ks.length ≤ 8000000) :
    W env (.call 32 [.int .u64 n, .sl k (l.map eP), .sl k' (ks.map eS)]) H (fun o H' => Ext H H' ∧ ∃ b, o = .val (.bool b) ∧ (b = true ↔ MayP n l ks)) := by
  refine W.fnI rfl rfl rfl ?_
  have no : ¬ MayP n l ks → ((false : Bool) = true ↔ MayP n l ks) := fun h => ⟨fun e => (by cases e), fun e => absurd e h⟩
  simp -implicitDefEqProofs only [ir32, op, ef, cl, sq, reduceIte, q5, q8, q9, j2, j3, j4, j5, j6, j7, S1]
  refine callB_of _ _ _ _ _ _ _ _ (rid68 n _) ?_
  rintro u H2 ⟨hu, rfl⟩
  cases hu
  by_cases hn : n < 65536
  · have hd : decide (65536 ≤ n) = false := decide_eq_false (by omega)
    simp -implicitDefEqProofs only [op, ef, cl, sq, reduceIte, q5, q8, q9, j2, j3, j4, j5, j6, j7, S1, hd]
    exact ⟨Ext.rfl', false, rfl, no fun h => by have := h.1; omega⟩
  have hd : decide (65536 ≤ n) = true := decide_eq_true (by omega)
  simp -implicitDefEqProofs only [op, ef, cl, sq, reduceIte, q5, q8, q9, j2, j3, j4, j5, j6, j7, S1, hd]
  refine callB_of _ _ _ _ _ _ _ _ (rwhole69 k' ks _ (by omega)) ?_
  rintro u H2 ⟨hu, rfl⟩
  cases hu
  cases hg : goodB ks
  · simp -implicitDefEqProofs only [op, ef, cl, sq, reduceIte, q5, q8, q9, j2, j3, j4, j5, j6, j7, S1]
    exact ⟨Ext.rfl', false, rfl, no fun h => by have := goodB_iff.2 h.2.1; rw [hg] at this; cases this⟩
  have hgk := goodB_iff.1 hg
  by_cases hl1 : l.length < 1
  · simp -implicitDefEqProofs only [op, ef, cl, sq, reduceIte, q5, q8, q9, j2, j3, j4, j5, j6, j7, S1, List.length_map, hl1]
    exact ⟨Ext.rfl', false, rfl, no fun h => by have := h.2.2.1; omega⟩
  simp -implicitDefEqProofs only [op, ef, cl, sq, reduceIte, q5, q8, q9, j2, j3, j4, j5, j6, j7, S1, List.length_map, hl1]
  refine W.loopV [(1, _), (2, _)] (fun (i : Nat) R H' => At H' (fun H' => Ext H2 H') ∧ R 7 = .int .i64 i ∧ i ≤ l.length ∧ ∀ j, j < i → OkPair l ks j) (fun i => l.length - i) 0 ⟨.i Ext.rfl', rfl, Nat.zero_le _, fun j hj => by omega⟩ ?_
  rintro i R H3 ⟨hx, g7, hi, hok⟩
  have hx : Ext H2 H3 := hx
  by_cases hlt : i < l.length
  · obtain ⟨p, hp⟩ := getP hlt
    have wsi := wrap_succ (show i < 9223372036854775807 by omega)
    have ip := iadX (e := eP) (n := 2) (fun _ => rfl) (by decide) (k := k) hp
    have bad : ¬ OkPair l ks i → ((false : Bool) = true ↔ MayP n l ks) := fun hb => no fun h => hb (h.2.2.2 i hlt)
    obtain ⟨H4, hH4⟩ : ∃ H4, H4 = H3 ++ [B.cells [T.str p.1, .str p.2]] := ⟨_, rfl⟩
    have hx4 : Ext H3 H4 := ⟨_, hH4⟩
    have c0 : H4[H3.length]? = some (.cells [T.str p.1, .str p.2]) := by rw [hH4]; exact g_tail rfl
    have ld2 : ∀ Hx, ldc Hx 2 (.iptr (eP p)) = some [.str p.1, .str p.2] := fun _ => rfl
    simp -implicitDefEqProofs only [mkR_nil, mkR_cons, op, ef, cl, sq, reduceIte, q5, q8, q9, j2, j3, j4, j5, j6, j7, S1, S2, S3, List.length_map, g7, hlt, natOf_nat, ip, ld2]
    rw [← hH4]
    refine callB_of _ _ _ _ _ _ _ _ (rhas70 k' ks p.1 _ (by omega)) ?_
    rintro u H5 ⟨hu, rfl⟩
    cases hu
    cases hm : memB ks p.1
    · simp -implicitDefEqProofs only [mkR_nil, mkR_cons, op, ef, cl, sq, reduceIte, q5, q8, q9, j2, j3, j4, j5, j6, j7, S1, c0]
      exact ⟨hx.trans hx4, false, rfl, bad fun ho => memB_no.1 hm (ho p hp).2.1⟩
    by_cases hsz : 65535 < p.2.size
    · simp -implicitDefEqProofs only [mkR_nil, mkR_cons, op, ef, cl, sq, reduceIte, q5, q8, q9, j2, j3, j4, j5, j6, j7, S1, c0, hsz]
      exact ⟨hx.trans hx4, false, rfl, bad fun ho => by have := (ho p hp).2.2; omega⟩
    have fin : (0 < i → ∀ q, l[i-1]? = some q → strLt q.1 p.1 = true) → ∀ j, j < i + 1 → OkPair l ks j := fun hs j hj => by
      by_cases e : j = i
      · subst e; intro p' hp'; rw [hp] at hp'; cases hp'
        exact ⟨hs, memB_iff.1 hm, by omega⟩
      · exact hok j (by omega)
    by_cases hi0 : 0 < i
    · obtain ⟨q, hq⟩ := getP (l := l) (i := i - 1) (by omega)
      have wp := wrap_pred (show i < 9223372036854775807 by omega) hi0
      have iq := iadX (e := eP) (n := 2) (fun _ => rfl) (by decide) (k := k) hq
      cases hc : strLt q.1 p.1
      · simp -implicitDefEqProofs only [mkR_nil, mkR_cons, op, ef, cl, sq, reduceIte, q5, q8, q9, j2, j3, j4, j5, j6, j7, S1, c0, hsz, g7, hi0, wp, natOf_nat, iq, eP, hc]
        exact ⟨hx.trans hx4, false, rfl, bad fun ho => by have := (ho p hp).1 hi0 q hq; rw [hc] at this; cases this⟩
      · simp -implicitDefEqProofs only [mkR_nil, mkR_cons, op, ef, cl, sq, reduceIte, q5, q8, q9, j2, j3, j4, j5, j6, j7, S1, c0, hsz, g7, hi0, wp, natOf_nat, iq, eP, hc, wsi]
        exact ⟨i + 1, by omega, .i (hx.trans hx4), rfl, hlt, fin fun _ q' hq' => by rw [hq] at hq'; cases hq'; exact hc⟩
    · simp -implicitDefEqProofs only [mkR_nil, mkR_cons, op, ef, cl, sq, reduceIte, q5, q8, q9, j2, j3, j4, j5, j6, j7, S1, c0, hsz, g7, hi0, wsi]
      exact ⟨i + 1, by omega, .i (hx.trans hx4), rfl, hlt, fin fun h => absurd h hi0⟩
  · have hie : i = l.length := by omega
    subst hie
    simp -implicitDefEqProofs only [mkR_nil, mkR_cons, op, ef, cl, sq, reduceIte, q5, q8, q9, j2, j3, j4, j5, j6, j7, S1, List.length_map, g7, hlt]
    exact ⟨hx, true, rfl, ⟨fun _ => ⟨by omega, hgk, by omega, hok⟩, fun _ => rfl⟩⟩
theorem put_sn {a : Ab} {n : Nat} {l : List (ByteArray × ByteArray)} {ks : List ByteArray} {now : Int} {i : Nat} {p : ByteArray × ByteArray} (hp : l[i]? = some p) (hnd : (l.map (·.1)).Nodup) :
    a.put n (l.take (i + 1)) ks now = ⟨fun m => if m = (p.1, n) ∧ a.has m = false then some ⟨p.2, ks, if n < a.last p.1 then now else -1⟩ else (a.put n (l.take i) ks now).v m, a.l⟩ := by
  refine ab_ext (fun m => ?_) fun k => rfl
  have hno : p.1 ∉ (l.take i).map (·.1) := fun hh => by
    have h2 := hnd
    rw [← List.take_append_drop i l, drop_at hp, List.map_append, List.nodup_append] at h2
    exact h2.2.2 _ hh p.1 (by simp) rfl
  simp -implicitDefEqProofs only [put_v, take_sn hp, mlook_ap, mlook_cons, mlook_nil]
  cases hv : a.v m with
  | some x => simp [Ab.has, hv]
  | none =>
    have hh : a.has m = false := by simp [Ab.has, hv]
    by_cases e : m = (p.1, n)
    · subst e
      simp -implicitDefEqProofs only [hh, mlook_none.2 hno]; simp
    · simp -implicitDefEqProofs only [e, false_and, if_false]
      by_cases e2 : m.2 = n
      · have e3 : m.1 ≠ p.1 := fun h => e (Prod.ext h e2)
        simp [e2, e3]
      · simp [e2]
theorem fresh_sn {a : Ab} {n : Nat} {l : List (ByteArray × ByteArray)} {i : Nat} {p : ByteArray × ByteArray} (hp : l[i]? = some p) : a.fresh n (l.take (i + 1)) = (a.fresh n (l.take i) || !a.has (p.1, n)) := by
  simp [Ab.fresh, take_sn hp, List.any_append]
end Go.Proofs.YtodegnhallgnkaaGreat.St
end

section
namespace Go.Proofs.YtodegnhallgnkaaGreat.St
open Go.Rmp Go.Proofs.YtodegnhallgnkaaGreat.Ir
set_option maxRecDepth 10000
theorem ins_fin {α : Type} {l : List α} {i : Nat} {x : α} : l.take i ++ [x] ++ l.drop i = l.take i ++ x :: l.drop i := by simp
structure PutR (H H' : Heap) (p : Nat) (tL : T) (K : List Kd) (L : List Nm) (G : Nat → Prop) (n : Nat) (l : List (ByteArray × ByteArray)) (ks : List ByteArray) (now : Int) (tK' : T) (K' : List Kd) (G' : Nat → Prop) : Prop where
  rc : RC H' p tK' tL K' L G'
  up : keptUp K'
  ab : ldAb K' L = (ldAb K L).put n l ks now
  len : K'.length ≤ K.length + l.length
  frm : Frm G H H'
  gro : Gro G G' H H'
theorem Gro.refl (G : Nat → Prop) (H H' : Heap) : Gro G G H H' := fun _ h => .inl h
theorem PutR.ext {H H1 H2 : Heap} {p : Nat} {tL : T} {K : List Kd} {L : List Nm} {G : Nat → Prop} {n : Nat} {l : List (ByteArray × ByteArray)} {ks : List ByteArray} {now : Int} {tK' : T} {K' : List Kd} {G' : Nat → Prop} (h : PutR H H1 p tL K L G n l ks now tK' K' G') (hx : Ext H1 H2) : PutR H H2 p tL K L G n l ks now tK' K' G' :=
  ⟨h.rc.ext hx, h.up, h.ab, h.len, h.frm.ext hx, fun c hc => (h.gro c hc).imp id fun h => ⟨h.1, by have := hx.len; omega⟩⟩
set_option maxHeartbeats 2000000 in
theorem rput51 {H : Heap} {p : Nat} {tK tL : T} {K : List Kd} {L : List Nm} {G : Nat → Prop} (h : RC H p tK tL K L G) (hs : keptUp K) (n : Nat) (k k' : SK) (l : List (ByteArray × ByteArray)) (ks : List ByteArray) (now : Int) (hK : K.length + l.length ≤ 8000000) (hL : L.length ≤ 8000000) (hm : MayP n l ks) (ht : TickOk now) :
    W env (.call 10 [.ptr p 0, .int .u64 n, .sl k (l.map eP), .sl k' (ks.map eS), .int .i64 now]) H (fun o H' => o = .val (.tup [.bool ((ldAb K L).fresh n l), .int .i64 0]) ∧ ∃ tK' K' G', PutR H H' p tL K L G n l ks now tK' K' G') := by
  have hgk := hm.2.1.2.2
  have hnd := may_nd hm
  refine W.fnI rfl rfl rfl ?_
  simp -implicitDefEqProofs only [ir10, op, ef, cl, sq, reduceIte, q5, q8, q9, j2, j3, j4, j5, j6, j7, S1]
  refine callB_of _ _ _ _ _ _ _ _ (rmay81 n k k' l ks _ (by omega) (by omega)) ?_
  rintro u H1 ⟨hx1, bb, hu, hb⟩
  cases hu
  have hbt := hb.2 hm
  subst hbt
  simp -implicitDefEqProofs only [op, ef, cl, sq, reduceIte, q5, q8, q9, j2, j3, j4, j5, j6, j7, S1]
  refine callB_of _ _ _ _ _ _ _ _ (rtick71 now _) ?_
  rintro u H2 ⟨hu, rfl⟩
  cases hu
  have htk : (decide (0 ≤ now) && decide (now ≤ 1099511627776)) = true := by simp [ht.1, ht.2]
  simp -implicitDefEqProofs only [op, ef, cl, sq, reduceIte, q5, q8, q9, j2, j3, j4, j5, j6, j7, S1, htk]
  refine W.loopV [(0, _), (1, _), (2, _), (3, _), (4, _)] (fun (i : Nat) R H' => At H' (fun H' => ∃ tK' K' G', PutR H H' p tL K L G n (l.take i) ks now tK' K' G') ∧ R 12 = .bool ((ldAb K L).fresh n (l.take i)) ∧ R 13 = .int .i64 i ∧ i ≤ l.length) (fun i => l.length - i) 0
    ⟨.i ⟨tK, K, G, h.ext hx1, hs, by rw [List.take_zero, put_0], by simp, ext_frm hx1, Gro.refl _ _ _⟩, rfl, rfl, Nat.zero_le _⟩ ?_
  rintro i R H3 ⟨⟨tK', K', G', pr⟩, g12, g13, hi⟩
  by_cases hlt : i < l.length
  rotate_left
  · have hie : i = l.length := by omega
    subst hie
    rw [List.take_length] at g12 pr
    simp -implicitDefEqProofs only [mkR_nil, mkR_cons, op, ef, cl, sq, reduceIte, q5, q8, q9, j2, j3, j4, j5, j6, j7, S1, List.length_map, g12, g13, hlt]
    exact ⟨tK', K', G', pr⟩
  obtain ⟨q, hq⟩ := getP hlt
  have wsi := wrap_succ (show i < 9223372036854775807 by omega)
  have iq := iadX (e := eP) (n := 2) (fun _ => rfl) (by decide) (k := k) hq
  have h3 := pr.rc
  have hkl : K'.length ≤ K.length + i := by have := pr.len; rw [List.length_take] at this; omega
  simp -implicitDefEqProofs only [mkR_nil, mkR_cons, op, ef, cl, sq, reduceIte, q5, q8, q9, j2, j3, j4, j5, j6, j7, S1, List.length_map, g13, hlt, natOf_nat, iq, eP]
  refine callB_of _ _ _ _ _ _ _ _ (rfind34 h3 pr.up (by omega) (q.1, n)) ?_
  rintro u H4 ⟨hx4, hu⟩
  cases hu
  have hx4 : Ext H3 H4 := hx4
  have hno0 : q.1 ∉ (l.take i).map (·.1) := fun hh => by
    have h2 := hnd
    rw [← List.take_append_drop i l, drop_at hq, List.map_append, List.nodup_append] at h2
    exact h2.2.2 _ hh q.1 (by simp) rfl
  have hmem : memN (K'.map Kd.nm) (q.1, n) = (ldAb K L).has (q.1, n) := by
    have e1 : memN (K'.map Kd.nm) (q.1, n) = (ldAb K' L).has (q.1, n) := by
      rw [Bool.eq_iff_iff, memN_iff, ← kdL_key, mem_keys]; rfl
    rw [e1, pr.ab, has_put, mlook_none.2 hno0]; simp
  rw [hmem]
  cases hh : (ldAb K L).has (q.1, n)
  rotate_left
  · have hsn : (ldAb K L).put n (l.take (i + 1)) ks now = (ldAb K L).put n (l.take i) ks now := by
      rw [put_sn hq hnd]
      refine ab_ext (fun m => ?_) fun _ => rfl
      simp only
      rw [if_neg]
      rintro ⟨rfl, hf⟩
      rw [hh] at hf; cases hf
    have hfr := fresh_sn (a := ldAb K L) (n := n) hq
    rw [hh, Bool.not_true, Bool.or_false] at hfr
    simp -implicitDefEqProofs only [mkR_nil, mkR_cons, op, ef, cl, sq, reduceIte, q5, q8, q9, j2, j3, j4, j5, j6, j7, S1, g12, g13, wsi]
    refine ⟨i + 1, by omega, .i ⟨tK', K', G', ?_⟩, by rw [hfr], rfl, hlt⟩
    have p4 := pr.ext hx4
    exact ⟨p4.rc, p4.up, by rw [p4.ab, hsn], by have := p4.len; rw [List.length_take] at this ⊢; omega, p4.frm, p4.gro⟩
  obtain ⟨at_, hat⟩ : ∃ at_, at_ = fiK K' (q.1, n) := ⟨_, rfl⟩
  have hale : at_ ≤ K'.length := by rw [hat]; exact tw_le _ _
  have h4 := h3.ext hx4
  obtain ⟨kk, H5, ha5, hx5, hkk⟩ := app_nil (enc := eS) (n := 1) (bytes := 16) (fun _ => rfl) ks (roomS (by omega) (by omega)) (H4 ++ [B.cells [.str ⟨#[]⟩, .int .u64 0, .str ⟨#[]⟩, .sl .nil [], .int .i64 0]])
  have hall := all_map (enc := eS) (n := 1) (fun _ => rfl) ks
  have c5 : H5[H4.length]? = some (.cells [.str ⟨#[]⟩, .int .u64 0, .str ⟨#[]⟩, .sl .nil [], .int .i64 0]) := hx5.get (g_tail rfl)
  have l5 := glt c5
  have hx45 : Ext H4 H5 := (Ext.rfl'.app _).trans hx5
  rw [← hat]
  simp -implicitDefEqProofs only [mkR_nil, mkR_cons, op, ef, cl, sq, reduceIte, q5, q8, q9, j2, j3, j4, j5, j6, j7, S1, S2, S3, g13, natOf_nat, iq, eP, hall, ha5, c5, l5]
  obtain ⟨H6, hH6⟩ : ∃ H6, H6 = H5.set H4.length (B.cells [.str q.1, .int .u64 n, .str q.2, .sl kk (ks.map eS), .int .i64 (-1)]) := ⟨_, rfl⟩
  have hx46 : Ext H4 H6 := by rw [hH6]; exact hx45.set (Nat.le_refl _) _
  have c6 : H6[H4.length]? = some (.cells [.str q.1, .int .u64 n, .str q.2, .sl kk (ks.map eS), .int .i64 (-1)]) := by rw [hH6]; exact g_eq l5
  rw [← hH6]
  refine callB_of _ _ _ _ _ _ _ _ (rlast56 (h4.ext hx46) hL q.1) ?_
  rintro u H7 ⟨hu, rfl⟩
  cases hu
  have hlast : (ldAb K' L).last q.1 = (ldAb K L).last q.1 := rfl
  rw [hlast]
  simp -implicitDefEqProofs only [mkR_nil, mkR_cons, op, ef, cl, sq, reduceIte, q5, q8, q9, j2, j3, j4, j5, j6, j7, S1]
  refine condC_cut [(0, _), (1, _), (2, _), (3, _), (4, _), (12, _), (13, _), (14, _), (16, _)] (fun R' H' => At H' (fun H' => Ext H4 H' ∧ H'[H4.length]? = some (.cells [.str q.1, .int .u64 n, .str q.2, .sl kk (ks.map eS), .int .i64 (if n < (ldAb K L).last q.1 then now else -1)]))) ?_ ?_
  · have l6 := glt c6
    by_cases hl2 : n < (ldAb K L).last q.1
    · simp -implicitDefEqProofs only [mkR_nil, mkR_cons, op, ef, cl, sq, reduceIte, q5, q8, q9, j2, j3, j4, j5, j6, j7, S1, hl2, c6, l6, normO_n]
      exact .i ⟨hx46.set (Nat.le_refl _) _, g_eq l6⟩
    · simp -implicitDefEqProofs only [mkR_nil, mkR_cons, op, ef, cl, sq, reduceIte, q5, q8, q9, j2, j3, j4, j5, j6, j7, S1, hl2, normO_n]
      exact .i ⟨hx46, c6⟩
  rintro R' H8 ⟨hx8, c8⟩
  have hx8 : Ext H4 H8 := hx8
  have h8 := h4.ext hx8
  obtain ⟨t1, H9, ta, tz, I⟩ := ins_mk (enc := eKd) (n := 5) (bytes := 72) (fun _ => rfl) h8.mK hale (fun j hj => roomT (by omega))
  obtain ⟨x, hx⟩ : ∃ x : Kd, x = ⟨q.1, n, q.2, .arg, ks, if n < (ldAb K L).last q.1 then now else -1⟩ := ⟨_, rfl⟩
  have lt1 : (K'.take at_).length = at_ := by rw [List.length_take]; omega
  obtain ⟨t2, H10, a2, m2, x2, b2⟩ := app_own (enc := eKd) (n := 5) (bytes := 72) (fun _ => rfl) I.m1 I.x1 I.b1 [x] (roomT (by rw [lt1, List.length_singleton]; omega))
  obtain ⟨t3, H11, a3, m3, x3, b3⟩ := app_own (enc := eKd) (n := 5) (bytes := 72) (fun _ => rfl) m2 x2 b2 (K'.drop at_) (roomT (by rw [List.length_append, lt1, List.length_singleton, List.length_drop]; omega))
  have e2 := (h8.ext x2).hp
  have ez := I.ez H10 (h8.ext x2).mK
  have c9 := I.x1.get c8
  rw [ins_fin] at m3
  have hx3 : Ext H3 H8 := hx4.trans hx8
  obtain ⟨hp11, frm11, G2, rc11, gro11⟩ := h3.setK (ext_frm (hx3.trans x3)) m3 (fun c hc => by have := b3 c hc; have := hx3.len; omega) (fun y hy => by
    have hy : y ∈ K'.take at_ ++ x :: K'.drop at_ := hy
    rcases List.mem_append.1 hy with hy | hy
    · exact h3.ko y (List.mem_of_mem_take hy)
    · rcases List.mem_cons.1 hy with hy | hy
      · rw [hy, hx]; exact ⟨rfl, hgk⟩
      · exact h3.ko y (List.mem_of_mem_drop hy))
  have l11 := glt hp11
  have hins : K'.take at_ ++ x :: K'.drop at_ = insK K' x := by rw [insK, hat, hx]; rfl
  have hnm : x.nm = (q.1, n) := by rw [hx]; rfl
  have hvd : x.vd = ⟨q.2, ks, if n < (ldAb K L).last q.1 then now else -1⟩ := by rw [hx]; rfl
  have hno : x.nm ∉ K'.map Kd.nm := fun hh2 => by
    rw [hnm, ← memN_iff, hmem, hh] at hh2; cases hh2
  have hab : ldAb (insK K' x) L = (ldAb K L).put n (l.take (i + 1)) ks now := by
    rw [put_sn hq hnd]
    refine ab_ext (fun m => ?_) fun _ => rfl
    have e1 : (ldAb K' L).v m = ((ldAb K L).put n (l.take i) ks now).v m := by rw [pr.ab]
    show mlook (kdL (insK K' x)) m = _
    rw [insK_look hno, hnm, hvd]
    simp only
    rw [← e1]
    by_cases e : m = (q.1, n)
    · subst e; simp -implicitDefEqProofs only [hh, if_true, and_self]
    · simp -implicitDefEqProofs only [e, if_false, false_and]; rfl
  have hlen := insK_len K' x
  have fgt0 : fgt (.sl .nil []) = .sl .nil [] := rfl
  rw [hins] at rc11
  have hfr := fresh_sn (a := ldAb K L) (n := n) hq
  rw [hh, Bool.not_false, Bool.or_true] at hfr
  simp -implicitDefEqProofs only [hx, eKd, List.map_cons, List.map_nil] at a2
  simp -implicitDefEqProofs only [mkR_nil, mkR_cons, op, ef, cl, sq, reduceIte, q5, q8, q9, j2, j3, j4, j5, j6, j7, S1, g13, h8.hp, ↓I.lo, I.ea, fgt0, I.a1, c9, fgt_mut I.m1, a2, e2, ↓I.hi, ez, fgt_mut m2, a3, hp11, l11, cells_mut m3, wsi]
  exact ⟨i + 1, by omega, .i ⟨t3, _, G2, rc11, insK_up pr.up hno, hab, by rw [hlen, List.length_take]; have := pr.len; rw [List.length_take] at this; omega, pr.frm.trans frm11 fun c hc => by
    rcases pr.gro c hc with h | h
    · exact .inl h
    · exact .inr h.1, pr.gro.trans gro11 pr.frm.1 frm11.1⟩, by rw [hfr], rfl, hlt⟩
end Go.Proofs.YtodegnhallgnkaaGreat.St
end

section
namespace Go.Proofs.YtodegnhallgnkaaGreat.St
open Go.Rmp Go.Proofs.YtodegnhallgnkaaGreat.Ir
set_option maxRecDepth 10000
theorem rputNo {p : Nat} (n : Nat) (k k' : SK) (l : List (ByteArray × ByteArray)) (ks : List ByteArray) (now : Int) {H : Heap} (hl : l.length ≤ 8000000) (hks : ks.length ≤ 8000000) (hm : ¬ (MayP n l ks ∧ TickOk now)) :
    W env (.call 10 [.ptr p 0, .int .u64 n, .sl k (l.map eP), .sl k' (ks.map eS), .int .i64 now]) H (fun o H' => o = .val (.tup [.bool false, .int .i64 1]) ∧ Ext H H') := by
  refine W.fnI rfl rfl rfl ?_
  simp -implicitDefEqProofs only [ir10, op, ef, cl, sq, reduceIte, q5, q8, q9, j2, j3, j4, j5, j6, j7, S1]
  refine callB_of _ _ _ _ _ _ _ _ (rmay81 n k k' l ks _ hl hks) ?_
  rintro u H1 ⟨hx1, bb, hu, hb⟩
  cases hu
  cases bb
  · simp -implicitDefEqProofs only [op, ef, cl, sq, reduceIte, q5, q8, q9, j2, j3, j4, j5, j6, j7, S1]; exact hx1
  · simp -implicitDefEqProofs only [op, ef, cl, sq, reduceIte, q5, q8, q9, j2, j3, j4, j5, j6, j7, S1]
    refine callB_of _ _ _ _ _ _ _ _ (rtick71 now _) ?_
    rintro u H2 ⟨hu, rfl⟩
    cases hu
    have hf : (decide (0 ≤ now) && decide (now ≤ 1099511627776)) = false := by
      rw [Bool.and_eq_false_iff, decide_eq_false_iff_not, decide_eq_false_iff_not]
      have : ¬ TickOk now := fun h => hm ⟨hb.1 rfl, h⟩
      unfold TickOk at this; omega
    simp -implicitDefEqProofs only [op, ef, cl, sq, reduceIte, q5, q8, q9, j2, j3, j4, j5, j6, j7, S1, hf]
    exact hx1
theorem ins_up {α : Type} {lt : α → α → Bool} (tr : ∀ {a b c}, lt a b = true → lt b c = true → lt a c = true) {l : List α} (hs : l.Pairwise (fun a b => lt a b = true)) {x : α} (hd : ∀ y ∈ l, lt y x = false → lt x y = true) {i : Nat} (h1 : ∀ j y, j < i → l[j]? = some y → lt y x = true) (h2 : ∀ y, l[i]? = some y → lt y x = false) :
    (l.take i ++ x :: l.drop i).Pairwise (fun a b => lt a b = true) := by
  have ht : ∀ y ∈ l.take i, lt y x = true := fun y hy => by
    obtain ⟨j, hj, e⟩ := List.getElem_of_mem hy
    rw [List.length_take] at hj
    rw [List.getElem_take] at e
    exact h1 j y (by omega) (by rw [List.getElem?_eq_getElem (by omega), e])
  have hdd : ∀ z ∈ l.drop i, lt x z = true := fun z hz => by
    by_cases hlt : i < l.length
    · obtain ⟨y, hy⟩ := getP hlt
      have h3 := hd y (List.mem_of_getElem? hy) (h2 y hy)
      rcases drop_ge hs hy hz with rfl | h
      · exact h3
      · exact tr h3 h
    · rw [List.drop_eq_nil_of_le (by omega)] at hz; cases hz
  refine List.pairwise_append.2 ⟨hs.sublist (List.take_sublist _ _), List.pairwise_cons.2 ⟨hdd, hs.sublist (List.drop_sublist _ _)⟩, fun y hy z hz => ?_⟩
  rcases List.mem_cons.1 hz with rfl | hz
  · exact ht y hy
  · exact tr (ht y hy) (hdd z hz)
theorem up_set {l : List Nm} (hs : lastsUp l) {i : Nat} {x : Nm} (hx : l[i]? = some x) (n : Nat) : lastsUp (l.set i (x.1, n)) := by
  have e : (l.set i (x.1, n)).map (·.1) = l.map (·.1) := by
    rw [List.map_set]
    refine List.ext_getElem? fun j => ?_
    rw [List.getElem?_set]
    split
    · rename_i hj; subst hj
      rw [List.getElem?_map, hx]; simp
      have := (List.getElem?_eq_some_iff.1 hx).1
      omega
    · rfl
  have h1 : (l.map (·.1)).Pairwise (fun a b => strLt a b = true) := List.pairwise_map.2 hs
  rw [← e] at h1
  exact List.pairwise_map.1 h1
theorem look_set {l : List Nm} (hs : lastsUp l) {i : Nat} {x : Nm} (hx : l[i]? = some x) (n : Nat) (k : ByteArray) : mlook (l.set i (x.1, n)) k = if k = x.1 then some n else mlook l k := by
  have hi := (List.getElem?_eq_some_iff.1 hx).1
  have e : l.set i (x.1, n) = l.take i ++ (x.1, n) :: l.drop (i + 1) := by rw [List.set_eq_take_append_cons_drop, if_pos hi]
  have e0 : l = l.take i ++ x :: l.drop (i + 1) := by rw [← drop_at hx, List.take_append_drop]
  have hno : x.1 ∉ (l.take i).map (·.1) := fun hh => by
    have h2 := hs.nd
    rw [e0, List.map_append, List.nodup_append] at h2
    exact h2.2.2 _ hh x.1 (by simp) rfl
  have h3 : mlook l k = if k = x.1 then some x.2 else mlook (l.take i ++ l.drop (i + 1)) k := by
    conv => lhs; rw [e0]
    exact mlook_ins _ _ _ hno k
  rw [e, mlook_ins (l.take i) (l.drop (i + 1)) (x.1, n) hno, h3]
  by_cases hk : k = x.1
  · simp [hk]
  · simp [hk]
theorem RC.wrL {H : Heap} {p c : Nat} {tK tL : T} {K : List Kd} {L L' : List Nm} {G : Nat → Prop} (h : RC H p tK tL K L G) (hc : tb tL = some c) (hl : L'.length = L.length) : RC (H.set c (.cells (msC eW L'))) p tK tL K L' G ∧ Frm G H (H.set c (.cells (msC eW L'))) := by
  have f : Frm (fun d => d = c) H (H.set c (.cells (msC eW L'))) := (Frm.refl (fun d => d = c) H).set (.inl rfl) _
  have hb := mut_blk h.mL hc
  refine ⟨⟨f.get h.hp fun e => (h.gL c hc).2 e.symm, mut_frm h.mK f fun d hd e => h.ne d hd (e ▸ hc), ?_, h.gp, h.gK, h.gL, h.ne, h.ko⟩, f.mono fun d e => e ▸ (h.gL c hc).1⟩
  rcases h.mL with ⟨_, e⟩ | ⟨c', e, hb', h0⟩
  · rw [e] at hc; cases hc
  · rw [e] at hc; cases hc
    exact .inr ⟨c, by rw [e, hl], g_eq (glt hb'), h0⟩
theorem RC.wrK {H : Heap} {p c : Nat} {tK tL : T} {K K' : List Kd} {L : List Nm} {G : Nat → Prop} (h : RC H p tK tL K L G) (hc : tb tK = some c) (hl : K'.length = K.length) (hko : ∀ x ∈ K', x.kk = .arg ∧ x.keys.length ≤ 1024) : RC (H.set c (.cells (msC eKd K'))) p tK tL K' L G ∧ Frm G H (H.set c (.cells (msC eKd K'))) := by
  have f : Frm (fun d => d = c) H (H.set c (.cells (msC eKd K'))) := (Frm.refl (fun d => d = c) H).set (.inl rfl) _
  have hb := mut_blk h.mK hc
  refine ⟨⟨f.get h.hp fun e => (h.gK c hc).2 e.symm, ?_, mut_frm h.mL f fun d hd e => h.ne c hc (e ▸ hd), h.gp, h.gK, h.gL, h.ne, hko⟩, f.mono fun d e => e ▸ (h.gK c hc).1⟩
  rcases h.mK with ⟨_, e⟩ | ⟨c', e, hb', h0⟩
  · rw [e] at hc; cases hc
  · rw [e] at hc; cases hc
    exact .inr ⟨c, by rw [e, hl], g_eq (glt hb'), h0⟩
end Go.Proofs.YtodegnhallgnkaaGreat.St
end

section
namespace Go.Proofs.YtodegnhallgnkaaGreat.St
open Go.Rmp Go.Proofs.YtodegnhallgnkaaGreat.Ir
set_option maxRecDepth 10000
structure RaiR (H H' : Heap) (p : Nat) (tK : T) (K : List Kd) (L : List Nm) (G : Nat → Prop) (k : ByteArray) (n : Nat) (tL' : T) (L' : List Nm) (G' : Nat → Prop) : Prop where
  rc : RC H' p tK tL' K L' G'
  up : lastsUp L'
  look : ∀ k', mlook L' k' = if k' = k then some n else mlook L k'
  len : L'.length ≤ L.length + 1
  frm : Frm G H H'
  gro : Gro G G' H H'
set_option maxHeartbeats 1000000 in
theorem raise82 {H : Heap} {p : Nat} {tK tL : T} {K : List Kd} {L : List Nm} {G : Nat → Prop} (h : RC H p tK tL K L G) (hs : lastsUp L) (hL : L.length < 8000000) (k : ByteArray) (n : Nat) :
    W env (.call 37 [.ptr p 0, .str k, .int .u64 n]) H (fun o H' => o = .val (.tup []) ∧ ∃ tL' L' G', RaiR H H' p tK K L G k n tL' L' G') := by
  have hlen := len_mut h.mL
  have lp := glt h.hp
  have r0 : ∀ {i : Nat} {x : Nm}, L[i]? = some x → ldcB 1 (i * 2 + 0) (some (.cells (msC eW L))) = some [.str x.1] := fun hx => msC_get (enc := eW) (n := 2) (fun _ => rfl) hx 0 1 (by decide)
  refine W.fnI rfl rfl rfl ?_
  simp -implicitDefEqProofs only [ir37, op, ef, cl, sq, reduceIte, q5, q8, q9, j2, j3, j4, j5, j6, j7, S1]
  refine W.loopX 0 [(0, _), (1, _), (2, _)] (fun (i : Nat) R H' => H' = H ∧ R 6 = .int .i64 i ∧ i ≤ L.length ∧ ∀ j x, j < i → L[j]? = some x → strLt x.1 k = true) (fun i => L.length - i) 0
    (fun R H' => H' = H ∧ ∃ i : Nat, R 6 = .int .i64 i ∧ i ≤ L.length ∧ (∀ j x, j < i → L[j]? = some x → strLt x.1 k = true) ∧ ∀ x, L[i]? = some x → strLt x.1 k = false) ⟨rfl, rfl, Nat.zero_le _, fun j x hj => by omega⟩ ?_ ?_
  · rintro i R H1 ⟨rfl, g6, hi, hall⟩
    by_cases hlt : i < L.length
    · obtain ⟨x, hx⟩ := getP hlt
      obtain ⟨c, hc, ia, _⟩ := mut_n (enc := eW) (n := 2) (fun _ => rfl) (by decide) h.mL hx
      have wsi := wrap_succ (show i < 9223372036854775807 by omega)
      cases hlk : strLt x.1 k
      · simp -implicitDefEqProofs only [mkR_nil, mkR_cons, op, ef, cl, sq, reduceIte, q5, q8, q9, j2, j3, j4, j5, j6, j7, S1, h.hp, hlen, g6, hlt, natOf_nat, ia, hc, r0 hx, hlk]
        exact ⟨i, rfl, hi, hall, fun y hy => by rw [hx] at hy; cases hy; exact hlk⟩
      · simp -implicitDefEqProofs only [mkR_nil, mkR_cons, op, ef, cl, sq, reduceIte, q5, q8, q9, j2, j3, j4, j5, j6, j7, S1, h.hp, hlen, g6, hlt, natOf_nat, ia, hc, r0 hx, hlk, wsi]
        refine ⟨i + 1, by omega, rfl, hlt, fun j y hj hy => ?_⟩
        by_cases e : j = i
        · subst e; rw [hx] at hy; cases hy; exact hlk
        · exact hall j y (by omega) hy
    · simp -implicitDefEqProofs only [mkR_nil, mkR_cons, op, ef, cl, sq, reduceIte, q5, q8, q9, j2, j3, j4, j5, j6, j7, S1, h.hp, hlen, g6, hlt]
      exact ⟨i, rfl, hi, hall, fun y hy => by have := (List.getElem?_eq_some_iff.1 hy).1; omega⟩
  rintro R H1 ⟨rfl, i, g6, hi, hall, hge⟩
  by_cases hin : ∃ x, L[i]? = some x ∧ x.1 = k
  · obtain ⟨x, hx, rfl⟩ := hin
    have hlt := (List.getElem?_eq_some_iff.1 hx).1
    obtain ⟨c, hc, ia, _⟩ := mut_n (enc := eW) (n := 2) (fun _ => rfl) (by decide) h.mL hx
    have hst := msC_set (enc := eW) (n := 2) (y := (x.1, n)) (fun _ => rfl) hx H1 c [.int .u64 n] 1 (by simp) rfl
    have htb := tb_of h.mL hx ia (by decide)
    obtain ⟨rc, fr⟩ := h.wrL (L' := L.set i (x.1, n)) htb (by simp)
    simp -implicitDefEqProofs only [mkR_nil, mkR_cons, op, ef, cl, sq, reduceIte, q5, q8, q9, j2, j3, j4, j5, j6, j7, S1, h.hp, hlen, g6, hlt, natOf_nat, ia, hc, r0 hx, hst]
    exact ⟨rfl, tL, _, G, rc, up_set hs hx n, look_set hs hx n, by simp, fr, Gro.refl _ _ _⟩
  · have hno : ∀ x, L[i]? = some x → x.1 ≠ k := fun x hx e => hin ⟨x, hx, e⟩
    obtain ⟨t1, H2, ta, tz, I⟩ := ins_mk (enc := eW) (n := 2) (bytes := 24) (fun _ => rfl) h.mL hi (fun j hj => roomT (by omega))
    have lt1 : (L.take i).length = i := by rw [List.length_take]; omega
    obtain ⟨t2, H3, a2, m2, x2, b2⟩ := app_own (enc := eW) (n := 2) (bytes := 24) (fun _ => rfl) I.m1 I.x1 I.b1 [(k, n)] (roomT (by rw [lt1, List.length_singleton]; omega))
    obtain ⟨t3, H4, a3, m3, x3, b3⟩ := app_own (enc := eW) (n := 2) (bytes := 24) (fun _ => rfl) m2 x2 b2 (L.drop i) (roomT (by rw [List.length_append, lt1, List.length_singleton, List.length_drop]; omega))
    have e2 := (h.ext x2).hp
    have ez := I.ez H3 (h.ext x2).mL
    rw [ins_fin] at m3
    obtain ⟨hp4, frm4, G2, rc4, gro4⟩ := h.setL (ext_frm x3) m3 b3
    have l4 := glt hp4
    have fgt0 : fgt (.sl .nil []) = .sl .nil [] := rfl
    simp -implicitDefEqProofs only [eW, List.map_cons, List.map_nil] at a2
    have knot : k ∉ (L.take i).map (·.1) := fun hh => by
      obtain ⟨y, hy, e⟩ := List.mem_map.1 hh
      obtain ⟨j, hj, e2⟩ := List.getElem_of_mem hy
      rw [List.length_take] at hj
      rw [List.getElem_take] at e2
      have := hall j y (by omega) (by rw [List.getElem?_eq_getElem (by omega), e2])
      rw [e, lt_irr] at this; cases this
    have fin : ∃ tL' L' G', RaiR H1 (H4.set p (.cells [tK, t3])) p tK K L G k n tL' L' G' := by
      refine ⟨t3, _, G2, rc4, ?_, fun k' => ?_, ?_, frm4, gro4⟩
      · refine ins_up (lt := fun a b : Nm => strLt a.1 b.1) (fun h1 h2 => lt_trans' h1 h2) hs (x := (k, n)) (fun y hy hf => ?_) hall hge
        cases e : strLt k y.1 with
        | true => rfl
        | false =>
          exfalso
          have e3 := lt_tri hf e
          by_cases hlt : i < L.length
          · obtain ⟨x, hx⟩ := getP hlt
            obtain ⟨j, hj, ej⟩ := List.getElem_of_mem hy
            have hyj : L[j]? = some y := by rw [List.getElem?_eq_getElem hj, ej]
            by_cases c1 : j < i
            · have := hall j y c1 hyj; rw [e3, lt_irr] at this; cases this
            · by_cases c2 : j = i
              · subst c2; exact hno y hyj e3
              · have h1 := List.pairwise_iff_getElem.1 hs i j hlt hj (by omega)
                rw [ej, (List.getElem?_eq_some_iff.1 hx).2] at h1
                have h2 := hge x hx
                rw [e3] at h1; rw [h1] at h2; cases h2
          · obtain ⟨j, hj, ej⟩ := List.getElem_of_mem hy
            have := hall j y (by omega) (by rw [List.getElem?_eq_getElem hj, ej])
            rw [e3, lt_irr] at this; cases this
      · have := mlook_ins (L.take i) (L.drop i) (k, n) knot k'
        rw [List.take_append_drop] at this
        exact this
      · simp -implicitDefEqProofs only [List.length_append, List.length_take, List.length_cons, List.length_drop]; omega
    by_cases hlt : i < L.length
    · obtain ⟨x, hx⟩ := getP hlt
      obtain ⟨c, hc, ia, _⟩ := mut_n (enc := eW) (n := 2) (fun _ => rfl) (by decide) h.mL hx
      have hne := hno x hx
      simp -implicitDefEqProofs only [mkR_nil, mkR_cons, op, ef, cl, sq, reduceIte, q5, q8, q9, j2, j3, j4, j5, j6, j7, S1, h.hp, hlen, g6, hlt, natOf_nat, ia, hc, r0 hx, hne, ↓I.lo, I.ea, fgt0, I.a1, fgt_mut I.m1, a2, e2, ↓I.hi, ez, fgt_mut m2, a3, hp4, l4, cells_mut m3]
      exact ⟨rfl, fin⟩
    · simp -implicitDefEqProofs only [mkR_nil, mkR_cons, op, ef, cl, sq, reduceIte, q5, q8, q9, j2, j3, j4, j5, j6, j7, S1, h.hp, hlen, g6, hlt, natOf_nat, ↓I.lo, I.ea, fgt0, I.a1, fgt_mut I.m1, a2, e2, ↓I.hi, ez, fgt_mut m2, a3, hp4, l4, cells_mut m3]
      exact ⟨rfl, fin⟩
end Go.Proofs.YtodegnhallgnkaaGreat.St
end

section
namespace Go.Proofs.YtodegnhallgnkaaGreat.St
open Go.Rmp Go.Proofs.YtodegnhallgnkaaGreat.Ir
set_option maxRecDepth 10000
def cntK (K : List Kd) (n : Nat) : Nat := (K.filter fun x => decide (x.id = n)).length
theorem cnt_sn {K : List Kd} {i n : Nat} {x : Kd} (hx : K[i]? = some x) : cntK (K.take (i + 1)) n = cntK (K.take i) n + if x.id = n then 1 else 0 := by
  unfold cntK
  rw [take_sn hx, List.filter_append, List.length_append]
  by_cases e : x.id = n <;> simp [e]
theorem cnt_le (K : List Kd) (n : Nat) : cntK K n ≤ K.length := List.length_filter_le _ _
def stF (last : ByteArray → Nat) (now : Int) (x : Kd) : Kd := if x.stamp = -1 ∧ x.id < last x.key then { x with stamp := now } else x
theorem stF_nm (last : ByteArray → Nat) (now : Int) (x : Kd) : (stF last now x).nm = x.nm := by unfold stF; split <;> rfl
theorem stF_ko (last : ByteArray → Nat) (now : Int) (x : Kd) (h : x.kk = .arg ∧ x.keys.length ≤ 1024) : (stF last now x).kk = .arg ∧ (stF last now x).keys.length ≤ 1024 := by unfold stF; split <;> exact h
theorem stF_up {K : List Kd} (h : keptUp K) (last : ByteArray → Nat) (now : Int) : keptUp (K.map (stF last now)) := List.pairwise_map.2 (h.imp fun {a b} hab => by rw [stF_nm, stF_nm]; exact hab)
theorem look_map {K : List Kd} (hs : keptUp K) (f : Kd → Kd) (hf : ∀ x, (f x).nm = x.nm) (m : Nm) : mlook (kdL (K.map f)) m = (K.find? fun x => decide (x.nm = m)).map fun x => (f x).vd := by
  induction K with
  | nil => rfl
  | cons x K ih =>
    unfold keptUp at hs
    rw [List.pairwise_cons] at hs
    rw [List.map_cons, kdL_cons, mlook_cons, hf, List.find?_cons, ih hs.2]
    by_cases e : m = x.nm
    · subst e; simp
    · have e2 : ¬ x.nm = m := fun h => e h.symm
      simp [e, e2]
theorem look_find {K : List Kd} (hs : keptUp K) (m : Nm) : mlook (kdL K) m = (K.find? fun x => decide (x.nm = m)).map Kd.vd := by
  have := look_map hs id (fun _ => rfl) m
  rwa [List.map_id] at this
set_option maxHeartbeats 2000000 in
theorem rcommit52 {H : Heap} {p : Nat} {tK tL : T} {K : List Kd} {L : List Nm} {G : Nat → Prop} (h : RC H p tK tL K L G) (hs : keptUp K) (hl : lastsUp L) (hS : AbS (ldAb K L)) (hK : K.length ≤ 4000000) (hL : L.length ≤ 4000000) (n : Nat) (now : Int) (hid : 65536 ≤ n) (ht : TickOk now) :
    W env (.call 12 [.ptr p 0, .int .u64 n, .int .i64 now]) H (fun o H' => o = .val (.tup [.int .i64 (cntK K n), .int .i64 0]) ∧ ∃ tL' K' L' G', RC H' p tK tL' K' L' G' ∧ keptUp K' ∧ lastsUp L' ∧ ldAb K' L' = (ldAb K L).com n now ∧ K'.length = K.length ∧ Frm G H H' ∧ Gro G G' H H') := by
  have hlen := len_mut h.mK
  have hhas : ∀ k, memN (K.map Kd.nm) (k, n) = (ldAb K L).has (k, n) := fun k => by
    rw [Bool.eq_iff_iff, memN_iff, ← kdL_key, mem_keys]; rfl
  refine W.fnI rfl rfl rfl ?_
  simp -implicitDefEqProofs only [ir12, op, ef, cl, sq, reduceIte, q5, q8, q9, j2, j3, j4, j5, j6, j7, S1]
  refine callB_of _ _ _ _ _ _ _ _ (rid68 n _) ?_
  rintro u H1 ⟨hu, rfl⟩
  cases hu
  have hd : decide (65536 ≤ n) = true := decide_eq_true hid
  simp -implicitDefEqProofs only [op, ef, cl, sq, reduceIte, q5, q8, q9, j2, j3, j4, j5, j6, j7, S1, hd]
  refine callB_of _ _ _ _ _ _ _ _ (rtick71 now _) ?_
  rintro u H1 ⟨hu, rfl⟩
  cases hu
  have htk : (decide (0 ≤ now) && decide (now ≤ 1099511627776)) = true := by simp [ht.1, ht.2]
  simp -implicitDefEqProofs only [op, ef, cl, sq, reduceIte, q5, q8, q9, j2, j3, j4, j5, j6, j7, S1, htk]
  refine W.loopX 0 [(0, _), (1, _), (2, _)] (fun (i : Nat) R H' => At H' (fun H' => ∃ tL' L' G', RC H' p tK tL' K L' G' ∧ lastsUp L' ∧ L'.length ≤ L.length + i ∧ (∀ k, mlook L' k = if memN ((K.take i).map Kd.nm) (k, n) = true ∧ (ldAb K L).last k < n then some n else mlook L k) ∧ Frm G H1 H' ∧ Gro G G' H1 H') ∧ R 8 = .int .i64 (cntK (K.take i) n) ∧ R 9 = .int .i64 i ∧ i ≤ K.length) (fun i => K.length - i) 0
    (fun R H' => At H' (fun H' => ∃ tL' L' G', RC H' p tK tL' K L' G' ∧ lastsUp L' ∧ L'.length ≤ L.length + K.length ∧ (∀ k, mlook L' k = ((ldAb K L).com n now).l k) ∧ Frm G H1 H' ∧ Gro G G' H1 H') ∧ R 8 = .int .i64 (cntK K n)) ⟨.i ⟨tL, L, G, h, hl, by omega, fun k => by simp [memN], Frm.refl _ _, Gro.refl _ _ _⟩, rfl, rfl, Nat.zero_le _⟩ ?_ ?_
  · rintro i R H2 ⟨⟨tL', L', G', h2, hl2, hn2, hk2, f2, g2⟩, g8, g9, hi⟩
    by_cases hlt : i < K.length
    rotate_left
    · have hie : i = K.length := by omega
      subst hie
      rw [List.take_length] at g8 hk2
      simp -implicitDefEqProofs only [mkR_nil, mkR_cons, op, ef, cl, sq, reduceIte, q5, q8, q9, j2, j3, j4, j5, j6, j7, S1, h2.hp, hlen, g8, g9, hlt]
      refine ⟨tL', L', G', h2, hl2, hn2, fun k => ?_, f2, g2⟩
      rw [hk2, hhas]; rfl
    obtain ⟨x, hx⟩ := getP hlt
    obtain ⟨c, hc, ia, _⟩ := mut_n (enc := eKd) (n := 5) (fun _ => rfl) (by decide) h2.mK hx
    have wsi := wrap_succ (show i < 9223372036854775807 by omega)
    have hcl := cnt_le (K.take i) n
    rw [List.length_take] at hcl
    have wsc := wrap_succ (show cntK (K.take i) n < 9223372036854775807 by omega)
    have r0 : ldcB 4 (i * 5 + 0) (some (.cells (msC eKd K))) = some [.str x.key, .int .u64 x.id, .str x.value, .sl x.kk (x.keys.map eS)] := msC_get (enc := eKd) (n := 5) (fun _ => rfl) hx 0 4 (by decide)
    have hcn := cnt_sn (n := n) hx
    obtain ⟨H3, hH3⟩ : ∃ H3, H3 = H2 ++ [B.cells [T.str x.key, .int .u64 x.id, .str x.value, .sl x.kk (x.keys.map eS)]] := ⟨_, rfl⟩
    have hx3 : Ext H2 H3 := ⟨_, hH3⟩
    have c0 : H3[H2.length]? = some (.cells [T.str x.key, .int .u64 x.id, .str x.value, .sl x.kk (x.keys.map eS)]) := by rw [hH3]; exact g_tail rfl
    have h3 := h2.ext hx3
    have memsn : ∀ k, memN ((K.take (i + 1)).map Kd.nm) (k, n) = (memN ((K.take i).map Kd.nm) (k, n) || decide (x.nm = (k, n))) := fun k => by
      rw [take_sn hx]; simp [memN, List.any_append]
    by_cases hxn : x.id = n
    rotate_left
    · have hm : ∀ k, decide (x.nm = (k, n)) = false := fun k => decide_eq_false fun e => hxn (congrArg Prod.snd e)
      rw [if_neg hxn] at hcn
      simp -implicitDefEqProofs only [mkR_nil, mkR_cons, op, ef, cl, sq, reduceIte, q5, q8, q9, j2, j3, j4, j5, j6, j7, S1, S2, S3, h2.hp, hlen, g8, g9, hlt, natOf_nat, ia, hc, r0, hxn, wsi]
      rw [← hH3]
      exact ⟨i + 1, by omega, .i ⟨tL', L', G', h3, hl2, by omega, fun k => by rw [hk2, memsn, hm, Bool.or_false], f2.ext hx3, fun c hc => (g2 c hc).imp id fun h => ⟨h.1, by have := hx3.len; omega⟩⟩, by rw [hcn]; rfl, rfl, hlt⟩
    rw [if_pos hxn] at hcn
    subst hxn
    simp -implicitDefEqProofs only [mkR_nil, mkR_cons, op, ef, cl, sq, reduceIte, q5, q8, q9, j2, j3, j4, j5, j6, j7, S1, S2, S3, h2.hp, hlen, g8, g9, hlt, natOf_nat, ia, hc, r0, wsc]
    rw [← hH3]
    have hni : memN ((K.take i).map Kd.nm) x.nm = false := memN_no fun hh => by
      have h4 := hs.nd
      rw [← List.take_append_drop i K, drop_at hx, List.map_append, List.nodup_append] at h4
      exact h4.2.2 _ hh x.nm (by simp) rfl
    have exn : x.nm = (x.key, x.id) := rfl
    rw [exn] at hni
    have hla : (ldAb K L').last x.key = (ldAb K L).last x.key := by
      show (mlook L' x.key).getD 0 = (mlook L x.key).getD 0
      rw [hk2, hni]; simp
    refine callB_of _ _ _ _ _ _ _ _ (rlast56 h3 (by omega) x.key) ?_
    rintro u H4 ⟨hu, rfl⟩
    cases hu
    rw [hla]
    have hkk : ∀ k, k ≠ x.key → decide (x.nm = (k, x.id)) = false := fun k e => decide_eq_false fun e2 => e (congrArg Prod.fst e2).symm
    have hkx : decide (x.nm = (x.key, x.id)) = true := decide_eq_true rfl
    by_cases hl3 : (ldAb K L).last x.key < x.id
    · simp -implicitDefEqProofs only [mkR_nil, mkR_cons, op, ef, cl, sq, reduceIte, q5, q8, q9, j2, j3, j4, j5, j6, j7, S1, hl3, c0]
      refine callB_of _ _ _ _ _ _ _ _ (raise82 h3 hl2 (by omega) x.key x.id) ?_
      rintro u H5 ⟨hu, tL2, L2, G2, rr⟩
      cases hu
      simp -implicitDefEqProofs only [mkR_nil, mkR_cons, op, ef, cl, sq, reduceIte, q5, q8, q9, j2, j3, j4, j5, j6, j7, S1, g9, wsi]
      have f3 := f2.ext hx3
      have g3 : Gro G G' H1 H4 := fun c hc => (g2 c hc).imp id fun h => ⟨h.1, by have := hx3.len; omega⟩
      refine ⟨i + 1, by omega, .i ⟨tL2, L2, G2, rr.rc, rr.up, by have := rr.len; omega, fun k => ?_, f3.trans rr.frm fun c hc => (g3 c hc).imp id And.left, g3.trans rr.gro f3.1 rr.frm.1⟩, by rw [hcn], rfl, hlt⟩
      rw [rr.look, hk2, memsn]
      by_cases e : k = x.key
      · subst e; simp -implicitDefEqProofs only [hkx, Bool.or_true, hl3, and_self, if_true]
      · simp -implicitDefEqProofs only [hkk k e, Bool.or_false, e, if_false]
    · simp -implicitDefEqProofs only [mkR_nil, mkR_cons, op, ef, cl, sq, reduceIte, q5, q8, q9, j2, j3, j4, j5, j6, j7, S1, hl3, g9, wsi]
      refine ⟨i + 1, by omega, .i ⟨tL', L', G', h3, hl2, by omega, fun k => ?_, f2.ext hx3, fun c hc => (g2 c hc).imp id fun h => ⟨h.1, by have := hx3.len; omega⟩⟩, by rw [hcn], rfl, hlt⟩
      rw [hk2, memsn]
      by_cases e : k = x.key
      · subst e; simp -implicitDefEqProofs only [hl3, and_false, if_false]
      · simp -implicitDefEqProofs only [hkk k e, Bool.or_false]
  rintro R H2 ⟨⟨tL', L', G', h2, hl2, hn2, hk2, f2, g2⟩, g8⟩
  obtain ⟨f, hf⟩ : ∃ f, f = stF (ldAb K L').last now := ⟨_, rfl⟩
  have fko : ∀ j, ∀ x ∈ mapTo f K j, x.kk = .arg ∧ x.keys.length ≤ 1024 := fun j x hx => by
    rcases List.mem_append.1 hx with hx | hx
    · obtain ⟨y, hy, rfl⟩ := List.mem_map.1 hx
      rw [hf]; exact stF_ko _ _ _ (h2.ko y (List.mem_of_mem_take hy))
    · exact h2.ko x (List.mem_of_mem_drop hx)
  simp -implicitDefEqProofs only [mkR_nil, mkR_cons, op, ef, cl, sq, reduceIte, q5, q8, q9, j2, j3, j4, j5, j6, j7, S1]
  refine W.loopV [(0, _), (2, _), (8, _)] (fun (j : Nat) R H' => At H' (fun H' => RC H' p tK tL' (mapTo f K j) L' G' ∧ Frm G' H2 H') ∧ R 11 = .int .i64 j ∧ j ≤ K.length) (fun j => K.length - j) 0 ⟨.i ⟨by rw [mapTo_0]; exact h2, Frm.refl _ _⟩, rfl, Nat.zero_le _⟩ ?_
  rintro j R H3 ⟨⟨h3, f3⟩, g11, hj⟩
  by_cases hlt : j < K.length
  rotate_left
  · have hje : j = K.length := by omega
    subst hje
    rw [mapTo_end] at h3
    have ho : ∀ c, G' c → G c ∨ H1.length ≤ c := fun c hc => (g2 c hc).imp id And.left
    simp -implicitDefEqProofs only [mkR_nil, mkR_cons, op, ef, cl, sq, reduceIte, q5, q8, q9, j2, j3, j4, j5, j6, j7, S1, h3.hp, hlen, g8, g11, hlt]
    refine ⟨tL', K.map f, L', G', h3, by rw [hf]; exact stF_up hs _ _, hl2, ?_, by simp, f2.trans f3 ho, fun c hc => (g2 c hc).imp id fun h => ⟨h.1, by have := f3.1; omega⟩⟩
    have hlast : ∀ k, (ldAb K L').last k = ((ldAb K L).com n now).last k := fun k => by
      show (mlook L' k).getD 0 = (((ldAb K L).com n now).l k).getD 0
      rw [hk2]
    refine ab_ext (fun m => ?_) hk2
    show mlook (kdL (K.map f)) m = ((ldAb K L).v m).map _
    have ev : (ldAb K L).v m = (K.find? fun x => decide (x.nm = m)).map Kd.vd := look_find hs m
    rw [look_map hs f (fun x => by rw [hf]; exact stF_nm _ _ _), ev]
    cases hfi : K.find? (fun x => decide (x.nm = m)) with
    | none => rfl
    | some x =>
      have hxm : x.nm = m := by simpa using List.find?_some hfi
      rw [hfi] at ev
      have hSm := hS m x.vd ev
      have e1 : x.vd.stamp = x.stamp := rfl
      have e2 : m.1 = x.key := by rw [← hxm]; rfl
      have e3 : m.2 = x.id := by rw [← hxm]; rfl
      rw [e1, e2, e3] at hSm
      have hl4 := hlast x.key
      rw [last_com] at hl4
      simp -implicitDefEqProofs only [Option.map_some, Option.some.injEq, e1, e2, e3]
      rw [hf]
      unfold stF
      rw [hl4]
      by_cases hst : x.stamp = -1
      · by_cases hc : (ldAb K L).has (x.key, n) = true ∧ (ldAb K L).last x.key < n
        · rw [if_pos hc]
          by_cases hlt5 : x.id < n
          · rw [if_pos ⟨hst, hlt5⟩, if_pos ⟨hst, hc.1, hc.2, hlt5⟩]; rfl
          · rw [if_neg fun h => hlt5 h.2, if_neg fun h => hlt5 h.2.2.2]
        · rw [if_neg hc, if_neg fun h => hSm.1 hst h.2, if_neg fun h => hc ⟨h.2.1, h.2.2.1⟩]
      · rw [if_neg fun h => hst h.1, if_neg fun h => hst h.1]
  obtain ⟨x, hx⟩ := getP hlt
  have hxm := mapTo_get (f := f) hx
  have hlm : (mapTo f K j).length = K.length := mapTo_len
  obtain ⟨c, hc, ia, _⟩ := mut_n (enc := eKd) (n := 5) (fun _ => rfl) (by decide) h3.mK hxm
  have wsj := wrap_succ (show j < 9223372036854775807 by omega)
  have r4 : ldcB 1 (j * 5 + 4) (some (.cells (msC eKd (mapTo f K j)))) = some [.int .i64 x.stamp] := msC_get (enc := eKd) (n := 5) (fun _ => rfl) hxm 4 1 (by decide)
  have r1 : ldcB 1 (j * 5 + 0 + 1) (some (.cells (msC eKd (mapTo f K j)))) = some [.int .u64 x.id] := msC_get (enc := eKd) (n := 5) (fun _ => rfl) hxm 1 1 (by decide)
  have r0 : ldcB 1 (j * 5 + 0 + 0) (some (.cells (msC eKd (mapTo f K j)))) = some [.str x.key] := msC_get (enc := eKd) (n := 5) (fun _ => rfl) hxm 0 1 (by decide)
  have same : f x = x → RC H3 p tK tL' (mapTo f K (j + 1)) L' G' := fun e => by rw [mapTo_same hx e]; exact h3
  by_cases hst : x.stamp = -1
  rotate_left
  · have hb : (x.stamp == -1) = false := by simp [hst]
    simp -implicitDefEqProofs only [mkR_nil, mkR_cons, op, ef, cl, sq, reduceIte, q5, q8, q9, j2, j3, j4, j5, j6, j7, S1, h3.hp, hlen, g8, g11, hlt, natOf_nat, ia, hc, r4, hst, hb, wsj]
    exact ⟨j + 1, by omega, .i ⟨same (by rw [hf]; unfold stF; rw [if_neg fun h => hst h.1]), f3⟩, rfl, hlt⟩
  have hb : (x.stamp == -1) = true := by simp [hst]
  simp -implicitDefEqProofs only [mkR_nil, mkR_cons, op, ef, cl, sq, reduceIte, q5, q8, q9, j2, j3, j4, j5, j6, j7, S1, h3.hp, hlen, g8, g11, hlt, natOf_nat, ia, hc, r4, r1, r0, hst]
  refine callB_of _ _ _ _ _ _ _ _ (rlast56 h3 (by omega) x.key) ?_
  rintro u H4 ⟨hu, rfl⟩
  cases hu
  have hlq : (ldAb (mapTo f K j) L').last x.key = (ldAb K L').last x.key := rfl
  rw [hlq]
  by_cases hl5 : x.id < (ldAb K L').last x.key
  · have hfx : f x = { x with stamp := now } := by rw [hf]; unfold stF; rw [if_pos ⟨hst, hl5⟩]
    have hset := msC_set (enc := eKd) (n := 5) (y := f x) (fun _ => rfl) hxm H4 c [.int .i64 now] 4 (by simp) (by rw [hfx]; rfl)
    have htb := tb_of h3.mK hxm ia (by decide)
    obtain ⟨rc, fr⟩ := h3.wrK (K' := (mapTo f K j).set j (f x)) htb (by simp) (by rw [mapTo_set hx]; exact fko (j + 1))
    simp -implicitDefEqProofs only [mkR_nil, mkR_cons, op, ef, cl, sq, reduceIte, q5, q8, q9, j2, j3, j4, j5, j6, j7, S1, hl5, h3.hp, g8, g11, natOf_nat, ia, hc, r1, r0, hset, wsj]
    rw [mapTo_set hx] at rc fr ⊢
    exact ⟨j + 1, by omega, .i ⟨rc, f3.trans fr fun _ h => .inl h⟩, rfl, hlt⟩
  · simp -implicitDefEqProofs only [mkR_nil, mkR_cons, op, ef, cl, sq, reduceIte, q5, q8, q9, j2, j3, j4, j5, j6, j7, S1, hl5, h3.hp, g8, g11, hc, r1, r0, wsj]
    exact ⟨j + 1, by omega, .i ⟨same (by rw [hf]; unfold stF; rw [if_neg fun h => hl5 h.2]), f3⟩, rfl, hlt⟩
end Go.Proofs.YtodegnhallgnkaaGreat.St
end

section
namespace Go.Proofs.YtodegnhallgnkaaGreat.St
open Go.Rmp Go.Proofs.YtodegnhallgnkaaGreat.Ir
set_option maxRecDepth 10000
theorem has_mem {K : List Kd} {L : List Nm} (m : Nm) : memN (K.map Kd.nm) m = (ldAb K L).has m := by
  rw [Bool.eq_iff_iff, memN_iff, ← kdL_key, mem_keys]; rfl
theorem cutK_up {K : List Kd} (hs : keptUp K) (i : Nat) : keptUp (K.take i ++ K.drop (i + 1)) := by
  have : (K.take i ++ K.drop (i + 1)).Sublist K := by
    conv => rhs; rw [← List.take_append_drop i K]
    refine List.Sublist.append (List.Sublist.refl _) ?_
    rw [← List.drop_drop]
    exact List.drop_sublist _ _
  exact hs.sublist this
theorem cutK_ab {K : List Kd} {L : List Nm} (hs : keptUp K) {i : Nat} {x : Kd} (hx : K[i]? = some x) : ldAb (K.take i ++ K.drop (i + 1)) L = (ldAb K L).cut x.nm := by
  refine ab_ext (fun m => ?_) fun _ => rfl
  have e0 : K = K.take i ++ x :: K.drop (i + 1) := by rw [← drop_at hx, List.take_append_drop]
  have hno : x.nm ∉ (kdL (K.take i) ++ kdL (K.drop (i + 1))).map (·.1) := fun hh => by
    have h2 := hs.nd
    rw [e0, List.map_append, List.map_cons, List.nodup_append, List.nodup_cons] at h2
    rw [List.map_append, kdL_key, kdL_key] at hh
    rcases List.mem_append.1 hh with hh | hh
    · exact h2.2.2 _ hh x.nm (by simp) rfl
    · exact h2.2.1.1 hh
  show mlook (kdL (K.take i ++ K.drop (i + 1))) m = if m = x.nm then none else mlook (kdL K) m
  rw [kdL_app, mlook_cut _ _ (x.nm, x.vd) hno, ← kdL_cons, ← kdL_app, ← e0]
set_option maxHeartbeats 1000000 in
theorem rdrop53 {H : Heap} {p : Nat} {tK tL : T} {K : List Kd} {L : List Nm} {G : Nat → Prop} (h : RC H p tK tL K L G) (hs : keptUp K) (hK : K.length ≤ 8000000) (hL : L.length ≤ 8000000) (k : ByteArray) (n : Nat) :
    W env (.call 47 [.ptr p 0, .str k, .int .u64 n]) H (fun o H' =>
      ((ldAb K L).v (k, n) = none ∧ o = .val (.int .i64 110) ∧ Ext H H') ∨ ((ldAb K L).has (k, n) = true ∧ ¬ n < (ldAb K L).last k ∧ o = .val (.int .i64 1) ∧ Ext H H') ∨
      ((ldAb K L).has (k, n) = true ∧ n < (ldAb K L).last k ∧ o = .val (.int .i64 0) ∧ ∃ tK' K' G', RC H' p tK' tL K' L G' ∧ keptUp K' ∧ ldAb K' L = (ldAb K L).cut (k, n) ∧ K'.length ≤ K.length ∧ Frm G H H' ∧ Gro G G' H H')) := by
  refine W.fnI rfl rfl rfl ?_
  simp -implicitDefEqProofs only [ir47, op, ef, cl, sq, reduceIte, q5, q8, q9, j2, j3, j4, j5, j6, j7, S1]
  refine callB_of _ _ _ _ _ _ _ _ (rfind34 h hs hK (k, n)) ?_
  rintro u H1 ⟨hx1, hu⟩
  cases hu
  have hx1 : Ext H H1 := hx1
  have h1 := h.ext hx1
  have hmem := has_mem (K := K) (L := L) (k, n)
  cases hh : memN (K.map Kd.nm) (k, n)
  · rw [hh] at hmem
    have hv : (ldAb K L).v (k, n) = none := by
      have := hmem.symm
      simpa [Ab.has] using this
    simp -implicitDefEqProofs only [op, ef, cl, sq, reduceIte, q5, q8, q9, j2, j3, j4, j5, j6, j7, S1]
    exact .inl ⟨hv, hx1⟩
  obtain ⟨x, hx, hxm⟩ := (fiK_mem hs (k, n)).1 hh
  obtain ⟨i, hi⟩ : ∃ i, i = fiK K (k, n) := ⟨_, rfl⟩
  rw [← hi] at hx ⊢
  rw [hh] at hmem
  have hlt := (List.getElem?_eq_some_iff.1 hx).1
  simp -implicitDefEqProofs only [op, ef, cl, sq, reduceIte, q5, q8, q9, j2, j3, j4, j5, j6, j7, S1]
  refine callB_of _ _ _ _ _ _ _ _ (rlast56 h1 hL k) ?_
  rintro u H2 ⟨hu, rfl⟩
  cases hu
  by_cases hlk : n < (ldAb K L).last k
  rotate_left
  · have hge : (ldAb K L).last k ≤ n := by omega
    simp -implicitDefEqProofs only [op, ef, cl, sq, reduceIte, q5, q8, q9, j2, j3, j4, j5, j6, j7, S1, hge]
    exact .inr (.inl ⟨hmem.symm, hlk, hx1⟩)
  have hge : ¬ (ldAb K L).last k ≤ n := by omega
  obtain ⟨t1, H3, ta, _, I⟩ := ins_mk (enc := eKd) (n := 5) (bytes := 72) (fun _ => rfl) h1.mK (i := i) (by omega) (fun j hj => roomT (by omega))
  obtain ⟨tz, hz, ez⟩ := sll_hi (enc := eKd) (n := 5) (fun _ => rfl) h1.mK (i := i + 1) (by omega)
  have lt1 : (K.take i).length = i := by rw [List.length_take]; omega
  obtain ⟨t2, H4, a2, m2, x2, b2⟩ := app_own (enc := eKd) (n := 5) (bytes := 72) (fun _ => rfl) I.m1 I.x1 I.b1 (K.drop (i + 1)) (roomT (by rw [lt1, List.length_drop]; omega))
  have h3 := h1.ext I.x1
  have e3 := h3.hp
  have ez3 := ez H3 h3.mK
  obtain ⟨hp4, frm4, G2, rc4, gro4⟩ := h.setK (ext_frm (hx1.trans x2)) m2 (fun c hc => by have := b2 c hc; have := hx1.len; omega) (fun y hy => by
    rcases List.mem_append.1 hy with hy | hy
    · exact h.ko y (List.mem_of_mem_take hy)
    · exact h.ko y (List.mem_of_mem_drop hy))
  have l4 := glt hp4
  have fgt0 : fgt (.sl .nil []) = .sl .nil [] := rfl
  have wsi := wrap_succ (show i < 9223372036854775807 by omega)
  simp -implicitDefEqProofs only [op, ef, cl, sq, reduceIte, q5, q8, q9, j2, j3, j4, j5, j6, j7, S1, hge, h1.hp, ↓I.lo, I.ea, fgt0, I.a1, wsi, fgt_mut I.m1, e3, ↓hz, ez3, a2, hp4, l4, cells_mut m2]
  refine .inr (.inr ⟨hmem.symm, hlk, t2, _, G2, rc4, cutK_up hs i, by rw [cutK_ab hs hx, hxm], ?_, frm4, gro4⟩)
  simp -implicitDefEqProofs only [List.length_append, List.length_take, List.length_drop]; omega
theorem look_at {K : List Kd} {L : List Nm} (hs : keptUp K) {i : Nat} {x : Kd} (hx : K[i]? = some x) : (ldAb K L).v x.nm = some x.vd := by
  have hnd : ((kdL K).map (·.1)).Nodup := by rw [kdL_key]; exact hs.nd
  exact mlook_of hnd (p := (x.nm, x.vd)) (List.mem_map.2 ⟨x, List.mem_of_getElem? hx, rfl⟩)
end Go.Proofs.YtodegnhallgnkaaGreat.St
end

section
namespace Go.Proofs.YtodegnhallgnkaaGreat.St
open Go.Rmp Go.Proofs.YtodegnhallgnkaaGreat.Ir
set_option maxRecDepth 10000
end Go.Proofs.YtodegnhallgnkaaGreat.St
end

section
namespace Go.Proofs.YtodegnhallgnkaaGreat.St
open Go.Rmp Go.Proofs.YtodegnhallgnkaaGreat.Ir
set_option maxRecDepth 10000
section
variable {H H' : Heap} {q p m m' : Nat} {b b' : Bk} {a a' : Ab} {F F' G G' : Nat → Prop} {tK tL tK' tL' : T} {K K' : List Kd} {L L' : List Nm}
end
structure RfA (a : Ab) (K : List Kd) (L : List Nm) : Prop where
  up : keptUp K
  lu : lastsUp L
  ab : ldAb K L = a
  w : AbW a
section
variable {a : Ab} {K : List Kd} {L : List Nm}
theorem RfA.names (h : RfA a K L) : Names a (K.map Kd.nm) := ⟨List.pairwise_map.2 h.up, fun m => by
  rw [← memN_iff, has_mem (L := L), h.ab]⟩
theorem RfA.enc (h : RfA a K L) (hk : ∀ x ∈ K, x.kk = .arg) : K.map eKd = (K.map Kd.nm).map (eKA a) := by
  rw [List.map_map]
  refine List.map_congr_left fun x hx => ?_
  obtain ⟨i, hi, e⟩ := List.getElem_of_mem hx
  have := look_at (L := L) h.up (i := i) (x := x) (by rw [List.getElem?_eq_getElem hi, e])
  rw [h.ab] at this
  simp -implicitDefEqProofs only [Function.comp, eKA, this, eKd, hk x hx]; rfl
theorem RfA.lnames (h : RfA a K L) : LNames a (L.map (·.1)) := ⟨List.pairwise_map.2 h.lu, fun m => by
  rw [mem_keys, ← h.ab]; rfl⟩
theorem RfA.lenc (h : RfA a K L) : (L.map (·.1)).map (lnm a) = L := by
  rw [List.map_map]
  refine (List.map_congr_left fun x hx => ?_).trans (List.map_id _)
  have h1 := mlook_of h.lu.nd hx
  have h2 : a.last x.1 = x.2 := by
    rw [← h.ab]
    show (mlook L x.1).getD 0 = x.2
    rw [h1]; rfl
  simp -implicitDefEqProofs only [Function.comp, lnm, h2]; rfl
theorem RfA.len (h : RfA a K L) {H : Heap} {b : Bk} {F : Nat → Prop} {m : Nat} (hs : AtS H b a F m) : K.length ≤ m := by
  obtain ⟨l, hn, hl⟩ := hs.names
  have := hn.uniq h.names
  subst this
  simpa using hl
theorem RfA.llen (h : RfA a K L) : L.length ≤ K.length := by
  have hnd : L.Nodup := (List.pairwise_map.1 h.lu.nd).imp fun {a b} h e => h (by rw [e])
  have := nd_le (l := L) (l' := K.map Kd.nm) hnd fun e he => by
    have h1 := mlook_of h.lu.nd he
    have h2 : a.l e.1 = some e.2 := by rw [← h.ab]; exact h1
    rw [← memN_iff, has_mem (L := L), h.ab]
    exact h.w.L _ _ h2
  simpa using this
end
end Go.Proofs.YtodegnhallgnkaaGreat.St
end

section
namespace Go.Proofs.YtodegnhallgnkaaGreat.St
open Go.Rmp Go.Proofs.YtodegnhallgnkaaGreat.Ir
set_option maxRecDepth 10000
theorem old_st {a : Ab} {K : List Kd} {L : List Nm} (hr : RfA a K L) {i : Nat} {x : Kd} (hx : K[i]? = some x) : stampOf a x.nm = x.stamp ∧ (x.id < a.last x.key ↔ 0 ≤ x.stamp) ∧ (x.stamp = -1 ∨ TickOk x.stamp) := by
  have hv := look_at (L := L) hr.up hx
  rw [hr.ab] at hv
  have h1 : stampOf a x.nm = x.stamp := by simp -implicitDefEqProofs only [stampOf, hv, vdOf, Option.getD_some]; rfl
  have hS := hr.w.S _ _ hv
  have hT := hr.w.T _ _ hv
  have e1 : x.vd.stamp = x.stamp := rfl
  have e2 : x.nm.2 = x.id := rfl
  have e3 : x.nm.1 = x.key := rfl
  rw [e1] at hS hT
  rw [e2, e3] at hS
  refine ⟨h1, ⟨fun h => ?_, fun h => ?_⟩, hT⟩
  · rcases hT with h2 | h2
    · exact absurd h (hS.1 h2)
    · exact h2.1
  · refine Decidable.of_not_not fun hn => ?_
    have := hS.2 hn; omega
set_option maxHeartbeats 1000000 in
theorem rdue14 {H : Heap} {p : Nat} {tK tL : T} {a : Ab} {K : List Kd} {L : List Nm} {G : Nat → Prop} (h : RC H p tK tL K L G) (hr : RfA a K L) (hK : K.length ≤ 8000000) (hL : L.length ≤ 8000000) (now r : Int) (ht : TickOk now) (hro : RetOk r) : W env (.call 14 [.ptr p 0, .int .i64 now, .int .i64 r]) H (fun o H' => Ext H H' ∧ ∃ k, KOk k (dueL a now r (K.map Kd.nm)) ∧ o = .val (.tup [.sl k ((dueL a now r (K.map Kd.nm)).map eW), .int .i64 0])) := by
  have hw : IntKind.i64.wrap (now - r) = now - r := by
    have := ht.1; have := ht.2; have := hro.1; have := hro.2
    rw [wrap64 (by omega)]
  have n1 : ¬ now < 0 := by have := ht.1; omega
  have n2 : ¬ 1099511627776 < now := by have := ht.2; omega
  have n3 : ¬ r < 0 := by have := hro.1; omega
  have n4 : ¬ 1048576 < r := by have := hro.2; omega
  refine W.fnI rfl rfl rfl ?_
  simp -implicitDefEqProofs only [ir14, op, ef, cl, sq, reduceIte, q5, q8, q9, j2, j3, j4, j5, j6, j7, S1, eqRef, nilOf, n1, n2, n3, n4]
  refine callB_of _ _ _ _ _ _ _ _ (rkept11 h hK) ?_
  rintro u H1 ⟨hx1, k, hko, hu⟩
  cases hu
  have hx1 : Ext H H1 := hx1
  simp -implicitDefEqProofs only [op, ef, cl, sq, reduceIte, q5, q8, q9, j2, j3, j4, j5, j6, j7, S1]
  refine W.loopV [(0, _), (1, _), (2, _), (9, _)] (fun (i : Nat) R H' => At H' (fun H' => ∃ kw, R 8 = .sl kw ((dueL a now r ((K.take i).map Kd.nm)).map eW) ∧ Ext H1 H' ∧ Apd H1.length H' kw ∧ KOk kw (dueL a now r ((K.take i).map Kd.nm))) ∧ R 10 = .int .i64 i ∧ i ≤ K.length) (fun i => K.length - i) 0 ⟨.i ⟨.nil, rfl, Ext.rfl', apd_nil _ _, fun _ => rfl⟩, rfl, Nat.zero_le _⟩ ?_
  rintro i R H2 ⟨⟨kw, g8, hx2, hap, hkw⟩, g10, hi⟩
  by_cases hlt : i < K.length
  rotate_left
  · have hie : i = K.length := by omega
    subst hie
    rw [List.take_length] at g8 hkw
    simp -implicitDefEqProofs only [mkR_nil, mkR_cons, op, ef, cl, sq, reduceIte, q5, q8, q9, j2, j3, j4, j5, j6, j7, S1, List.length_map, g8, g10, hlt]
    exact ⟨hx1.trans hx2, kw, hkw, rfl⟩
  obtain ⟨x, hx⟩ := getP hlt
  have ix := iadX (e := eKd) (n := 5) (fun _ => rfl) (by decide) (k := k) hx
  have wsi := wrap_succ (show i < 9223372036854775807 by omega)
  obtain ⟨hst, hold, hT⟩ := old_st hr hx
  have hxn : (K.map Kd.nm)[i]? = some x.nm := by rw [List.getElem?_map, hx]; rfl
  have hft := filter_take (p := isDue a now r) hxn
  rw [← List.map_take, ← List.map_take] at hft
  have x0 : fadT 0 (.iptr (eKd x)) = some (.iptr (eKd x)) := rfl
  have x4 : fadT 4 (.iptr (eKd x)) = some (.iptr [.int .i64 x.stamp]) := rfl
  have ld4 : ∀ Hx, ldc Hx 4 (.iptr (eKd x)) = some [.str x.key, .int .u64 x.id, .str x.value, .sl x.kk (x.keys.map eS)] := fun _ => rfl
  obtain ⟨H3, hH3⟩ : ∃ H3, H3 = H2 ++ [B.cells [T.str x.key, .int .u64 x.id, .str x.value, .sl x.kk (x.keys.map eS)]] := ⟨_, rfl⟩
  have hx3 : Ext H2 H3 := ⟨_, hH3⟩
  have c3 : H3[H2.length]? = some (.cells [T.str x.key, .int .u64 x.id, .str x.value, .sl x.kk (x.keys.map eS)]) := by rw [hH3]; exact g_tail rfl
  have skip : isDue a now r x.nm = false → dueL a now r ((K.take (i + 1)).map Kd.nm) = dueL a now r ((K.take i).map Kd.nm) := fun e => by
    rw [dueL, hft, e]; simp [dueL]
  simp -implicitDefEqProofs only [mkR_nil, mkR_cons, op, ef, cl, sq, reduceIte, q5, q8, q9, j2, j3, j4, j5, j6, j7, S1, S2, S3, List.length_map, g10, hlt, natOf_nat, ix, x0, ld4]
  rw [← hH3]
  refine callB_of _ _ _ _ _ _ _ _ (rlast56 (h.ext ((hx1.trans hx2).trans hx3)) hL x.key) ?_
  rintro u H4 ⟨hu, rfl⟩
  cases hu
  rw [hr.ab]
  by_cases ho : x.id < a.last x.key
  rotate_left
  · have hnd : isDue a now r x.nm = false := by
      have : ¬ 0 ≤ x.stamp := fun hh => ho (hold.2 hh)
      simp [isDue, hst, this]
    simp -implicitDefEqProofs only [mkR_nil, mkR_cons, op, ef, cl, sq, reduceIte, q5, q8, q9, j2, j3, j4, j5, j6, j7, S1, ho, g8, g10, wsi, c3]
    exact ⟨i + 1, by omega, .i ⟨kw, by rw [skip hnd], hx2.trans hx3, hap.ext hx3, by rw [skip hnd]; exact hkw⟩, rfl, hlt⟩
  have h0 := hold.1 ho
  by_cases hle : x.stamp ≤ now - r
  rotate_left
  · have hnd : isDue a now r x.nm = false := by simp [isDue, hst, hle]
    simp -implicitDefEqProofs only [mkR_nil, mkR_cons, op, ef, cl, sq, reduceIte, q5, q8, q9, j2, j3, j4, j5, j6, j7, S1, ho, g8, g10, natOf_nat, ix, x4, ldc1, hw, hle, wsi, c3]
    exact ⟨i + 1, by omega, .i ⟨kw, by rw [skip hnd], hx2.trans hx3, hap.ext hx3, by rw [skip hnd]; exact hkw⟩, rfl, hlt⟩
  have hdue : isDue a now r x.nm = true := by simp [isDue, hst, h0, hle]
  have hl2 := dueL_len a now r ((K.take i).map Kd.nm)
  have hall := all_map (enc := eW) (n := 2) (fun _ => rfl) (dueL a now r ((K.take i).map Kd.nm))
  obtain ⟨k', H5, ha, hap', hst'⟩ := app_ok (bytes := 24) ((dueL a now r ((K.take i).map Kd.nm)).map eW) [[T.str x.key, T.int .u64 x.id]] (hap.ext hx3) (Nat.le_trans hx2.len hx3.len) (by simp) (roomT (by simp -implicitDefEqProofs only [List.length_map, List.length_take, List.length_cons, List.length_nil] at hl2 ⊢; omega))
  have hnn := app_nn ha (by simp)
  simp -implicitDefEqProofs only [op, ef, cl, sq, reduceIte, q5, q8, q9, j2, j3, j4, j5, j6, j7, S1] at ha
  simp -implicitDefEqProofs only [mkR_nil, mkR_cons, op, ef, cl, sq, reduceIte, q5, q8, q9, j2, j3, j4, j5, j6, j7, S1, ho, g8, g10, natOf_nat, ix, x4, ldc1, hw, hle, c3, hall, ha, wsi]
  refine ⟨i + 1, by omega, .i ⟨k', ?_, hst'.ext H1 (Nat.le_refl _) (hx2.trans hx3), hap', fun h => absurd h hnn⟩, rfl, hlt⟩
  have hds : dueL a now r ((K.take (i + 1)).map Kd.nm) = dueL a now r ((K.take i).map Kd.nm) ++ [x.nm] := by
    rw [dueL, hft, hdue]; rfl
  rw [hds, List.map_append]; rfl
theorem rdueNo (t : T) (now r : Int) (H : Heap) (hp : t = .nilp ∨ ∃ b, t = .ptr b 0 ∧ ¬ (TickOk now ∧ RetOk r)) : W env (.call 14 [t, .int .i64 now, .int .i64 r]) H (Ret (.tup [.sl .nil [], .int .i64 1]) H) := by
  refine W.fnI rfl rfl rfl ?_
  rcases hp with rfl | ⟨b, rfl, hno⟩
  · simp -implicitDefEqProofs only [ir14, op, ef, cl, sq, reduceIte, q5, q8, q9, j2, j3, j4, j5, j6, j7, S1, eqRef, nilOf]
  by_cases n1 : now < 0
  · simp -implicitDefEqProofs only [ir14, op, ef, cl, sq, reduceIte, q5, q8, q9, j2, j3, j4, j5, j6, j7, S1, eqRef, nilOf, n1]
  by_cases n2 : 1099511627776 < now
  · simp -implicitDefEqProofs only [ir14, op, ef, cl, sq, reduceIte, q5, q8, q9, j2, j3, j4, j5, j6, j7, S1, eqRef, nilOf, n1, n2]
  by_cases n3 : r < 0
  · simp -implicitDefEqProofs only [ir14, op, ef, cl, sq, reduceIte, q5, q8, q9, j2, j3, j4, j5, j6, j7, S1, eqRef, nilOf, n1, n2, n3]
  by_cases n4 : 1048576 < r
  · simp -implicitDefEqProofs only [ir14, op, ef, cl, sq, reduceIte, q5, q8, q9, j2, j3, j4, j5, j6, j7, S1, eqRef, nilOf, n1, n2, n3, n4]
  exact absurd ⟨⟨by omega, by omega⟩, by omega, by omega⟩ hno
theorem NxtV.uniq {a : Ab} {l : List Nm} {r t t' : Int} {is is' : Bool} (h : NxtV a l r t is) (h' : NxtV a l r t' is') : t = t' ∧ is = is' := by
  have e : is = is' := by rw [Bool.eq_iff_iff, h.some, h'.some]
  subst e
  refine ⟨?_, rfl⟩
  cases hi : is
  · rw [h.off hi, h'.off hi]
  · obtain ⟨m, hm, h0, e⟩ := h.on hi
    obtain ⟨m', hm', h0', e'⟩ := h'.on hi
    have := h.least m' hm' h0'
    have := h'.least m hm h0
    omega
end Go.Proofs.YtodegnhallgnkaaGreat.St
end

section
namespace Go.Proofs.YtodegnhallgnkaaGreat.St
open Go.Rmp Go.Proofs.YtodegnhallgnkaaGreat.Ir
set_option maxRecDepth 10000
set_option maxHeartbeats 1000000 in
theorem rnext16 {H : Heap} {p : Nat} {tK tL : T} {a : Ab} {K : List Kd} {L : List Nm} {G : Nat → Prop} (h : RC H p tK tL K L G) (hr : RfA a K L) (hK : K.length ≤ 8000000) (hL : L.length ≤ 8000000) (r : Int) (hro : RetOk r) : W env (.call 16 [.ptr p 0, .int .i64 r]) H (fun o H' => Ext H H' ∧ ∃ t is, NxtV a (K.map Kd.nm) r t is ∧ o = .val (.tup [.int .i64 t, .bool is, .int .i64 0])) := by
  have n3 : ¬ r < 0 := by have := hro.1; omega
  have n4 : ¬ 1048576 < r := by have := hro.2; omega
  refine W.fnI rfl rfl rfl ?_
  simp -implicitDefEqProofs only [ir16, op, ef, cl, sq, reduceIte, q5, q8, q9, j2, j3, j4, j5, j6, j7, S1, eqRef, nilOf, n3, n4]
  refine callB_of _ _ _ _ _ _ _ _ (rkept11 h hK) ?_
  rintro u H1 ⟨hx1, k, hko, hu⟩
  cases hu
  have hx1 : Ext H H1 := hx1
  simp -implicitDefEqProofs only [op, ef, cl, sq, reduceIte, q5, q8, q9, j2, j3, j4, j5, j6, j7, S1]
  refine W.loopV [(0, _), (1, _), (7, _)] (fun (i : Nat) R H' => At H' (fun H' => Ext H1 H' ∧ ∃ t is, R 8 = .int .i64 t ∧ R 9 = .bool is ∧ NxtV a ((K.take i).map Kd.nm) r t is) ∧ R 10 = .int .i64 i ∧ i ≤ K.length) (fun i => K.length - i) 0 ⟨.i ⟨Ext.rfl', 0, false, rfl, rfl, ⟨(by simp), fun e => (by cases e), (by simp), fun _ => rfl⟩⟩, rfl, Nat.zero_le _⟩ ?_
  rintro i R H2 ⟨⟨hx2, t, is, g8, g9, hv⟩, g10, hi⟩
  by_cases hlt : i < K.length
  rotate_left
  · have hie : i = K.length := by omega
    subst hie
    rw [List.take_length] at hv
    simp -implicitDefEqProofs only [mkR_nil, mkR_cons, op, ef, cl, sq, reduceIte, q5, q8, q9, j2, j3, j4, j5, j6, j7, S1, List.length_map, g8, g9, g10, hlt]
    exact ⟨hx1.trans hx2, t, is, hv, rfl⟩
  obtain ⟨x, hx⟩ := getP hlt
  have ix := iadX (e := eKd) (n := 5) (fun _ => rfl) (by decide) (k := k) hx
  have wsi := wrap_succ (show i < 9223372036854775807 by omega)
  obtain ⟨hst, hold, hT⟩ := old_st hr hx
  have htk : (K.take (i + 1)).map Kd.nm = (K.take i).map Kd.nm ++ [x.nm] := by rw [take_sn hx, List.map_append]; rfl
  have x0 : fadT 0 (.iptr (eKd x)) = some (.iptr (eKd x)) := rfl
  have x4 : fadT 4 (.iptr (eKd x)) = some (.iptr [.int .i64 x.stamp]) := rfl
  have ld4 : ∀ Hx, ldc Hx 4 (.iptr (eKd x)) = some [.str x.key, .int .u64 x.id, .str x.value, .sl x.kk (x.keys.map eS)] := fun _ => rfl
  have hw : IntKind.i64.wrap (x.stamp + r) = x.stamp + r := by
    unfold TickOk RetOk at *
    rw [wrap64 (by omega)]
  obtain ⟨H3, hH3⟩ : ∃ H3, H3 = H2 ++ [B.cells [T.str x.key, .int .u64 x.id, .str x.value, .sl x.kk (x.keys.map eS)]] := ⟨_, rfl⟩
  have hx3 : Ext H2 H3 := ⟨_, hH3⟩
  have c3 : H3[H2.length]? = some (.cells [T.str x.key, .int .u64 x.id, .str x.value, .sl x.kk (x.keys.map eS)]) := by rw [hH3]; exact g_tail rfl
  simp -implicitDefEqProofs only [mkR_nil, mkR_cons, op, ef, cl, sq, reduceIte, q5, q8, q9, j2, j3, j4, j5, j6, j7, S1, S2, S3, List.length_map, g10, hlt, natOf_nat, ix, x0, ld4]
  rw [← hH3]
  refine callB_of _ _ _ _ _ _ _ _ (rlast56 (h.ext ((hx1.trans hx2).trans hx3)) hL x.key) ?_
  rintro u H4 ⟨hu, rfl⟩
  cases hu
  rw [hr.ab]
  by_cases ho : x.id < a.last x.key
  rotate_left
  · have hn0 : ¬ 0 ≤ x.stamp := fun hh => ho (hold.2 hh)
    simp -implicitDefEqProofs only [mkR_nil, mkR_cons, op, ef, cl, sq, reduceIte, q5, q8, q9, j2, j3, j4, j5, j6, j7, S1, ho, g8, g9, g10, wsi, c3]
    refine ⟨i + 1, by omega, .i ⟨hx2.trans hx3, t, is, rfl, rfl, ?_⟩, rfl, hlt⟩
    rw [htk]; exact hv.skip fun h => absurd (hst ▸ h) hn0
  have h0 : 0 ≤ stampOf a x.nm := by rw [hst]; exact hold.1 ho
  cases is
  · simp -implicitDefEqProofs only [mkR_nil, mkR_cons, op, ef, cl, sq, reduceIte, q5, q8, q9, j2, j3, j4, j5, j6, j7, S1, ho, g8, g9, g10, natOf_nat, ix, x4, ldc1, hw, wsi, c3]
    refine ⟨i + 1, by omega, .i ⟨hx2.trans hx3, x.stamp + r, true, rfl, rfl, ?_⟩, rfl, hlt⟩
    rw [htk, ← hst]; exact hv.take h0 fun e => by cases e
  · by_cases hl : x.stamp + r < t
    · simp -implicitDefEqProofs only [mkR_nil, mkR_cons, op, ef, cl, sq, reduceIte, q5, q8, q9, j2, j3, j4, j5, j6, j7, S1, ho, g8, g9, g10, natOf_nat, ix, x4, ldc1, hw, hl, wsi, c3]
      refine ⟨i + 1, by omega, .i ⟨hx2.trans hx3, x.stamp + r, true, rfl, rfl, ?_⟩, rfl, hlt⟩
      rw [htk, ← hst]; exact hv.take h0 fun _ => by rw [hst]; exact hl
    · simp -implicitDefEqProofs only [mkR_nil, mkR_cons, op, ef, cl, sq, reduceIte, q5, q8, q9, j2, j3, j4, j5, j6, j7, S1, ho, g8, g9, g10, natOf_nat, ix, x4, ldc1, hw, hl, wsi, c3]
      refine ⟨i + 1, by omega, .i ⟨hx2.trans hx3, t, true, rfl, rfl, ?_⟩, rfl, hlt⟩
      rw [htk]; exact hv.skip fun _ => ⟨rfl, by rw [hst]; omega⟩
theorem rnextNo (t : T) (r : Int) (H : Heap) (hp : t = .nilp ∨ ∃ b, t = .ptr b 0 ∧ ¬ RetOk r) : W env (.call 16 [t, .int .i64 r]) H (Ret (.tup [.int .i64 0, .bool false, .int .i64 1]) H) := by
  refine W.fnI rfl rfl rfl ?_
  rcases hp with rfl | ⟨b, rfl, hno⟩
  · simp -implicitDefEqProofs only [ir16, op, ef, cl, sq, reduceIte, q5, q8, q9, j2, j3, j4, j5, j6, j7, S1, eqRef, nilOf]
  by_cases n3 : r < 0
  · simp -implicitDefEqProofs only [ir16, op, ef, cl, sq, reduceIte, q5, q8, q9, j2, j3, j4, j5, j6, j7, S1, eqRef, nilOf, n3]
  by_cases n4 : 1048576 < r
  · simp -implicitDefEqProofs only [ir16, op, ef, cl, sq, reduceIte, q5, q8, q9, j2, j3, j4, j5, j6, j7, S1, eqRef, nilOf, n3, n4]
  exact absurd ⟨by omega, by omega⟩ hno
end Go.Proofs.YtodegnhallgnkaaGreat.St
end
