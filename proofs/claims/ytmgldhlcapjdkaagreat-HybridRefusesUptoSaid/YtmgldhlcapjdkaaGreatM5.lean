/- Part of a proof of a law of this seat: the machine of plain values, its simulation, and the contracts of the functions that the law reaches. Conditions: none beyond the given row. -/
import Derived.Test.YtmgldhlcapjdkaaGreatM4
open Int renaming reduceLT → j3, reduceLE → j4, reduceBEq → j5, reduceBNe → j6, reduceEq → j7
open Nat renaming reduceAdd → j8, reduceLeDiff → j9, reduceLT → y1, reduceEqDiff → y3
set_option linter.unusedSimpArgs false
set_option linter.unusedVariables false
set_option linter.unnecessarySimpa false
set_option maxHeartbeats 4000000
section
namespace Go.Proofs.YtmgldhlcapjdkaaGreat.St.Un
open Go.Rmp Go.Proofs.YtmgldhlcapjdkaaGreat.Ir
set_option maxRecDepth 10000
def ltN (a b : Nat) : Bool := decide (a < b)
theorem less91 (a b : Nat) (H : Heap) : W env (.call 145 [.int .u64 a, .int .u64 b]) H (Ret (.bool (ltN a b)) H) := less71 a b H
theorem ltN_swo : Go.Sort.SWO ltN where
  irrefl a := by simp [ltN]
  trans a b c h1 h2 := by simp [ltN] at *; omega
  ntrans x y z h1 h2 := by simp [ltN] at *; omega
def SrtS (c : Nat) (d' : Array Nat) (H : Heap) : Out → Heap → Prop := fun o H' => o = .val (.tup []) ∧ H'[c]? = some (.cells (msC eU d'.toList)) ∧ Frm (fun x => x = c) H H'
theorem swp_setS {Hx : Heap} {c : Nat} (d : Array Nat) {i j : Nat} (hi : i < d.size) (hj : j < d.size) :
    stcB Hx c [.int .u64 (d[j]! : Nat)] (i * 1) (some (.cells (msC eU d.toList))) = some (Hx.set c (.cells (msC eU (d.toList.set i d[j]!)))) ∧
    ∀ Hy, stcB Hy c [.int .u64 (d[i]! : Nat)] (j * 1) (some (.cells (msC eU (d.toList.set i d[j]!)))) = some (Hy.set c (.cells (msC eU (Go.Sort.swp d i j).toList))) := by
  have g1 := msC_set (enc := eU) (n := 1) (y := d[j]!) (fun _ => rfl) (arr_get hi) Hx c (eU d[j]!) 0 (by simp [eU]) (by simp [eU])
  obtain ⟨z, hz⟩ := getP (l := d.toList.set i d[j]!) (i := j) (by simpa using hj)
  have g2 := fun Hy => msC_set (enc := eU) (n := 1) (y := d[i]!) (fun _ => rfl) hz Hy c (eU d[i]!) 0 (by simp [eU]) (by simp [eU])
  refine ⟨by simpa [eU] using g1, fun Hy => ?_⟩
  rw [swp_list]
  simpa [eU] using g2 Hy
theorem ld_atS {d : Array Nat} {i : Nat} (h : i < d.size) : ldcB 1 (i * 1) (some (.cells (msC eU d.toList))) = some [.int .u64 (d[i]! : Nat)] := by
  have := msC_get (enc := eU) (n := 1) (fun _ => rfl) (arr_get h) 0 1 (by decide)
  simpa [eU] using this
open Go.Sort in
theorem ins85 (c : Nat) (d : Array Nat) (a b : Nat) (H : Heap) (hc : H[c]? = some (.cells (msC eU d.toList))) (hb : b ≤ d.size) (hab : a ≤ b) (hs : d.size < 4611686018427387903) :
    W env (.call 139 [.msl c 0 d.size 1, .int .i64 a, .int .i64 b]) H (SrtS c (insertionSort ltN d a b) H) := by
  refine W.fnI rfl rfl rfl ?_
  have wa := wrap_succ (show a < 9223372036854775807 by omega)
  simp -implicitDefEqProofs only [ir139, op, ef, cl, sq, reduceIte, j3, j4, j5, j6, j7, j8, j9, y1, y3, S1, wa]
  refine W.loopI (fun (i : Nat) R H' => At H' (fun H' => ∃ di : Array Nat, H'[c]? = some (.cells (msC eU di.toList)) ∧ di.size = d.size ∧ insOuter ltN a b i di = insertionSort ltN d a b ∧ Frm (fun x => x = c) H H') ∧ R 0 = .msl c 0 d.size 1 ∧ R 1 = .int .i64 a ∧ R 2 = .int .i64 b ∧ R 6 = .int .i64 i ∧ a + 1 ≤ i) (fun i => b - i) (a + 1) ⟨.i ⟨d, hc, rfl, rfl, Frm.refl _ _⟩, rfl, rfl, rfl, rfl, Nat.le_refl _⟩ ?_
  rintro i R H1 ⟨⟨di, hd, hsz, hins, hfr⟩, h0, h1, h2, h6, hia⟩
  by_cases hlt : i < b
  · have wi := wrap_succ (show i < 9223372036854775807 by omega)
    simp -implicitDefEqProofs only [op, ef, cl, sq, reduceIte, j3, j4, j5, j6, j7, j8, j9, y1, y3, S1, h0, h1, h2, h6, hlt]
    refine W.loopE 2 (fun (j : Nat) R H' => At H' (fun H' => ∃ dj : Array Nat, H'[c]? = some (.cells (msC eU dj.toList)) ∧ dj.size = d.size ∧ insInner ltN a j dj = insInner ltN a i di ∧ Frm (fun x => x = c) H H') ∧ R 0 = .msl c 0 d.size 1 ∧ R 1 = .int .i64 a ∧ R 2 = .int .i64 b ∧ R 6 = .int .i64 i ∧ R 7 = .int .i64 j ∧ j ≤ i) (fun j => j) i
      (fun R H' => At H' (fun H' => ∃ dj : Array Nat, H'[c]? = some (.cells (msC eU dj.toList)) ∧ dj.size = d.size ∧ dj = insInner ltN a i di ∧ Frm (fun x => x = c) H H') ∧ R 0 = .msl c 0 d.size 1 ∧ R 1 = .int .i64 a ∧ R 2 = .int .i64 b ∧ R 6 = .int .i64 i) ?_ ?_ ?_
    · refine ⟨.i ⟨di, hd, hsz, rfl, hfr⟩, ?_, ?_, ?_, ?_, ?_, Nat.le_refl _⟩
      all_goals (simp -implicitDefEqProofs only [op, ef, cl, sq, reduceIte, j3, j4, j5, j6, j7, j8, j9, y1, y3, S1, h0, h1, h2, h6])
    · rintro j R H2 ⟨⟨dj, hd2, hsz2, hinn, hfr2⟩, q0, q1, q2, q6, q7, hji⟩
      by_cases hja : a < j
      · obtain ⟨j', rfl⟩ : ∃ j', j = j' + 1 := ⟨j - 1, by omega⟩
        have wp : IntKind.i64.wrap (((j' + 1 : Nat) : Int) - 1) = (j' : Int) := by rw [wrap64 (by omega)]; omega
        have j1 : j' + 1 < d.size := by omega
        have j0 : j' < d.size := by omega
        have i1 : iadT 1 (j' + 1) (.msl c 0 d.size 1) = some (.ptr c ((j' + 1) * 1)) := by rw [iad_m]; simp [j1]
        have i0 : iadT 1 j' (.msl c 0 d.size 1) = some (.ptr c (j' * 1)) := by rw [iad_m]; simp [j0]
        have v1 := ld_atS (d := dj) (i := j' + 1) (by omega)
        have v0 := ld_atS (d := dj) (i := j') (by omega)
        simp -implicitDefEqProofs only [op, ef, cl, sq, reduceIte, j3, j4, j5, j6, j7, j8, j9, y1, y3, S1, q0, q1, q2, q6, q7, hja, natOf_nat, i1, i0, wp, hd2, v1, v0]
        refine callB_of _ _ _ _ _ _ _ _ (less91 dj[j' + 1]! dj[j']! _) ?_
        rintro u H3 ⟨hu, rfl⟩
        cases hu
        have hd3 := hd2
        obtain ⟨s1, s2⟩ := swp_setS (Hx := H3) (c := c) dj (i := j' + 1) (j := j') (by omega) (by omega)
        cases hc0 : ltN dj[j' + 1]! dj[j']! with
        | true =>
          simp -implicitDefEqProofs only [op, ef, cl, sq, reduceIte, j3, j4, j5, j6, j7, j8, j9, y1, y3, S1, q0, q1, q2, q6, q7, natOf_nat, i1, i0, wp, hd3, v1, v0, s1, S2, s2, glt hd3]
          exact ⟨j', by omega, .i ⟨swp dj (j' + 1) j', g_eq (by rw [List.length_set]; exact glt hd3), by rw [swp_size]; exact hsz2, by rw [← hinn]; conv => { rhs; rw [insInner, if_pos (by simp -implicitDefEqProofs only [Bool.and_eq_true, decide_eq_true_eq]; exact ⟨hja, hc0⟩)] }, (hfr2.set (.inl rfl) _).set (.inl rfl) _⟩, rfl, by omega⟩
        | false =>
          simp -implicitDefEqProofs only [op, ef, cl, sq, reduceIte, j3, j4, j5, j6, j7, j8, j9, y1, y3, S1, q0, q1, q2, q6, q7]
          exact .i ⟨dj, hd3, hsz2, by rw [← hinn, insInner]; simp [hc0], hfr2⟩
      · simp -implicitDefEqProofs only [op, ef, cl, sq, reduceIte, j3, j4, j5, j6, j7, j8, j9, y1, y3, S1, q0, q1, q2, q6, q7, hja]
        refine .i ⟨dj, hd2, hsz2, ?_, hfr2⟩
        rw [← hinn]
        cases j with
        | zero => rfl
        | succ j => rw [insInner, if_neg (by simp -implicitDefEqProofs only [Bool.and_eq_true, decide_eq_true_eq]; omega)]
    · rintro R H2 ⟨⟨dj, hd2, hsz2, hinn, hfr2⟩, q0, q1, q2, q6⟩
      simp -implicitDefEqProofs only [op, ef, cl, sq, reduceIte, j3, j4, j5, j6, j7, j8, j9, y1, y3, S1, q0, q1, q2, q6, wi]
      refine ⟨i + 1, by omega, .i ⟨dj, hd2, hsz2, ?_, hfr2⟩, rfl, by omega⟩
      rw [← hins, hinn]
      conv => rhs; rw [insOuter, if_pos hlt]
  · simp -implicitDefEqProofs only [op, ef, cl, sq, reduceIte, j3, j4, j5, j6, j7, j8, j9, y1, y3, S1, h0, h1, h2, h6, hlt]
    rw [insOuter, if_neg hlt] at hins
    subst hins
    exact ⟨rfl, hd, hfr⟩
set_option maxHeartbeats 8000000
section
variable {c n i j : Nat} {d : Array Nat}
theorem iadmO (h : i < n) : iadT 1 i (.msl c 0 n 1) = some (.ptr c (i * 1)) := by rw [iad_m]; simp [h]
theorem len_msO {l : List Nat} : (msC eU l).length = l.length * 1 := by rw [msC_len (n := 1) (fun _ => rfl)]
theorem ldm1O (h : i < d.size) : (i * 1 + 1 ≤ (msC eU d.toList).length) = True := by rw [len_msO]; simp; omega
theorem ldm2O (h : i < d.size) : List.take 1 (List.drop (i * 1) (msC eU d.toList)) = [.int .u64 (d[i]! : Nat)] := by
  have := ld_atS h
  rw [ldcB_c, if_pos (by rw [len_msO]; simp; omega)] at this
  exact Option.some.inj this
theorem stm0O {x : Nat} (h : i < d.size) : (i * 1 + 1 ≤ (msC eU (d.toList.set j x)).length) = True := by rw [len_msO]; simp; omega
theorem stm1O (h : i < d.size) (h' : j < d.size) : (List.take (i * 1) (msC eU d.toList) ++ [.int .u64 (d[j]! : Nat)]) ++ List.drop (i * 1 + 1) (msC eU d.toList) = msC eU (d.toList.set i d[j]!) := by
  have := (swp_setS (Hx := [.cells []]) (c := 0) d h h').1
  rw [stcB_c, if_pos (by rw [len_msO]; simp; omega)] at this
  simpa using this
theorem stm2O (h : i < d.size) (h' : j < d.size) : (List.take (j * 1) (msC eU (d.toList.set i d[j]!)) ++ [.int .u64 (d[i]! : Nat)]) ++ List.drop (j * 1 + 1) (msC eU (d.toList.set i d[j]!)) = msC eU (Go.Sort.swp d i j).toList := by
  have := (swp_setS (Hx := [.cells []]) (c := 0) d h h').2 [.cells []]
  rw [stcB_c, if_pos (by rw [len_msO]; simp; omega)] at this
  simpa using this
end
open Go.Sort in
def SCO (c n : Nat) (H : Heap) (P : Array Nat → Prop) (H' : Heap) : Prop := ∃ d : Array Nat, H'[c]? = some (.cells (msC eU d.toList)) ∧ d.size = n ∧ P d ∧ Frm (fun x => x = c) H H'
open Go.Sort in
theorem SCO.swp {c n : Nat} {H H1 : Heap} {P : Array Nat → Prop} {y x : B} {d' : Array Nat} (hd : H1[c]? = some y) (hs : d'.size = n) (hP : P d') (hf : Frm (fun x => x = c) H H1) : SCO c n H P ((H1.set c x).set c (.cells (msC eU d'.toList))) :=
  ⟨d', g_eq (by rw [List.length_set]; exact glt hd), hs, hP, (hf.set (.inl rfl) _).set (.inl rfl) _⟩
open Go.Sort in
def SrtNO (c n : Nat) (d' : Array Nat) (H : Heap) : Out → Heap → Prop := fun o H' => o = .val (.tup []) ∧ SCO c n H (fun x => x = d') H'
open Go.Sort in
theorem rev89 (c n : Nat) (d : Array Nat) (a b : Nat) (H : Heap) (hn : d.size = n) (hc : H[c]? = some (.cells (msC eU d.toList))) (hb : b ≤ n) (hab : a < b) (hs : n < 4611686018427387903) :
    W env (.call 143 [.msl c 0 n 1, .int .i64 a, .int .i64 b]) H (SrtNO c n (reverseRange d a b) H) := by
  refine W.fnI rfl rfl rfl ?_
  simp -implicitDefEqProofs (maxSteps := 1000000) (disch := omega) only [ir143, op, ef, cl, sq, reduceIte, j3, j4, j5, j6, j7, j8, j9, y1, y3, S1, wS1]
  refine W.loopI (fun (i : Nat) R H' => At H' (fun H' => ∃ j, R 7 = .int .i64 (j : Nat) ∧ i + j = a + b - 1 ∧ a ≤ i ∧ SCO c n H (fun di => reverseLoop i j di = reverseRange d a b) H') ∧ R 0 = .msl c 0 n 1 ∧ R 6 = .int .i64 i) (fun i => a + b - i) a ⟨.i ⟨b - 1, rfl, by omega, Nat.le_refl _, d, hc, hn, rfl, Frm.refl _ _⟩, rfl, rfl⟩ ?_
  rintro i R H1 ⟨⟨j, h9, hij, hai, di, hd, hsz, hrev, hfr⟩, h0, h8⟩
  have lc := glt hd
  by_cases hlt : i < j
  · simp -implicitDefEqProofs (maxSteps := 1000000) (disch := omega) only [natOf_nat, iadmO, ldm1O, ldm2O, stm0O, stm1O, stm2O, wA, wA1, wS, wS1, wM, S2, op, ef, cl, sq, reduceIte, j3, j4, j5, j6, j7, j8, j9, y1, y3, S1, h0, h8, h9, hlt, hd, lc]
    exact ⟨i + 1, by omega, .i ⟨j - 1, rfl, by omega, by omega, .swp hd (by rw [swp_size]; exact hsz) (by rw [← hrev]; conv => { rhs; rw [reverseLoop, if_pos hlt] }) hfr⟩, rfl⟩
  · simp -implicitDefEqProofs only [op, ef, cl, sq, reduceIte, j3, j4, j5, j6, j7, j8, j9, y1, y3, S1, h0, h8, h9, hlt]
    rw [reverseLoop, if_neg hlt] at hrev
    exact ⟨rfl, di, hd, hsz, hrev, hfr⟩
open Go.Sort in
theorem sift101 (c n : Nat) (d : Array Nat) (lo hi first : Nat) (H : Heap) (hn : d.size = n) (hc : H[c]? = some (.cells (msC eU d.toList))) (hb : first + hi ≤ n) (hlo : lo ≤ n) (hs : n < 2305843009213693951) :
    W env (.call 175 [.msl c 0 n 1, .int .i64 lo, .int .i64 hi, .int .i64 first]) H (SrtNO c n (siftDown ltN hi first lo d) H) := by
  refine W.fnI rfl rfl rfl ?_
  simp -implicitDefEqProofs only [ir175, op, ef, cl, sq, reduceIte, j3, j4, j5, j6, j7, j8, j9, y1, y3, S1]
  refine W.loopI (fun (r : Nat) R H' => At H' (fun H' => SCO c n H (fun di => siftDown ltN hi first r di = siftDown ltN hi first lo d) H') ∧ R 0 = .msl c 0 n 1 ∧ R 2 = .int .i64 hi ∧ R 3 = .int .i64 first ∧ R 0 = .msl c 0 n 1 ∧ R 8 = .int .i64 r ∧ r ≤ n) (fun r => hi - r) lo ⟨.i ⟨d, hc, hn, rfl, Frm.refl _ _⟩, rfl, rfl, rfl, rfl, rfl, hlo⟩ ?_
  rintro r R H1 ⟨⟨di, hd, hsz, hP, hfr⟩, h0, h2, h3, h4, h10, hr⟩
  have lc := glt hd
  by_cases hge : 2 * r + 1 ≥ hi
  · simp -implicitDefEqProofs (maxSteps := 1000000) (disch := omega) only [natOf_nat, iadmO, ldm1O, ldm2O, stm0O, stm1O, stm2O, wA, wA1, wS, wS1, wM, S2, op, ef, cl, sq, reduceIte, j3, j4, j5, j6, j7, j8, j9, y1, y3, S1, h0, h2, h3, h4, h10, hge]
    rw [siftDown, dif_pos hge] at hP
    exact ⟨rfl, di, hd, hsz, hP, hfr⟩
  by_cases h2hi : 2 * r + 1 + 1 < hi
  · simp -implicitDefEqProofs (maxSteps := 1000000) (disch := omega) only [natOf_nat, iadmO, ldm1O, ldm2O, stm0O, stm1O, stm2O, wA, wA1, wS, wS1, wM, S2, op, ef, cl, sq, reduceIte, j3, j4, j5, j6, j7, j8, j9, y1, y3, S1, h0, h2, h3, h4, h10, hge, h2hi, hd, lc]
    refine callB_of _ _ _ _ _ _ _ _ (less91 di[first + (2 * r + 1)]! di[first + (2 * r + 1) + 1]! _) ?_
    rintro u H2 ⟨hu, hx0⟩
    cases hu
    have hx : Ext H1 H2 := by rw [hx0]; exact Ext.rfl'
    have hd := hx.get hd
    have lc := glt hd
    have hfr := hfr.trans (ext_frm (F := fun _ => False) hx) (fun _ h => h.elim)
    have lt1 : ltN di[first + (2 * r + 1)]! di[first + (2 * r + 1) + 1]! = decide (ltN di[first + (2 * r + 1)]! di[first + (2 * r + 1) + 1]! = true) := by simp
    by_cases c1 : ltN di[first + (2 * r + 1)]! di[first + (2 * r + 1) + 1]! = true
    · simp -implicitDefEqProofs (maxSteps := 1000000) (disch := omega) only [natOf_nat, iadmO, ldm1O, ldm2O, stm0O, stm1O, stm2O, wA, wA1, wS, wS1, wM, S2, op, ef, cl, sq, reduceIte, j3, j4, j5, j6, j7, j8, j9, y1, y3, S1, h0, h2, h3, h4, h10, hge, h2hi, hd, lc, c1]
      refine callB_of _ _ _ _ _ _ _ _ (less91 di[first + r]! di[first + (2 * r + 1 + 1)]! _) ?_
      rintro u H3 ⟨hu, hx0⟩
      cases hu
      have hx : Ext H2 H3 := by rw [hx0]; exact Ext.rfl'
      have hd := hx.get hd
      have lc := glt hd
      have hfr := hfr.trans (ext_frm (F := fun _ => False) hx) (fun _ h => h.elim)
      have lt2 : ltN di[first + r]! di[first + (2 * r + 1 + 1)]! = decide (ltN di[first + r]! di[first + (2 * r + 1 + 1)]! = true) := by simp
      by_cases c2 : ltN di[first + r]! di[first + (2 * r + 1 + 1)]! = true
      · simp -implicitDefEqProofs (maxSteps := 1000000) (disch := omega) only [natOf_nat, iadmO, ldm1O, ldm2O, stm0O, stm1O, stm2O, wA, wA1, wS, wS1, wM, S2, op, ef, cl, sq, reduceIte, j3, j4, j5, j6, j7, j8, j9, y1, y3, S1, h0, h2, h3, h4, h10, hge, h2hi, hd, lc, c2]
        refine ⟨2 * r + 1 + 1, by omega, .i (.swp hd (by rw [swp_size]; exact hsz) ?_ hfr), rfl, by omega⟩
        rw [← hP]
        conv => { rhs; rw [siftDown, dif_neg hge, if_pos (and_t (dect h2hi) (lt1.trans (dect c1))), if_neg (not_t (lt2.trans (dect c2))), dif_pos h2hi] }
      · simp -implicitDefEqProofs (maxSteps := 1000000) (disch := omega) only [natOf_nat, iadmO, ldm1O, ldm2O, stm0O, stm1O, stm2O, wA, wA1, wS, wS1, wM, S2, op, ef, cl, sq, reduceIte, j3, j4, j5, j6, j7, j8, j9, y1, y3, S1, h0, h2, h3, h4, h10, hge, h2hi, hd, lc, c2]
        rw [siftDown, dif_neg hge, if_pos (and_t (dect h2hi) (lt1.trans (dect c1))), if_pos (not_f (lt2.trans (decf c2)))] at hP
        exact ⟨rfl, di, hd, hsz, hP, hfr⟩
    · simp -implicitDefEqProofs (maxSteps := 1000000) (disch := omega) only [natOf_nat, iadmO, ldm1O, ldm2O, stm0O, stm1O, stm2O, wA, wA1, wS, wS1, wM, S2, op, ef, cl, sq, reduceIte, j3, j4, j5, j6, j7, j8, j9, y1, y3, S1, h0, h2, h3, h4, h10, hge, h2hi, hd, lc, c1]
      refine callB_of _ _ _ _ _ _ _ _ (less91 di[first + r]! di[first + (2 * r + 1)]! _) ?_
      rintro u H3 ⟨hu, hx0⟩
      cases hu
      have hx : Ext H2 H3 := by rw [hx0]; exact Ext.rfl'
      have hd := hx.get hd
      have lc := glt hd
      have hfr := hfr.trans (ext_frm (F := fun _ => False) hx) (fun _ h => h.elim)
      have lt2 : ltN di[first + r]! di[first + (2 * r + 1)]! = decide (ltN di[first + r]! di[first + (2 * r + 1)]! = true) := by simp
      by_cases c2 : ltN di[first + r]! di[first + (2 * r + 1)]! = true
      · simp -implicitDefEqProofs (maxSteps := 1000000) (disch := omega) only [natOf_nat, iadmO, ldm1O, ldm2O, stm0O, stm1O, stm2O, wA, wA1, wS, wS1, wM, S2, op, ef, cl, sq, reduceIte, j3, j4, j5, j6, j7, j8, j9, y1, y3, S1, h0, h2, h3, h4, h10, hge, h2hi, hd, lc, c2]
        refine ⟨2 * r + 1, by omega, .i (.swp hd (by rw [swp_size]; exact hsz) ?_ hfr), rfl, by omega⟩
        rw [← hP]
        conv => { rhs; rw [siftDown, dif_neg hge, if_neg (and_f2 (lt1.trans (decf c1))), if_neg (not_t (lt2.trans (dect c2)))] }
      · simp -implicitDefEqProofs (maxSteps := 1000000) (disch := omega) only [natOf_nat, iadmO, ldm1O, ldm2O, stm0O, stm1O, stm2O, wA, wA1, wS, wS1, wM, S2, op, ef, cl, sq, reduceIte, j3, j4, j5, j6, j7, j8, j9, y1, y3, S1, h0, h2, h3, h4, h10, hge, h2hi, hd, lc, c2]
        rw [siftDown, dif_neg hge, if_neg (and_f2 (lt1.trans (decf c1))), if_pos (not_f (lt2.trans (decf c2)))] at hP
        exact ⟨rfl, di, hd, hsz, hP, hfr⟩
  · simp -implicitDefEqProofs (maxSteps := 1000000) (disch := omega) only [natOf_nat, iadmO, ldm1O, ldm2O, stm0O, stm1O, stm2O, wA, wA1, wS, wS1, wM, S2, op, ef, cl, sq, reduceIte, j3, j4, j5, j6, j7, j8, j9, y1, y3, S1, h0, h2, h3, h4, h10, hge, h2hi, hd, lc]
    try simp -implicitDefEqProofs only [op, ef, cl, sq, reduceIte, j3, j4, j5, j6, j7, j8, j9, y1, y3, S1]
    try simp -implicitDefEqProofs (maxSteps := 1000000) (disch := omega) only [natOf_nat, iadmO, ldm1O, ldm2O, stm0O, stm1O, stm2O, wA, wA1, wS, wS1, wM, S2, op, ef, cl, sq, reduceIte, j3, j4, j5, j6, j7, j8, j9, y1, y3, S1, h0, h2, h3, h4, h10, hge, h2hi, hd, lc]
    refine callB_of _ _ _ _ _ _ _ _ (less91 di[first + r]! di[first + (2 * r + 1)]! _) ?_
    rintro u H3 ⟨hu, hx0⟩
    cases hu
    have hx : Ext H1 H3 := by rw [hx0]; exact Ext.rfl'
    have hd := hx.get hd
    have lc := glt hd
    have hfr := hfr.trans (ext_frm (F := fun _ => False) hx) (fun _ h => h.elim)
    have lt2 : ltN di[first + r]! di[first + (2 * r + 1)]! = decide (ltN di[first + r]! di[first + (2 * r + 1)]! = true) := by simp
    by_cases c2 : ltN di[first + r]! di[first + (2 * r + 1)]! = true
    · simp -implicitDefEqProofs (maxSteps := 1000000) (disch := omega) only [natOf_nat, iadmO, ldm1O, ldm2O, stm0O, stm1O, stm2O, wA, wA1, wS, wS1, wM, S2, op, ef, cl, sq, reduceIte, j3, j4, j5, j6, j7, j8, j9, y1, y3, S1, h0, h2, h3, h4, h10, hge, h2hi, hd, lc, c2]
      refine ⟨2 * r + 1, by omega, .i (.swp hd (by rw [swp_size]; exact hsz) ?_ hfr), rfl, by omega⟩
      rw [← hP]
      conv => { rhs; rw [siftDown, dif_neg hge, if_neg (and_f1 (decf h2hi)), if_neg (not_t (lt2.trans (dect c2)))] }
    · simp -implicitDefEqProofs (maxSteps := 1000000) (disch := omega) only [natOf_nat, iadmO, ldm1O, ldm2O, stm0O, stm1O, stm2O, wA, wA1, wS, wS1, wM, S2, op, ef, cl, sq, reduceIte, j3, j4, j5, j6, j7, j8, j9, y1, y3, S1, h0, h2, h3, h4, h10, hge, h2hi, hd, lc, c2]
      rw [siftDown, dif_neg hge, if_neg (and_f1 (decf h2hi)), if_pos (not_f (lt2.trans (decf c2)))] at hP
      exact ⟨rfl, di, hd, hsz, hP, hfr⟩
open Go.Sort in
theorem heap86 (c n : Nat) (d : Array Nat) (a b : Nat) (H : Heap) (hn : d.size = n) (hc : H[c]? = some (.cells (msC eU d.toList))) (hb : b ≤ n) (hab : a < b) (hs : n < 2305843009213693951) :
    W env (.call 140 [.msl c 0 n 1, .int .i64 a, .int .i64 b]) H (SrtNO c n (heapSort ltN d a b) H) := by
  refine W.fnI rfl rfl rfl ?_
  simp -implicitDefEqProofs (maxSteps := 1000000) (disch := omega) only [ir140, natOf_nat, iadmO, ldm1O, ldm2O, stm0O, stm1O, stm2O, wA, wA1, wS, wS1, wM, S2, op, ef, cl, sq, reduceIte, j3, j4, j5, j6, j7, j8, j9, y1, y3, S1, wQ2]
  refine W.loopE 0 (fun (k : Nat) R H' => At H' (fun H' => SCO c n H (fun di => heapBuild ltN (b - a) a k di = heapBuild ltN (b - a) a ((b - a - 1) / 2 + 1) d) H') ∧ R 0 = .msl c 0 n 1 ∧ R 0 = .msl c 0 n 1 ∧ R 6 = .int .i64 a ∧ R 7 = .int .i64 0 ∧ R 8 = .int .i64 (b - a : Nat) ∧ R 9 = .int .i64 ((k : Int) - 1) ∧ k ≤ b - a) (fun k => k) ((b - a - 1) / 2 + 1)
    (fun R H' => At H' (fun H' => SCO c n H (fun di => di = heapBuild ltN (b - a) a ((b - a - 1) / 2 + 1) d) H') ∧ R 0 = .msl c 0 n 1 ∧ R 0 = .msl c 0 n 1 ∧ R 6 = .int .i64 a ∧ R 7 = .int .i64 0 ∧ R 8 = .int .i64 (b - a : Nat))
    ⟨.i ⟨d, hc, hn, rfl, Frm.refl _ _⟩, rfl, rfl, rfl, rfl, rfl, by simp [upd], by omega⟩ ?_ ?_
  · rintro k R H1 ⟨⟨di, hd, hsz, hP, hfr⟩, h0, h3, h8, h9, h10, h11, hk⟩
    cases k with
    | zero =>
      rw [show (((0 : Nat) : Int) - 1) = -1 from rfl] at h11
      simp -implicitDefEqProofs (maxSteps := 1000000) (disch := omega) only [natOf_nat, iadmO, ldm1O, ldm2O, stm0O, stm1O, stm2O, wA, wA1, wS, wS1, wM, S2, op, ef, cl, sq, reduceIte, j3, j4, j5, j6, j7, j8, j9, y1, y3, S1, h0, h3, h8, h9, h10, h11]
      exact .i ⟨di, hd, hsz, hP, hfr⟩
    | succ k =>
      rw [show (((k + 1 : Nat) : Int) - 1) = (k : Int) by omega] at h11
      simp -implicitDefEqProofs (maxSteps := 1000000) (disch := omega) only [natOf_nat, iadmO, ldm1O, ldm2O, stm0O, stm1O, stm2O, wA, wA1, wS, wS1, wM, S2, op, ef, cl, sq, reduceIte, j3, j4, j5, j6, j7, j8, j9, y1, y3, S1, h0, h3, h8, h9, h10, h11, nge0]
      refine callB_of _ _ _ _ _ _ _ _ (sift101 c n di k (b - a) a _ hsz hd (by omega) (by omega) hs) ?_
      rintro u H2 ⟨hu, d2, hd2, hs2, rfl, hf2⟩
      cases hu
      simp -implicitDefEqProofs (maxSteps := 1000000) (disch := omega) only [wS0, op, ef, cl, sq, reduceIte, j3, j4, j5, j6, j7, j8, j9, y1, y3, S1, h0, h3, h8, h9, h10, h11]
      exact ⟨k, by omega, .i ⟨_, hd2, hs2, hP, hfr.trans hf2 fun _ h => .inl h⟩, rfl, by omega⟩
  · rintro R H1 ⟨⟨di, hd, hsz, hP, hfr⟩, h0, h3, h8, h9, h10⟩
    simp -implicitDefEqProofs (maxSteps := 1000000) (disch := omega) only [natOf_nat, iadmO, ldm1O, ldm2O, stm0O, stm1O, stm2O, wA, wA1, wS, wS1, wM, S2, op, ef, cl, sq, reduceIte, j3, j4, j5, j6, j7, j8, j9, y1, y3, S1, h0, h3, h8, h9, h10]
    refine W.loopI (fun (k : Nat) R H' => At H' (fun H' => SCO c n H (fun di => heapPop ltN a k di = heapSort ltN d a b) H') ∧ R 0 = .msl c 0 n 1 ∧ R 0 = .msl c 0 n 1 ∧ R 6 = .int .i64 a ∧ R 7 = .int .i64 0 ∧ R 8 = .int .i64 (b - a : Nat) ∧ R 10 = .int .i64 ((k : Int) - 1) ∧ k ≤ b - a) (fun k => k) (b - a) ⟨.i ⟨di, hd, hsz, by rw [hP]; rfl, hfr⟩, ?_, ?_, ?_, ?_, ?_, ?_, Nat.le_refl _⟩ ?_
    · simp -implicitDefEqProofs only [op, ef, cl, sq, reduceIte, j3, j4, j5, j6, j7, j8, j9, y1, y3, S1, h0]
    · simp -implicitDefEqProofs only [op, ef, cl, sq, reduceIte, j3, j4, j5, j6, j7, j8, j9, y1, y3, S1, h3]
    · simp -implicitDefEqProofs only [op, ef, cl, sq, reduceIte, j3, j4, j5, j6, j7, j8, j9, y1, y3, S1, h8]
    · simp -implicitDefEqProofs only [op, ef, cl, sq, reduceIte, j3, j4, j5, j6, j7, j8, j9, y1, y3, S1, h9]
    · simp -implicitDefEqProofs only [op, ef, cl, sq, reduceIte, j3, j4, j5, j6, j7, j8, j9, y1, y3, S1, h10]
    · simp -implicitDefEqProofs only [op, ef, cl, sq, reduceIte, j3, j4, j5, j6, j7, j8, j9, y1, y3, S1]; omega
    rintro k R H1 ⟨⟨di, hd, hsz, hP, hfr⟩, h0, h3, h8, h9, h10, h12, hk⟩
    have lc := glt hd
    cases k with
    | zero =>
      rw [show (((0 : Nat) : Int) - 1) = -1 from rfl] at h12
      simp -implicitDefEqProofs (maxSteps := 1000000) (disch := omega) only [natOf_nat, iadmO, ldm1O, ldm2O, stm0O, stm1O, stm2O, wA, wA1, wS, wS1, wM, S2, op, ef, cl, sq, reduceIte, j3, j4, j5, j6, j7, j8, j9, y1, y3, S1, h0, h3, h8, h9, h10, h12]
      exact ⟨rfl, di, hd, hsz, hP, hfr⟩
    | succ k =>
      rw [show (((k + 1 : Nat) : Int) - 1) = (k : Int) by omega] at h12
      simp -implicitDefEqProofs (maxSteps := 1000000) (disch := omega) only [natOf_nat, iadmO, ldm1O, ldm2O, stm0O, stm1O, stm2O, wA, wA1, wS, wS1, wM, S2, op, ef, cl, sq, reduceIte, j3, j4, j5, j6, j7, j8, j9, y1, y3, S1, h0, h3, h8, h9, h10, h12, nge0, hd, lc]
      obtain ⟨d1, hd1, hs1, rfl, hf1⟩ := SCO.swp (n := n) (P := fun x => x = swp di a (a + k)) (x := .cells (msC eU (di.toList.set a di[a + k]!))) hd (by rw [Go.Sort.swp_size]; exact hsz) rfl hfr
      refine callB_of _ _ _ _ _ _ _ _ (sift101 c n _ 0 k a _ hs1 hd1 (by omega) (by omega) hs) ?_
      rintro u H2 ⟨hu, d2, hd2, hs2, rfl, hf2⟩
      cases hu
      simp -implicitDefEqProofs (maxSteps := 1000000) (disch := omega) only [wS0, op, ef, cl, sq, reduceIte, j3, j4, j5, j6, j7, j8, j9, y1, y3, S1, h0, h3, h8, h9, h10, h12]
      exact ⟨k, by omega, .i ⟨_, hd2, hs2, hP, hf1.trans hf2 fun _ h => .inl h⟩, rfl, by omega⟩
open Go.Sort in
theorem ord106 (c n p sw : Nat) (d : Array Nat) (a b : Nat) (H : Heap) (hn : d.size = n) (hc : H[c]? = some (.cells (msC eU d.toList))) (hp : H[p]? = some (.cells [.int .i64 sw])) (ha : a < n) (hb : b < n) (hs : n < 2305843009213693951) (hsw : sw < 1000) :
    W env (.call 197 [.msl c 0 n 1, .int .i64 a, .int .i64 b, .ptr p 0]) H (OrdQ p (order2 ltN d a b sw) H) := by
  refine W.fnI rfl rfl rfl ?_
  have hd := hc
  have hfr := Frm.refl (fun x => x = p) H
  simp -implicitDefEqProofs (maxSteps := 1000000) (disch := omega) only [ir197, natOf_nat, iadmO, ldm1O, ldm2O, stm0O, stm1O, stm2O, wA, wA1, wS, wS1, wM, S2, op, ef, cl, sq, reduceIte, j3, j4, j5, j6, j7, j8, j9, y1, y3, S1, hd]
  refine callB_of _ _ _ _ _ _ _ _ (less91 d[b]! d[a]! _) ?_
  rintro u H1 ⟨hu, hx0⟩
  cases hu
  have hx : Ext H H1 := by rw [hx0]; exact Ext.rfl'
  have hd := hx.get hd
  have lc := glt hd
  have hfr := hfr.trans (ext_frm (F := fun _ => False) hx) (fun _ h => h.elim)
  have hp1 := hx.get hp
  have lp := glt hp1
  have lt1 : ltN d[b]! d[a]! = decide (ltN d[b]! d[a]! = true) := by simp
  by_cases c1 : ltN d[b]! d[a]! = true
  · simp -implicitDefEqProofs (maxSteps := 1000000) (disch := omega) only [natOf_nat, iadmO, ldm1O, ldm2O, stm0O, stm1O, stm2O, wA, wA1, wS, wS1, wM, S2, op, ef, cl, sq, reduceIte, j3, j4, j5, j6, j7, j8, j9, y1, y3, S1, hd, c1, hp1, lp]
    refine ⟨?_, ?_, ?_⟩
    · rw [order2, if_pos (lt1.trans (dect c1))]
    · rw [order2, if_pos (lt1.trans (dect c1))]; exact g_eq lp
    · exact hfr.set (.inl rfl) _
  · simp -implicitDefEqProofs (maxSteps := 1000000) (disch := omega) only [natOf_nat, iadmO, ldm1O, ldm2O, stm0O, stm1O, stm2O, wA, wA1, wS, wS1, wM, S2, op, ef, cl, sq, reduceIte, j3, j4, j5, j6, j7, j8, j9, y1, y3, S1, hd, c1, hp1, lp]
    refine ⟨?_, ?_, ?_⟩
    · rw [order2, if_neg (by rw [lt1, decf c1]; simp)]
    · rw [order2, if_neg (by rw [lt1, decf c1]; simp)]; exact hp1
    · exact hfr
open Go.Sort in
theorem ord_ltO (d : Array Nat) {n a b sw : Nat} (ha : a < n) (hb : b < n) : (Go.Sort.order2 ltN d a b sw).1 < n ∧ (Go.Sort.order2 ltN d a b sw).2.1 < n ∧ (Go.Sort.order2 ltN d a b sw).2.2 ≤ sw + 1 := by
  unfold Go.Sort.order2
  split
  · exact ⟨hb, ha, Nat.le_refl _⟩
  · exact ⟨ha, hb, Nat.le_succ _⟩
open Go.Sort in
theorem med103 (c n p sw : Nat) (d : Array Nat) (a b e : Nat) (H : Heap) (hn : d.size = n) (hc : H[c]? = some (.cells (msC eU d.toList))) (hp : H[p]? = some (.cells [.int .i64 sw])) (hcp : ¬ c = p) (ha : a < n) (hb : b < n) (he : e < n) (hs : n < 2305843009213693951) (hsw : sw < 900) :
    W env (.call 179 [.msl c 0 n 1, .int .i64 a, .int .i64 b, .int .i64 e, .ptr p 0]) H (fun o H' => MedQ p (median ltN d a b e sw) H o H' ∧ (median ltN d a b e sw).1 < n ∧ (median ltN d a b e sw).2 ≤ sw + 3) := by
  refine W.fnI rfl rfl rfl ?_
  simp -implicitDefEqProofs only [ir179, op, ef, cl, sq, reduceIte, j3, j4, j5, j6, j7, j8, j9, y1, y3, S1]
  refine callB_of _ _ _ _ _ _ _ _ (ord106 c n p sw d a b _ hn hc hp ha hb hs (by omega)) ?_
  rintro u H1 ⟨hu, hp1, hf1⟩
  cases hu
  have hc1 := hf1.get hc hcp
  obtain ⟨r1, hr1⟩ : ∃ r, r = order2 ltN d a b sw := ⟨_, rfl⟩
  obtain ⟨q1, q2, q3⟩ := ord_ltO d (sw := sw) ha hb
  rw [← hr1] at q1 q2 q3 hp1 ⊢
  try simp -implicitDefEqProofs only [op, ef, cl, sq, reduceIte, j3, j4, j5, j6, j7, j8, j9, y1, y3, S1]
  refine callB_of _ _ _ _ _ _ _ _ (ord106 c n p r1.2.2 d r1.2.1 e _ hn hc1 hp1 q2 he hs (by omega)) ?_
  rintro u H2 ⟨hu, hp2, hf2⟩
  cases hu
  have hc2 := hf2.get hc1 hcp
  obtain ⟨r2, hr2⟩ : ∃ r, r = order2 ltN d r1.2.1 e r1.2.2 := ⟨_, rfl⟩
  obtain ⟨q4, q5, q6⟩ := ord_ltO d (sw := r1.2.2) q2 he
  rw [← hr2] at q4 q5 q6 hp2 ⊢
  try simp -implicitDefEqProofs only [op, ef, cl, sq, reduceIte, j3, j4, j5, j6, j7, j8, j9, y1, y3, S1]
  refine callB_of _ _ _ _ _ _ _ _ (ord106 c n p r2.2.2 d r1.1 r2.1 _ hn hc2 hp2 q1 q4 hs (by omega)) ?_
  rintro u H3 ⟨hu, hp3, hf3⟩
  cases hu
  obtain ⟨q7, q8, q9⟩ := ord_ltO d (sw := r2.2.2) q1 q4
  have e : median ltN d a b e sw = ((order2 ltN d r1.1 r2.1 r2.2.2).2.1, (order2 ltN d r1.1 r2.1 r2.2.2).2.2) := by rw [median, ← hr1, ← hr2]
  rw [e]
  try simp -implicitDefEqProofs only [op, ef, cl, sq, reduceIte, j3, j4, j5, j6, j7, j8, j9, y1, y3, S1]
  exact ⟨⟨rfl, hp3, (hf1.trans hf2 fun _ h => .inl h).trans hf3 fun _ h => .inl h⟩, q8, by omega⟩
open Go.Sort in
theorem madj102 (c n p sw : Nat) (d : Array Nat) (a : Nat) (H : Heap) (hn : d.size = n) (hc : H[c]? = some (.cells (msC eU d.toList))) (hp : H[p]? = some (.cells [.int .i64 sw])) (hcp : ¬ c = p) (ha : 1 ≤ a) (ha2 : a + 1 < n) (hs : n < 2305843009213693951) (hsw : sw < 900) :
    W env (.call 178 [.msl c 0 n 1, .int .i64 a, .ptr p 0]) H (fun o H' => MedQ p (medianAdjacent ltN d a sw) H o H' ∧ (medianAdjacent ltN d a sw).1 < n ∧ (medianAdjacent ltN d a sw).2 ≤ sw + 3) := by
  refine W.fnI rfl rfl rfl ?_
  simp -implicitDefEqProofs (maxSteps := 1000000) (disch := omega) only [ir178, natOf_nat, iadmO, ldm1O, ldm2O, stm0O, stm1O, stm2O, wA, wA1, wS, wS1, wM, S2, op, ef, cl, sq, reduceIte, j3, j4, j5, j6, j7, j8, j9, y1, y3, S1]
  refine callB_of _ _ _ _ _ _ _ _ (med103 c n p sw d (a - 1) a (a + 1) _ hn hc hp hcp (by omega) (by omega) ha2 hs hsw) ?_
  rintro u H1 ⟨⟨hu, hp1, hf1⟩, q1, q2⟩
  cases hu
  try simp -implicitDefEqProofs only [op, ef, cl, sq, reduceIte, j3, j4, j5, j6, j7, j8, j9, y1, y3, S1]
  exact ⟨⟨rfl, hp1, hf1⟩, q1, q2⟩
open Go.Sort in
theorem choose88 (c n : Nat) (d : Array Nat) (a b : Nat) (H : Heap) (hn : d.size = n) (hc : H[c]? = some (.cells (msC eU d.toList))) (hb : b ≤ n) (hab : a + 12 < b) (hs : n < 1305843009213693951) :
    W env (.call 142 [.msl c 0 n 1, .int .i64 a, .int .i64 b]) H (fun o H' => o = .val (.tup [.int .i64 (choosePivot ltN d a b).1, .int .i64 (hintN (choosePivot ltN d a b).2)]) ∧ Ext H H') := by
  refine W.fnI rfl rfl rfl ?_
  have h8 : 8 ≤ b - a := by omega
  have lc := glt hc
  have hcp : ¬ c = H.length := by omega
  have hc0 : (H ++ [B.cells [T.int IntKind.i64 0]])[c]? = some (.cells (msC eU d.toList)) := by rw [g_app lc]; exact hc
  have hp0 : (H ++ [B.cells [T.int IntKind.i64 0]])[H.length]? = some (.cells [.int .i64 ((0 : Nat) : Int)]) := g_tail rfl
  have fin : ∀ H2 : Heap, Frm (fun x => x = H.length) (H ++ [B.cells [T.int IntKind.i64 0]]) H2 → Ext H H2 := fun H2 hf => ext_of fun x y hx => hf.get (by rw [g_app (glt hx)]; exact hx) (by have := glt hx; omega)
  by_cases h50 : 50 ≤ b - a
  · simp -implicitDefEqProofs (maxSteps := 1000000) (disch := omega) only [ir142, natOf_nat, iadmO, ldm1O, ldm2O, stm0O, stm1O, stm2O, wA, wA1, wS, wS1, wM, S2, op, ef, cl, sq, reduceIte, j3, j4, j5, j6, j7, j8, j9, y1, y3, S1, wQ4, wM1, wM2, wM3, h8, h50]
    refine callB_of _ _ _ _ _ _ _ _ (madj102 c n H.length 0 d _ _ hn hc0 hp0 hcp (by omega) (by omega) (by omega) (by omega)) ?_
    rintro u H1 ⟨⟨hu, hp1, hf1⟩, q1, q2⟩
    cases hu
    obtain ⟨ri, hri⟩ : ∃ r, r = medianAdjacent ltN d (a + (b - a) / 4 * 1) 0 := ⟨_, rfl⟩
    rw [← hri] at q1 q2 hp1 ⊢
    have hc1 := hf1.get hc0 hcp
    try simp -implicitDefEqProofs only [op, ef, cl, sq, reduceIte, j3, j4, j5, j6, j7, j8, j9, y1, y3, S1]
    refine callB_of _ _ _ _ _ _ _ _ (madj102 c n H.length ri.2 d _ _ hn hc1 hp1 hcp (by omega) (by omega) (by omega) (by omega)) ?_
    rintro u H2 ⟨⟨hu, hp2, hf2⟩, q3, q4⟩
    cases hu
    obtain ⟨rj, hrj⟩ : ∃ r, r = medianAdjacent ltN d (a + (b - a) / 4 * 2) ri.2 := ⟨_, rfl⟩
    rw [← hrj] at q3 q4 hp2 ⊢
    have hc2 := hf2.get hc1 hcp
    try simp -implicitDefEqProofs only [op, ef, cl, sq, reduceIte, j3, j4, j5, j6, j7, j8, j9, y1, y3, S1]
    refine callB_of _ _ _ _ _ _ _ _ (madj102 c n H.length rj.2 d _ _ hn hc2 hp2 hcp (by omega) (by omega) (by omega) (by omega)) ?_
    rintro u H3 ⟨⟨hu, hp3, hf3⟩, q5, q6⟩
    cases hu
    obtain ⟨rk, hrk⟩ : ∃ r, r = medianAdjacent ltN d (a + (b - a) / 4 * 3) rj.2 := ⟨_, rfl⟩
    rw [← hrk] at q5 q6 hp3 ⊢
    have hc3 := hf3.get hc2 hcp
    try simp -implicitDefEqProofs only [op, ef, cl, sq, reduceIte, j3, j4, j5, j6, j7, j8, j9, y1, y3, S1]
    refine callB_of _ _ _ _ _ _ _ _ (med103 c n H.length rk.2 d ri.1 rj.1 rk.1 _ hn hc3 hp3 hcp q1 q3 q5 (by omega) (by omega)) ?_
    rintro u H4 ⟨⟨hu, hp4, hf4⟩, q7, q8⟩
    cases hu
    have e : choosePivot ltN d a b = ((median ltN d ri.1 rj.1 rk.1 rk.2).1, if (median ltN d ri.1 rj.1 rk.1 rk.2).2 = 0 then .increasing else if (median ltN d ri.1 rj.1 rk.1 rk.2).2 = 12 then .decreasing else .unknown) := by
      simp -implicitDefEqProofs only [choosePivot, ge_iff_le, if_pos h8, if_pos h50, ← hri, ← hrj, ← hrk]
    rw [e]
    have hx := fin _ (((hf1.trans hf2 fun _ h => .inl h).trans hf3 fun _ h => .inl h).trans hf4 fun _ h => .inl h)
    generalize median ltN d ri.1 rj.1 rk.1 rk.2 = r at *
    obtain ⟨m, sw⟩ := r
    simp only at hp4 ⊢
    by_cases s0 : sw = 0
    · subst s0
      have e0 : (((0 : Nat) : Int) == 0) = true := rfl
      simp -implicitDefEqProofs only [op, ef, cl, sq, reduceIte, j3, j4, j5, j6, j7, j8, j9, y1, y3, S1, hp4, e0]
      exact ⟨rfl, hx⟩
    have e0 : (((sw : Nat) : Int) == 0) = false := by simp; omega
    by_cases s1 : sw = 12
    · subst s1
      have e1 : (((12 : Nat) : Int) == 12) = true := rfl
      simp -implicitDefEqProofs only [op, ef, cl, sq, reduceIte, j3, j4, j5, j6, j7, j8, j9, y1, y3, S1, hp4, e0, e1]
      exact ⟨rfl, hx⟩
    have e1 : (((sw : Nat) : Int) == 12) = false := by simp; omega
    simp -implicitDefEqProofs only [op, ef, cl, sq, reduceIte, j3, j4, j5, j6, j7, j8, j9, y1, y3, S1, hp4, e0, e1, s0, s1]
    exact ⟨rfl, hx⟩
  · simp -implicitDefEqProofs (maxSteps := 1000000) (disch := omega) only [ir142, natOf_nat, iadmO, ldm1O, ldm2O, stm0O, stm1O, stm2O, wA, wA1, wS, wS1, wM, S2, op, ef, cl, sq, reduceIte, j3, j4, j5, j6, j7, j8, j9, y1, y3, S1, wQ4, wM1, wM2, wM3, h8, h50]
    refine callB_of _ _ _ _ _ _ _ _ (med103 c n H.length 0 d _ _ _ _ hn hc0 hp0 hcp (by omega) (by omega) (by omega) (by omega) (by omega)) ?_
    rintro u H4 ⟨⟨hu, hp4, hf4⟩, q7, q8⟩
    cases hu
    have e : choosePivot ltN d a b = ((median ltN d (a + (b - a) / 4 * 1) (a + (b - a) / 4 * 2) (a + (b - a) / 4 * 3) 0).1, if (median ltN d (a + (b - a) / 4 * 1) (a + (b - a) / 4 * 2) (a + (b - a) / 4 * 3) 0).2 = 0 then .increasing else if (median ltN d (a + (b - a) / 4 * 1) (a + (b - a) / 4 * 2) (a + (b - a) / 4 * 3) 0).2 = 12 then .decreasing else .unknown) := by
      simp -implicitDefEqProofs only [choosePivot, ge_iff_le, if_pos h8, if_neg h50]
    rw [e]
    have hx := fin _ hf4
    generalize median ltN d (a + (b - a) / 4 * 1) (a + (b - a) / 4 * 2) (a + (b - a) / 4 * 3) 0 = r at *
    obtain ⟨m, sw⟩ := r
    simp only at hp4 ⊢
    by_cases s0 : sw = 0
    · subst s0
      have e0 : (((0 : Nat) : Int) == 0) = true := rfl
      simp -implicitDefEqProofs only [op, ef, cl, sq, reduceIte, j3, j4, j5, j6, j7, j8, j9, y1, y3, S1, hp4, e0]
      exact ⟨rfl, hx⟩
    have e0 : (((sw : Nat) : Int) == 0) = false := by simp; omega
    by_cases s1 : sw = 12
    · subst s1
      have e1 : (((12 : Nat) : Int) == 12) = true := rfl
      simp -implicitDefEqProofs only [op, ef, cl, sq, reduceIte, j3, j4, j5, j6, j7, j8, j9, y1, y3, S1, hp4, e0, e1]
      exact ⟨rfl, hx⟩
    have e1 : (((sw : Nat) : Int) == 12) = false := by simp; omega
    simp -implicitDefEqProofs only [op, ef, cl, sq, reduceIte, j3, j4, j5, j6, j7, j8, j9, y1, y3, S1, hp4, e0, e1, s0, s1]
    exact ⟨rfl, hx⟩
def brkO (a len md : Nat) (d : Array Nat) : Nat → UInt64 × Array Nat
  | 0 => (UInt64.ofNat len, d)
  | j + 1 => Go.Sort.breakStep a len md (brkO a len md d j) (a + len / 4 * 2 - 1 + j)
open Go.Sort in
theorem break87 (c n : Nat) (d : Array Nat) (a b : Nat) (H : Heap) (hn : d.size = n) (hc : H[c]? = some (.cells (msC eU d.toList))) (hb : b ≤ n) (hab : a + 12 < b) (hs : n < 16777216) :
    W env (.call 141 [.msl c 0 n 1, .int .i64 a, .int .i64 b]) H (SrtNO c n (breakPatterns d a b) H) := by
  refine W.fnI rfl rfl rfl ?_
  have h8 : 8 ≤ b - a := by omega
  have lc := glt hc
  obtain ⟨len, hlen⟩ : ∃ len, len = b - a := ⟨_, rfl⟩
  have wl : IntKind.u64.wrap ((len : Nat) : Int) = (len : Int) := wrapu (by omega)
  rw [← hlen] at h8
  simp -implicitDefEqProofs (maxSteps := 1000000) (disch := omega) only [ir141, natOf_nat, iadmO, ldm1O, ldm2O, stm0O, stm1O, stm2O, wA, wA1, wS, wS1, wM, S2, op, ef, cl, sq, reduceIte, j3, j4, j5, j6, j7, j8, j9, y1, y3, S1, wQ4, wM2, ← hlen, wl, h8]
  refine callB_of _ _ _ _ _ _ _ _ (next97 len (by omega) _) ?_
  rintro u H1 ⟨hu, rfl⟩
  cases hu
  obtain ⟨md, hmd⟩ : ∃ md, md = 1 <<< bitsLen len := ⟨_, rfl⟩
  have hm2 := two_bits (n := len) (by omega)
  have hm1 : 1 ≤ 1 <<< bitsLen len := by rw [Nat.one_shiftLeft]; exact Nat.one_le_two_pow
  rw [← hmd] at hm1 hm2 ⊢
  have hq : len / 4 * 2 ≤ len := by omega
  obtain ⟨ix, hix⟩ : ∃ ix, ix = a + len / 4 * 2 - 1 := ⟨_, rfl⟩
  have hfin : breakPatterns d a b = (brkO a len md d 3).2 := by
    simp -implicitDefEqProofs only [breakPatterns, ← hlen, ge_iff_le, if_pos h8, brkO, ← hmd, Nat.add_zero]
  simp -implicitDefEqProofs (maxSteps := 1000000) (disch := omega) only [natOf_nat, iadmO, ldm1O, ldm2O, stm0O, stm1O, stm2O, wA, wA1, wS, wS1, wM, S2, op, ef, cl, sq, reduceIte, j3, j4, j5, j6, j7, j8, j9, y1, y3, S1, wQ4, wM2, ← hix]
  have hc1 : (H ++ [B.cells [T.int IntKind.u64 len]])[c]? = some (.cells (msC eU d.toList)) := by rw [g_app lc]; exact hc
  have hp1 : (H ++ [B.cells [T.int IntKind.u64 len]])[H.length]? = some (.cells [.int .u64 (UInt64.ofNat len).toNat]) := by
    rw [g_tail rfl, UInt64.toNat_ofNat_of_lt' (by show len < 18446744073709551616; omega)]
  refine W.loopI (fun (j : Nat) R H' => At H' (fun H' => ∃ d' : Array Nat, H'[c]? = some (.cells (msC eU d'.toList)) ∧ d'.size = n ∧ d' = (brkO a len md d j).2 ∧ H'[H.length]? = some (.cells [.int .u64 (brkO a len md d j).1.toNat]) ∧ Frm (fun x => x = c ∨ x = H.length) (H ++ [B.cells [T.int IntKind.u64 len]]) H') ∧ R 0 = .msl c 0 n 1 ∧ R 1 = .int .i64 a ∧ R 6 = .int .i64 len ∧ R 7 = .ptr H.length 0 ∧ R 8 = .int .u64 md ∧ R 9 = .int .i64 (ix + j : Nat) ∧ j ≤ 3) (fun j => 3 - j) 0 ⟨.i ⟨d, hc1, hn, rfl, hp1, Frm.refl _ _⟩, rfl, rfl, rfl, rfl, rfl, rfl, by omega⟩ ?_
  rintro j R H1 ⟨⟨di, hd, hsz, hdj, hp, hfr⟩, h0, h1, h8', h9, h10, h11, hj⟩
  by_cases hj3 : j < 3
  · have hle : ix + j ≤ a + len / 4 * 2 + 1 := by omega
    simp -implicitDefEqProofs (maxSteps := 1000000) (disch := omega) only [natOf_nat, iadmO, ldm1O, ldm2O, stm0O, stm1O, stm2O, wA, wA1, wS, wS1, wM, S2, op, ef, cl, sq, reduceIte, j3, j4, j5, j6, j7, j8, j9, y1, y3, S1, wQ4, wM2, h0, h1, h8', h9, h10, h11, hle]
    refine callB_of _ _ _ _ _ _ _ _ (xor98 H.length _ _ hp) ?_
    rintro u H2 ⟨hu, hp2, hf2⟩
    cases hu
    have hd := hf2.get hd (by omega)
    have lc2 := glt hd
    obtain ⟨r, hr⟩ : ∃ r, r = xorNext (brkO a len md d j).1 := ⟨_, rfl⟩
    rw [← hr] at hp2 ⊢
    obtain ⟨ot, hot⟩ : ∃ ot, ot = r.toNat &&& (md - 1) := ⟨_, rfl⟩
    have hol : ot ≤ md - 1 := by rw [hot]; exact Nat.and_le_right
    have hstep : brkO a len md d (j + 1) = (r, swp di (ix + j) (a + if ot ≥ len then ot - len else ot)) := by
      simp -implicitDefEqProofs only [brkO, breakStep, ← hr, ← hdj, ← hot, ← hix]
    have hne : ¬ (c = H.length) := by omega
    by_cases hge : len ≤ ot
    · rw [if_pos hge] at hstep
      simp -implicitDefEqProofs (maxSteps := 1000000) (disch := omega) only [natOf_nat, iadmO, ldm1O, ldm2O, stm0O, stm1O, stm2O, wA, wA1, wS, wS1, wM, S2, op, ef, cl, sq, reduceIte, j3, j4, j5, j6, j7, j8, j9, y1, y3, S1, wSu, u_and, wN, ← hot, h0, h1, h8', h9, h10, h11, hge, hd, lc2]
      refine ⟨j + 1, by omega, .i ⟨swp di (ix + j) (a + (ot - len)), g_eq (by rw [List.length_set]; exact lc2), by rw [swp_size]; exact hsz, by rw [hstep], ?_, ((hfr.trans hf2 fun x h => .inl (.inr h)).set (.inl (.inl rfl)) _).set (.inl (.inl rfl)) _⟩, rfl, by omega⟩
      rw [g_ne hne, g_ne hne, hp2, hstep]
    · rw [if_neg hge] at hstep
      simp -implicitDefEqProofs (maxSteps := 1000000) (disch := omega) only [natOf_nat, iadmO, ldm1O, ldm2O, stm0O, stm1O, stm2O, wA, wA1, wS, wS1, wM, S2, op, ef, cl, sq, reduceIte, j3, j4, j5, j6, j7, j8, j9, y1, y3, S1, wSu, u_and, wN, ← hot, h0, h1, h8', h9, h10, h11, hge, hd, lc2]
      refine ⟨j + 1, by omega, .i ⟨swp di (ix + j) (a + ot), g_eq (by rw [List.length_set]; exact lc2), by rw [swp_size]; exact hsz, by rw [hstep], ?_, ((hfr.trans hf2 fun x h => .inl (.inr h)).set (.inl (.inl rfl)) _).set (.inl (.inl rfl)) _⟩, rfl, by omega⟩
      rw [g_ne hne, g_ne hne, hp2, hstep]
  · have hj' : j = 3 := by omega
    subst hj'
    have hle : ¬ (ix + 3 ≤ a + len / 4 * 2 + 1) := by omega
    simp -implicitDefEqProofs (maxSteps := 1000000) (disch := omega) only [natOf_nat, iadmO, ldm1O, ldm2O, stm0O, stm1O, stm2O, wA, wA1, wS, wS1, wM, S2, op, ef, cl, sq, reduceIte, j3, j4, j5, j6, j7, j8, j9, y1, y3, S1, wQ4, wM2, h0, h1, h8', h9, h10, h11, hle]
    exact ⟨rfl, di, hd, hsz, by rw [hfin, hdj], (ext_frm (F := fun x => x = c) (H := H) (H' := H ++ [B.cells [T.int IntKind.u64 len]]) ⟨_, rfl⟩).trans hfr fun x h => h.elim .inl fun e => .inr (by omega)⟩
open Go.Sort in
theorem scanDown_eqO {p : Nat → Bool} {d : Array Nat} {i k : Nat} (h : 1 ≤ i) : scanDown p d i k = if (decide (i ≤ k) && p d[k]!) = true then scanDown p d i (k - 1) else k := by
  cases k with
  | zero => rw [scanDown, if_neg (and_f1 (decf (by omega)))]
  | succ k => rw [scanDown]; rfl
open Go.Sort in
theorem peq_eqO {a i j si sj : Nat} {d : Array Nat} (hi : si = scanUp (fun x => !ltN d[a]! x) d j i) (hj : sj = scanDown (fun x => ltN d[a]! x) d si j) : partEqLoop ltN a i j d = if si > sj then (si, d) else if (sj - 1) + 1 - (si + 1) < j + 1 - i then partEqLoop ltN a (si + 1) (sj - 1) (swp d si sj) else (si, d) := by
  subst hi; subst hj
  rw [partEqLoop]
  rfl
open Go.Sort in
theorem peq92 (c n : Nat) (d : Array Nat) (a b pv : Nat) (H : Heap) (hn : d.size = n) (hc : H[c]? = some (.cells (msC eU d.toList))) (hb : b ≤ n) (hab : a < b) (hpv : pv < n) (hs : n < 2305843009213693951) :
    W env (.call 146 [.msl c 0 n 1, .int .i64 a, .int .i64 b, .int .i64 pv]) H (fun o H' => o = .val (.int .i64 (partitionEqual ltN d a b pv).1) ∧ SCO c n H (fun x => x = (partitionEqual ltN d a b pv).2) H') := by
  refine W.fnI rfl rfl rfl ?_
  have hd := hc
  have lc := glt hd
  simp -implicitDefEqProofs (maxSteps := 1000000) (disch := omega) only [ir146, natOf_nat, iadmO, ldm1O, ldm2O, stm0O, stm1O, stm2O, wA, wA1, wS, wS1, wM, S2, op, ef, cl, sq, reduceIte, j3, j4, j5, j6, j7, j8, j9, y1, y3, S1, hd, lc]
  obtain ⟨d1, hd1, hs1, e1, hf1⟩ := SCO.swp (n := n) (P := fun x => x = swp d a pv) (x := .cells (msC eU (d.toList.set a d[pv]!))) hd (by rw [Go.Sort.swp_size]; exact hn) rfl (Frm.refl (fun x => x = c) H)
  subst e1
  generalize ((H.set c (.cells (msC eU (d.toList.set a d[pv]!)))).set c (.cells (msC eU (swp d a pv).toList))) = H1 at *
  refine W.loopE 0 (fun (q : Nat × Nat) R H' => At H' (fun H' => SCO c n H (fun di => partEqLoop ltN a q.1 q.2 di = partitionEqual ltN d a b pv) H') ∧ R 0 = .msl c 0 n 1 ∧ R 1 = .int .i64 a ∧ R 0 = .msl c 0 n 1 ∧ R 9 = .int .i64 q.1 ∧ R 10 = .int .i64 q.2 ∧ a < q.1 ∧ q.2 < n ∧ q.1 ≤ n) (fun q => q.2 + 1 - q.1) (a + 1, b - 1)
    (fun R H' => At H' (fun H' => SCO c n H (fun di => di = (partitionEqual ltN d a b pv).2) H') ∧ R 9 = .int .i64 (partitionEqual ltN d a b pv).1) ⟨.i ⟨_, hd1, hs1, rfl, hf1⟩, rfl, rfl, rfl, rfl, rfl, by omega, by simp only; omega, by simp only; omega⟩ ?_ ?_
  · rintro ⟨i, j⟩ R H1 ⟨⟨di, hd, hsz, hP, hfr⟩, h0, h1, h4, h11, h12, hai, hjn, hin⟩
    simp only at hP h11 h12 hai hjn hin ⊢
    simp -implicitDefEqProofs only [op, ef, cl, sq, reduceIte, j3, j4, j5, j6, j7, j8, j9, y1, y3, S1, h0, h1, h4, h11, h12]
    obtain ⟨si, hsi⟩ : ∃ si, si = scanUp (fun x => !ltN di[a]! x) di j i := ⟨_, rfl⟩
    refine W.loopE 2 (fun (k : Nat) R H' => At H' (fun H' => H'[c]? = some (.cells (msC eU di.toList)) ∧ Frm (fun x => x = c) H H') ∧ R 0 = .msl c 0 n 1 ∧ R 1 = .int .i64 a ∧ R 0 = .msl c 0 n 1 ∧ R 9 = .int .i64 k ∧ R 10 = .int .i64 j ∧ i ≤ k ∧ k ≤ n ∧ scanUp (fun x => !ltN di[a]! x) di j k = si) (fun k => j + 1 - k) i
      (fun R H' => At H' (fun H' => H'[c]? = some (.cells (msC eU di.toList)) ∧ Frm (fun x => x = c) H H') ∧ R 0 = .msl c 0 n 1 ∧ R 1 = .int .i64 a ∧ R 0 = .msl c 0 n 1 ∧ R 9 = .int .i64 si ∧ R 10 = .int .i64 j ∧ i ≤ si ∧ si ≤ n) ⟨.i ⟨hd, hfr⟩, h0, h1, h4, h11, h12, Nat.le_refl _, hin, hsi.symm⟩ ?_ ?_
    · rintro k R H2 ⟨⟨hd, hfr⟩, h0, h1, h4, h11, h12, hik, hkn, hk⟩
      have lc := glt hd
      by_cases hkj : k ≤ j
      · simp -implicitDefEqProofs (maxSteps := 1000000) (disch := omega) only [natOf_nat, iadmO, ldm1O, ldm2O, stm0O, stm1O, stm2O, wA, wA1, wS, wS1, wM, S2, op, ef, cl, sq, reduceIte, j3, j4, j5, j6, j7, j8, j9, y1, y3, S1, h0, h1, h4, h11, h12, hkj, hd, lc]
        refine callB_of _ _ _ _ _ _ _ _ (less91 di[a]! di[k]! _) ?_
        rintro u H3 ⟨hu, hx0⟩
        cases hu
        have hx : Ext H2 H3 := by rw [hx0]; exact Ext.rfl'
        have hd := hx.get hd
        have lc := glt hd
        have hfr := hfr.trans (ext_frm (F := fun _ => False) hx) (fun _ h => h.elim)
        have lt1 : ltN di[a]! di[k]! = decide (ltN di[a]! di[k]! = true) := by simp
        by_cases c1 : ltN di[a]! di[k]! = true
        · simp -implicitDefEqProofs (maxSteps := 1000000) (disch := omega) only [natOf_nat, iadmO, ldm1O, ldm2O, stm0O, stm1O, stm2O, wA, wA1, wS, wS1, wM, S2, op, ef, cl, sq, reduceIte, j3, j4, j5, j6, j7, j8, j9, y1, y3, S1, h0, h1, h4, h11, h12, hkj, c1]
          rw [scanUp, if_neg (and_f2 (by rw [lt1, dect c1]; rfl))] at hk
          subst hk
          exact ⟨.i ⟨hd, hfr⟩, rfl, hik, hkn⟩
        · simp -implicitDefEqProofs (maxSteps := 1000000) (disch := omega) only [natOf_nat, iadmO, ldm1O, ldm2O, stm0O, stm1O, stm2O, wA, wA1, wS, wS1, wM, S2, op, ef, cl, sq, reduceIte, j3, j4, j5, j6, j7, j8, j9, y1, y3, S1, h0, h1, h4, h11, h12, hkj, c1]
          rw [scanUp, if_pos (and_t (dect hkj) (not_f (lt1.trans (decf c1))))] at hk
          exact ⟨k + 1, by omega, .i ⟨hd, hfr⟩, rfl, by omega, by omega, hk⟩
      · simp -implicitDefEqProofs (maxSteps := 1000000) (disch := omega) only [op, ef, cl, sq, reduceIte, j3, j4, j5, j6, j7, j8, j9, y1, y3, S1, h0, h1, h4, h11, h12, hkj]
        try simp -implicitDefEqProofs only [op, ef, cl, sq, reduceIte, j3, j4, j5, j6, j7, j8, j9, y1, y3, S1, h0, h1, h4, h11, h12, hkj]
        rw [scanUp, if_neg (and_f1 (decf hkj))] at hk
        subst hk
        exact ⟨.i ⟨hd, hfr⟩, rfl, hik, hkn⟩
    · rintro R H2 ⟨⟨hd, hfr⟩, h0, h1, h4, h11, h12, hisi, hsin⟩
      simp -implicitDefEqProofs only [op, ef, cl, sq, reduceIte, j3, j4, j5, j6, j7, j8, j9, y1, y3, S1, h0, h1, h4, h11, h12]
      obtain ⟨sj, hsj⟩ : ∃ sj, sj = scanDown (fun x => ltN di[a]! x) di si j := ⟨_, rfl⟩
      refine W.loopE 4 (fun (k : Nat) R H' => At H' (fun H' => H'[c]? = some (.cells (msC eU di.toList)) ∧ Frm (fun x => x = c) H H') ∧ R 0 = .msl c 0 n 1 ∧ R 1 = .int .i64 a ∧ R 0 = .msl c 0 n 1 ∧ R 9 = .int .i64 si ∧ R 10 = .int .i64 k ∧ k ≤ j ∧ scanDown (fun x => ltN di[a]! x) di si k = sj) (fun k => k) j
        (fun R H' => At H' (fun H' => H'[c]? = some (.cells (msC eU di.toList)) ∧ Frm (fun x => x = c) H H') ∧ R 0 = .msl c 0 n 1 ∧ R 1 = .int .i64 a ∧ R 0 = .msl c 0 n 1 ∧ R 9 = .int .i64 si ∧ R 10 = .int .i64 sj ∧ sj ≤ j) ⟨.i ⟨hd, hfr⟩, h0, h1, h4, h11, h12, Nat.le_refl _, hsj.symm⟩ ?_ ?_
      · rintro k R H3 ⟨⟨hd, hfr⟩, h0, h1, h4, h11, h12, hkj, hk⟩
        have lc := glt hd
        rw [scanDown_eqO (by omega)] at hk
        by_cases hkk : si ≤ k
        · simp -implicitDefEqProofs (maxSteps := 1000000) (disch := omega) only [natOf_nat, iadmO, ldm1O, ldm2O, stm0O, stm1O, stm2O, wA, wA1, wS, wS1, wM, S2, op, ef, cl, sq, reduceIte, j3, j4, j5, j6, j7, j8, j9, y1, y3, S1, h0, h1, h4, h11, h12, hkk, hd, lc]
          refine callB_of _ _ _ _ _ _ _ _ (less91 di[a]! di[k]! _) ?_
          rintro u H4 ⟨hu, hx0⟩
          cases hu
          have hx : Ext H3 H4 := by rw [hx0]; exact Ext.rfl'
          have hd := hx.get hd
          have lc := glt hd
          have hfr := hfr.trans (ext_frm (F := fun _ => False) hx) (fun _ h => h.elim)
          have lt1 : ltN di[a]! di[k]! = decide (ltN di[a]! di[k]! = true) := by simp
          by_cases c1 : ltN di[a]! di[k]! = true
          · simp -implicitDefEqProofs (maxSteps := 1000000) (disch := omega) only [natOf_nat, iadmO, ldm1O, ldm2O, stm0O, stm1O, stm2O, wA, wA1, wS, wS1, wM, S2, op, ef, cl, sq, reduceIte, j3, j4, j5, j6, j7, j8, j9, y1, y3, S1, h0, h1, h4, h11, h12, hkk, c1]
            rw [if_pos (and_t (dect hkk) (lt1.trans (dect c1)))] at hk
            exact ⟨k - 1, by omega, .i ⟨hd, hfr⟩, rfl, by omega, hk⟩
          · simp -implicitDefEqProofs (maxSteps := 1000000) (disch := omega) only [natOf_nat, iadmO, ldm1O, ldm2O, stm0O, stm1O, stm2O, wA, wA1, wS, wS1, wM, S2, op, ef, cl, sq, reduceIte, j3, j4, j5, j6, j7, j8, j9, y1, y3, S1, h0, h1, h4, h11, h12, hkk, c1]
            rw [if_neg (and_f2 (lt1.trans (decf c1)))] at hk
            subst hk
            exact ⟨.i ⟨hd, hfr⟩, rfl, hkj⟩
        · simp -implicitDefEqProofs only [op, ef, cl, sq, reduceIte, j3, j4, j5, j6, j7, j8, j9, y1, y3, S1, h0, h1, h4, h11, h12, hkk]
          rw [if_neg (and_f1 (decf hkk))] at hk
          subst hk
          exact ⟨.i ⟨hd, hfr⟩, rfl, hkj⟩
      · rintro R H3 ⟨⟨hd, hfr⟩, h0, h1, h4, h11, h12, hsjj⟩
        have lc := glt hd
        rw [peq_eqO hsi hsj] at hP
        by_cases hgt : sj < si
        · rw [if_pos hgt] at hP
          simp -implicitDefEqProofs only [op, ef, cl, sq, reduceIte, j3, j4, j5, j6, j7, j8, j9, y1, y3, S1, h0, h1, h4, h11, h12, hgt]
          exact ⟨.i ⟨di, hd, hsz, by rw [← hP], hfr⟩, by rw [← hP]⟩
        · rw [if_neg hgt, if_pos (by omega)] at hP
          simp -implicitDefEqProofs (maxSteps := 1000000) (disch := omega) only [natOf_nat, iadmO, ldm1O, ldm2O, stm0O, stm1O, stm2O, wA, wA1, wS, wS1, wM, S2, op, ef, cl, sq, reduceIte, j3, j4, j5, j6, j7, j8, j9, y1, y3, S1, h0, h1, h4, h11, h12, hgt, hd, lc]
          exact ⟨(si + 1, sj - 1), by simp only; omega, .i (.swp hd (by rw [swp_size]; exact hsz) hP hfr), rfl, rfl, by simp only; omega, by simp only; omega, by simp only; omega⟩
  · rintro R H1 ⟨⟨di, hd, hsz, hP, hfr⟩, h11⟩
    simp -implicitDefEqProofs only [op, ef, cl, sq, reduceIte, j3, j4, j5, j6, j7, j8, j9, y1, y3, S1, h11]
    exact ⟨di, hd, hsz, hP, hfr⟩
open Go.Sort in
theorem part_eqO {a i j si sj : Nat} {d : Array Nat} (hi : si = scanUp (fun x => ltN x d[a]!) d j i) (hj : sj = scanDown (fun x => !ltN x d[a]!) d si j) : partLoop ltN a i j d = if si > sj then (sj, d) else if (sj - 1) + 1 - (si + 1) < j + 1 - i then partLoop ltN a (si + 1) (sj - 1) (swp d si sj) else (sj, d) := by
  subst hi; subst hj
  rw [partLoop]
  rfl
open Go.Sort in
theorem part93 (c n : Nat) (d : Array Nat) (a b pv : Nat) (H : Heap) (hn : d.size = n) (hc : H[c]? = some (.cells (msC eU d.toList))) (hb : b ≤ n) (hab : a < b) (hpv : pv < n) (hs : n < 2305843009213693951) :
    W env (.call 147 [.msl c 0 n 1, .int .i64 a, .int .i64 b, .int .i64 pv]) H (fun o H' => o = .val (.tup [.int .i64 (partition ltN d a b pv).1, .bool (partition ltN d a b pv).2.1]) ∧ SCO c n H (fun x => x = (partition ltN d a b pv).2.2) H') := by
  refine W.fnI rfl rfl rfl ?_
  have hd := hc
  have lc := glt hd
  simp -implicitDefEqProofs (maxSteps := 1000000) (disch := omega) only [ir147, natOf_nat, iadmO, ldm1O, ldm2O, stm0O, stm1O, stm2O, wA, wA1, wS, wS1, wM, S2, op, ef, cl, sq, reduceIte, j3, j4, j5, j6, j7, j8, j9, y1, y3, S1, hd, lc]
  obtain ⟨d1, hd1, hs1, e1, hf1⟩ := SCO.swp (n := n) (P := fun x => x = swp d a pv) (x := .cells (msC eU (d.toList.set a d[pv]!))) hd (by rw [Go.Sort.swp_size]; exact hn) rfl (Frm.refl (fun x => x = c) H)
  subst e1
  generalize ((H.set c (.cells (msC eU (d.toList.set a d[pv]!)))).set c (.cells (msC eU (swp d a pv).toList))) = H1 at *
  have hd := hd1
  have hfr := hf1
  obtain ⟨si, hsi⟩ : ∃ si, si = scanUp (fun x => ltN x (swp d a pv)[a]!) (swp d a pv) (b - 1) (a + 1) := ⟨_, rfl⟩
  refine W.loopE 0 (fun (k : Nat) R H' => At H' (fun H' => H'[c]? = some (.cells (msC eU (swp d a pv).toList)) ∧ Frm (fun x => x = c) H H') ∧ R 0 = .msl c 0 n 1 ∧ R 1 = .int .i64 a ∧ R 0 = .msl c 0 n 1 ∧ R 10 = .int .i64 k ∧ R 11 = .int .i64 ((b - 1) : Nat) ∧ (a + 1) ≤ k ∧ k ≤ n ∧ scanUp (fun x => ltN x (swp d a pv)[a]!) (swp d a pv) ((b - 1)) k = si) (fun k => (b - 1) + 1 - k) ((a + 1))
    (fun R H' => At H' (fun H' => H'[c]? = some (.cells (msC eU (swp d a pv).toList)) ∧ Frm (fun x => x = c) H H') ∧ R 0 = .msl c 0 n 1 ∧ R 1 = .int .i64 a ∧ R 0 = .msl c 0 n 1 ∧ R 10 = .int .i64 si ∧ R 11 = .int .i64 ((b - 1) : Nat) ∧ (a + 1) ≤ si ∧ si ≤ n) ⟨.i ⟨hd, hfr⟩, rfl, rfl, rfl, rfl, rfl, Nat.le_refl _, by omega, hsi.symm⟩ ?_ ?_
  · rintro k R H2 ⟨⟨hd, hfr⟩, h0, h1, h4, h12, h13, hik, hkn, hk⟩
    have lc := glt hd
    by_cases hkj : k ≤ (b - 1)
    · simp -implicitDefEqProofs (maxSteps := 1000000) (disch := omega) only [natOf_nat, iadmO, ldm1O, ldm2O, stm0O, stm1O, stm2O, wA, wA1, wS, wS1, wM, S2, op, ef, cl, sq, reduceIte, j3, j4, j5, j6, j7, j8, j9, y1, y3, S1, h0, h1, h4, h12, h13, hkj, hd, lc]
      refine callB_of _ _ _ _ _ _ _ _ (less91 (swp d a pv)[k]! (swp d a pv)[a]! _) ?_
      rintro u H3 ⟨hu, hx0⟩
      cases hu
      have hx : Ext H2 H3 := by rw [hx0]; exact Ext.rfl'
      have hd := hx.get hd
      have lc := glt hd
      have hfr := hfr.trans (ext_frm (F := fun _ => False) hx) (fun _ h => h.elim)
      have lt1 : ltN (swp d a pv)[k]! (swp d a pv)[a]! = decide (ltN (swp d a pv)[k]! (swp d a pv)[a]! = true) := by simp
      by_cases c1 : ltN (swp d a pv)[k]! (swp d a pv)[a]! = true
      · simp -implicitDefEqProofs (maxSteps := 1000000) (disch := omega) only [natOf_nat, iadmO, ldm1O, ldm2O, stm0O, stm1O, stm2O, wA, wA1, wS, wS1, wM, S2, op, ef, cl, sq, reduceIte, j3, j4, j5, j6, j7, j8, j9, y1, y3, S1, h0, h1, h4, h12, h13, hkj, c1]
        rw [scanUp, if_pos (and_t (dect hkj) (lt1.trans (dect c1)))] at hk
        exact ⟨k + 1, by omega, .i ⟨hd, hfr⟩, rfl, by omega, by omega, hk⟩
      · simp -implicitDefEqProofs (maxSteps := 1000000) (disch := omega) only [natOf_nat, iadmO, ldm1O, ldm2O, stm0O, stm1O, stm2O, wA, wA1, wS, wS1, wM, S2, op, ef, cl, sq, reduceIte, j3, j4, j5, j6, j7, j8, j9, y1, y3, S1, h0, h1, h4, h12, h13, hkj, c1]
        rw [scanUp, if_neg (and_f2 (lt1.trans (decf c1)))] at hk
        subst hk
        exact ⟨.i ⟨hd, hfr⟩, rfl, hik, hkn⟩
    · simp -implicitDefEqProofs only [op, ef, cl, sq, reduceIte, j3, j4, j5, j6, j7, j8, j9, y1, y3, S1, h0, h1, h4, h12, h13, hkj]
      rw [scanUp, if_neg (and_f1 (decf hkj))] at hk
      subst hk
      exact ⟨.i ⟨hd, hfr⟩, rfl, hik, hkn⟩
  · rintro R H2 ⟨⟨hd, hfr⟩, h0, h1, h4, h12, h13, hisi, hsin⟩
    simp -implicitDefEqProofs only [op, ef, cl, sq, reduceIte, j3, j4, j5, j6, j7, j8, j9, y1, y3, S1, h0, h1, h4, h12, h13]
    obtain ⟨sj, hsj⟩ : ∃ sj, sj = scanDown (fun x => !ltN x (swp d a pv)[a]!) (swp d a pv) si (b - 1) := ⟨_, rfl⟩
    refine W.loopE 2 (fun (k : Nat) R H' => At H' (fun H' => H'[c]? = some (.cells (msC eU (swp d a pv).toList)) ∧ Frm (fun x => x = c) H H') ∧ R 0 = .msl c 0 n 1 ∧ R 1 = .int .i64 a ∧ R 0 = .msl c 0 n 1 ∧ R 10 = .int .i64 si ∧ R 11 = .int .i64 k ∧ k ≤ (b - 1) ∧ scanDown (fun x => !ltN x (swp d a pv)[a]!) (swp d a pv) si k = sj) (fun k => k) ((b - 1))
      (fun R H' => At H' (fun H' => H'[c]? = some (.cells (msC eU (swp d a pv).toList)) ∧ Frm (fun x => x = c) H H') ∧ R 0 = .msl c 0 n 1 ∧ R 1 = .int .i64 a ∧ R 0 = .msl c 0 n 1 ∧ R 10 = .int .i64 si ∧ R 11 = .int .i64 sj ∧ sj ≤ (b - 1)) ⟨.i ⟨hd, hfr⟩, h0, h1, h4, h12, h13, Nat.le_refl _, hsj.symm⟩ ?_ ?_
    · rintro k R H3 ⟨⟨hd, hfr⟩, h0, h1, h4, h12, h13, hkj, hk⟩
      have lc := glt hd
      rw [scanDown_eqO (by omega)] at hk
      by_cases hkk : si ≤ k
      · simp -implicitDefEqProofs (maxSteps := 1000000) (disch := omega) only [natOf_nat, iadmO, ldm1O, ldm2O, stm0O, stm1O, stm2O, wA, wA1, wS, wS1, wM, S2, op, ef, cl, sq, reduceIte, j3, j4, j5, j6, j7, j8, j9, y1, y3, S1, h0, h1, h4, h12, h13, hkk, hd, lc]
        refine callB_of _ _ _ _ _ _ _ _ (less91 (swp d a pv)[k]! (swp d a pv)[a]! _) ?_
        rintro u H4 ⟨hu, hx0⟩
        cases hu
        have hx : Ext H3 H4 := by rw [hx0]; exact Ext.rfl'
        have hd := hx.get hd
        have lc := glt hd
        have hfr := hfr.trans (ext_frm (F := fun _ => False) hx) (fun _ h => h.elim)
        have lt1 : ltN (swp d a pv)[k]! (swp d a pv)[a]! = decide (ltN (swp d a pv)[k]! (swp d a pv)[a]! = true) := by simp
        by_cases c1 : ltN (swp d a pv)[k]! (swp d a pv)[a]! = true
        · simp -implicitDefEqProofs (maxSteps := 1000000) (disch := omega) only [natOf_nat, iadmO, ldm1O, ldm2O, stm0O, stm1O, stm2O, wA, wA1, wS, wS1, wM, S2, op, ef, cl, sq, reduceIte, j3, j4, j5, j6, j7, j8, j9, y1, y3, S1, h0, h1, h4, h12, h13, hkk, c1]
          rw [if_neg (and_f2 (by rw [lt1, dect c1]; rfl))] at hk
          subst hk
          exact ⟨.i ⟨hd, hfr⟩, rfl, hkj⟩
        · simp -implicitDefEqProofs (maxSteps := 1000000) (disch := omega) only [natOf_nat, iadmO, ldm1O, ldm2O, stm0O, stm1O, stm2O, wA, wA1, wS, wS1, wM, S2, op, ef, cl, sq, reduceIte, j3, j4, j5, j6, j7, j8, j9, y1, y3, S1, h0, h1, h4, h12, h13, hkk, c1]
          rw [if_pos (and_t (dect hkk) (not_f (lt1.trans (decf c1))))] at hk
          exact ⟨k - 1, by omega, .i ⟨hd, hfr⟩, rfl, by omega, hk⟩
      · simp -implicitDefEqProofs only [op, ef, cl, sq, reduceIte, j3, j4, j5, j6, j7, j8, j9, y1, y3, S1, h0, h1, h4, h12, h13, hkk]
        rw [if_neg (and_f1 (decf hkk))] at hk
        subst hk
        exact ⟨.i ⟨hd, hfr⟩, rfl, hkj⟩
    · rintro R H3 ⟨⟨hd, hfr⟩, h0, h1, h4, h12, h13, hsjj⟩
      have lc := glt hd
      by_cases hgt : sj < si
      · have e : partition ltN d a b pv = (sj, true, swp (swp d a pv) sj a) := by
          simp -implicitDefEqProofs only [partition, ← hsi, ← hsj, gt_iff_lt, if_pos hgt]
        rw [e]
        simp -implicitDefEqProofs (maxSteps := 1000000) (disch := omega) only [natOf_nat, iadmO, ldm1O, ldm2O, stm0O, stm1O, stm2O, wA, wA1, wS, wS1, wM, S2, op, ef, cl, sq, reduceIte, j3, j4, j5, j6, j7, j8, j9, y1, y3, S1, h0, h1, h4, h12, h13, hgt, hd, lc]
        exact .swp hd (by rw [swp_size]; exact hs1) rfl hfr
      · obtain ⟨r, hr⟩ : ∃ r, r = partLoop ltN a (si + 1) (sj - 1) (swp (swp d a pv) si sj) := ⟨_, rfl⟩
        have e : partition ltN d a b pv = (r.1, false, swp r.2 r.1 a) := by
          simp -implicitDefEqProofs only [partition, ← hsi, ← hsj, gt_iff_lt, if_neg hgt, ← hr]
        rw [e]
        simp -implicitDefEqProofs (maxSteps := 1000000) (disch := omega) only [natOf_nat, iadmO, ldm1O, ldm2O, stm0O, stm1O, stm2O, wA, wA1, wS, wS1, wM, S2, op, ef, cl, sq, reduceIte, j3, j4, j5, j6, j7, j8, j9, y1, y3, S1, h0, h1, h4, h12, h13, hgt, hd, lc]
        obtain ⟨d2, hd2, hs2, e2, hf2⟩ := SCO.swp (n := n) (P := fun x => x = swp (swp d a pv) si sj) (x := .cells (msC eU ((swp d a pv).toList.set si (swp d a pv)[sj]!))) hd (by rw [swp_size]; exact hs1) rfl hfr
        subst e2
        generalize ((H3.set c (.cells (msC eU ((swp d a pv).toList.set si (swp d a pv)[sj]!)))).set c (.cells (msC eU (swp (swp d a pv) si sj).toList))) = H5 at *
        refine W.loopE 4 (fun (q : Nat × Nat) R H' => At H' (fun H' => SCO c n H (fun di => partLoop ltN a q.1 q.2 di = r) H') ∧ R 0 = .msl c 0 n 1 ∧ R 1 = .int .i64 a ∧ R 0 = .msl c 0 n 1 ∧ R 10 = .int .i64 q.1 ∧ R 11 = .int .i64 q.2 ∧ a < q.1 ∧ q.2 < n ∧ q.1 ≤ n) (fun q => q.2 + 1 - q.1) (si + 1, sj - 1)
          (fun R H' => At H' (fun H' => SCO c n H (fun di => di = r.2) H') ∧ R 0 = .msl c 0 n 1 ∧ R 1 = .int .i64 a ∧ R 0 = .msl c 0 n 1 ∧ R 11 = .int .i64 r.1 ∧ r.1 < n) ⟨.i ⟨_, hd2, hs2, hr.symm, hf2⟩, ?_, ?_, ?_, ?_, ?_, by simp only; omega, by simp only; omega, by simp only; omega⟩ ?_ ?_
        · simp -implicitDefEqProofs only [op, ef, cl, sq, reduceIte, j3, j4, j5, j6, j7, j8, j9, y1, y3, S1, h0]
        · simp -implicitDefEqProofs only [op, ef, cl, sq, reduceIte, j3, j4, j5, j6, j7, j8, j9, y1, y3, S1, h1]
        · simp -implicitDefEqProofs only [op, ef, cl, sq, reduceIte, j3, j4, j5, j6, j7, j8, j9, y1, y3, S1, h4]
        · simp -implicitDefEqProofs only [op, ef, cl, sq, reduceIte, j3, j4, j5, j6, j7, j8, j9, y1, y3, S1, h12]
        · simp -implicitDefEqProofs only [op, ef, cl, sq, reduceIte, j3, j4, j5, j6, j7, j8, j9, y1, y3, S1, h13]
        · rintro ⟨i, j⟩ R H1 ⟨⟨di, hd, hsz, hP, hfr⟩, h0, h1, h4, h12, h13, hai, hjn, hin⟩
          simp only at hP h12 h13 hai hjn hin ⊢
          simp -implicitDefEqProofs only [op, ef, cl, sq, reduceIte, j3, j4, j5, j6, j7, j8, j9, y1, y3, S1, h0, h1, h4, h12, h13]
          clear hsi hsj
          obtain ⟨si, hsi⟩ : ∃ si, si = scanUp (fun x => ltN x di[a]!) di j i := ⟨_, rfl⟩
          refine W.loopE 6 (fun (k : Nat) R H' => At H' (fun H' => H'[c]? = some (.cells (msC eU di.toList)) ∧ Frm (fun x => x = c) H H') ∧ R 0 = .msl c 0 n 1 ∧ R 1 = .int .i64 a ∧ R 0 = .msl c 0 n 1 ∧ R 10 = .int .i64 k ∧ R 11 = .int .i64 (j : Nat) ∧ i ≤ k ∧ k ≤ n ∧ scanUp (fun x => ltN x di[a]!) di (j) k = si) (fun k => j + 1 - k) (i)
            (fun R H' => At H' (fun H' => H'[c]? = some (.cells (msC eU di.toList)) ∧ Frm (fun x => x = c) H H') ∧ R 0 = .msl c 0 n 1 ∧ R 1 = .int .i64 a ∧ R 0 = .msl c 0 n 1 ∧ R 10 = .int .i64 si ∧ R 11 = .int .i64 (j : Nat) ∧ i ≤ si ∧ si ≤ n) ⟨.i ⟨hd, hfr⟩, h0, h1, h4, h12, h13, Nat.le_refl _, by omega, hsi.symm⟩ ?_ ?_
          · rintro k R H2 ⟨⟨hd, hfr⟩, h0, h1, h4, h12, h13, hik, hkn, hk⟩
            have lc := glt hd
            by_cases hkj : k ≤ j
            · simp -implicitDefEqProofs (maxSteps := 1000000) (disch := omega) only [natOf_nat, iadmO, ldm1O, ldm2O, stm0O, stm1O, stm2O, wA, wA1, wS, wS1, wM, S2, op, ef, cl, sq, reduceIte, j3, j4, j5, j6, j7, j8, j9, y1, y3, S1, h0, h1, h4, h12, h13, hkj, hd, lc]
              refine callB_of _ _ _ _ _ _ _ _ (less91 di[k]! di[a]! _) ?_
              rintro u H3 ⟨hu, hx0⟩
              cases hu
              have hx : Ext H2 H3 := by rw [hx0]; exact Ext.rfl'
              have hd := hx.get hd
              have lc := glt hd
              have hfr := hfr.trans (ext_frm (F := fun _ => False) hx) (fun _ h => h.elim)
              have lt1 : ltN di[k]! di[a]! = decide (ltN di[k]! di[a]! = true) := by simp
              by_cases c1 : ltN di[k]! di[a]! = true
              · simp -implicitDefEqProofs (maxSteps := 1000000) (disch := omega) only [natOf_nat, iadmO, ldm1O, ldm2O, stm0O, stm1O, stm2O, wA, wA1, wS, wS1, wM, S2, op, ef, cl, sq, reduceIte, j3, j4, j5, j6, j7, j8, j9, y1, y3, S1, h0, h1, h4, h12, h13, hkj, c1]
                rw [scanUp, if_pos (and_t (dect hkj) (lt1.trans (dect c1)))] at hk
                exact ⟨k + 1, by omega, .i ⟨hd, hfr⟩, rfl, by omega, by omega, hk⟩
              · simp -implicitDefEqProofs (maxSteps := 1000000) (disch := omega) only [natOf_nat, iadmO, ldm1O, ldm2O, stm0O, stm1O, stm2O, wA, wA1, wS, wS1, wM, S2, op, ef, cl, sq, reduceIte, j3, j4, j5, j6, j7, j8, j9, y1, y3, S1, h0, h1, h4, h12, h13, hkj, c1]
                rw [scanUp, if_neg (and_f2 (lt1.trans (decf c1)))] at hk
                subst hk
                exact ⟨.i ⟨hd, hfr⟩, rfl, hik, hkn⟩
            · simp -implicitDefEqProofs only [op, ef, cl, sq, reduceIte, j3, j4, j5, j6, j7, j8, j9, y1, y3, S1, h0, h1, h4, h12, h13, hkj]
              rw [scanUp, if_neg (and_f1 (decf hkj))] at hk
              subst hk
              exact ⟨.i ⟨hd, hfr⟩, rfl, hik, hkn⟩
          · rintro R H2 ⟨⟨hd, hfr⟩, h0, h1, h4, h12, h13, hisi, hsin⟩
            simp -implicitDefEqProofs only [op, ef, cl, sq, reduceIte, j3, j4, j5, j6, j7, j8, j9, y1, y3, S1, h0, h1, h4, h12, h13]
            obtain ⟨sj, hsj⟩ : ∃ sj, sj = scanDown (fun x => !ltN x di[a]!) di si j := ⟨_, rfl⟩
            refine W.loopE 8 (fun (k : Nat) R H' => At H' (fun H' => H'[c]? = some (.cells (msC eU di.toList)) ∧ Frm (fun x => x = c) H H') ∧ R 0 = .msl c 0 n 1 ∧ R 1 = .int .i64 a ∧ R 0 = .msl c 0 n 1 ∧ R 10 = .int .i64 si ∧ R 11 = .int .i64 k ∧ k ≤ j ∧ scanDown (fun x => !ltN x di[a]!) di si k = sj) (fun k => k) (j)
              (fun R H' => At H' (fun H' => H'[c]? = some (.cells (msC eU di.toList)) ∧ Frm (fun x => x = c) H H') ∧ R 0 = .msl c 0 n 1 ∧ R 1 = .int .i64 a ∧ R 0 = .msl c 0 n 1 ∧ R 10 = .int .i64 si ∧ R 11 = .int .i64 sj ∧ sj ≤ j) ⟨.i ⟨hd, hfr⟩, h0, h1, h4, h12, h13, Nat.le_refl _, hsj.symm⟩ ?_ ?_
            · rintro k R H3 ⟨⟨hd, hfr⟩, h0, h1, h4, h12, h13, hkj, hk⟩
              have lc := glt hd
              rw [scanDown_eqO (by omega)] at hk
              by_cases hkk : si ≤ k
              · simp -implicitDefEqProofs (maxSteps := 1000000) (disch := omega) only [natOf_nat, iadmO, ldm1O, ldm2O, stm0O, stm1O, stm2O, wA, wA1, wS, wS1, wM, S2, op, ef, cl, sq, reduceIte, j3, j4, j5, j6, j7, j8, j9, y1, y3, S1, h0, h1, h4, h12, h13, hkk, hd, lc]
                refine callB_of _ _ _ _ _ _ _ _ (less91 di[k]! di[a]! _) ?_
                rintro u H4 ⟨hu, hx0⟩
                cases hu
                have hx : Ext H3 H4 := by rw [hx0]; exact Ext.rfl'
                have hd := hx.get hd
                have lc := glt hd
                have hfr := hfr.trans (ext_frm (F := fun _ => False) hx) (fun _ h => h.elim)
                have lt1 : ltN di[k]! di[a]! = decide (ltN di[k]! di[a]! = true) := by simp
                by_cases c1 : ltN di[k]! di[a]! = true
                · simp -implicitDefEqProofs (maxSteps := 1000000) (disch := omega) only [natOf_nat, iadmO, ldm1O, ldm2O, stm0O, stm1O, stm2O, wA, wA1, wS, wS1, wM, S2, op, ef, cl, sq, reduceIte, j3, j4, j5, j6, j7, j8, j9, y1, y3, S1, h0, h1, h4, h12, h13, hkk, c1]
                  rw [if_neg (and_f2 (by rw [lt1, dect c1]; rfl))] at hk
                  subst hk
                  exact ⟨.i ⟨hd, hfr⟩, rfl, hkj⟩
                · simp -implicitDefEqProofs (maxSteps := 1000000) (disch := omega) only [natOf_nat, iadmO, ldm1O, ldm2O, stm0O, stm1O, stm2O, wA, wA1, wS, wS1, wM, S2, op, ef, cl, sq, reduceIte, j3, j4, j5, j6, j7, j8, j9, y1, y3, S1, h0, h1, h4, h12, h13, hkk, c1]
                  rw [if_pos (and_t (dect hkk) (not_f (lt1.trans (decf c1))))] at hk
                  exact ⟨k - 1, by omega, .i ⟨hd, hfr⟩, rfl, by omega, hk⟩
              · simp -implicitDefEqProofs only [op, ef, cl, sq, reduceIte, j3, j4, j5, j6, j7, j8, j9, y1, y3, S1, h0, h1, h4, h12, h13, hkk]
                rw [if_neg (and_f1 (decf hkk))] at hk
                subst hk
                exact ⟨.i ⟨hd, hfr⟩, rfl, hkj⟩
            · rintro R H3 ⟨⟨hd, hfr⟩, h0, h1, h4, h12, h13, hsjj⟩
              have lc := glt hd
              rw [part_eqO hsi hsj] at hP
              by_cases hgt : sj < si
              · rw [if_pos hgt] at hP
                simp -implicitDefEqProofs only [op, ef, cl, sq, reduceIte, j3, j4, j5, j6, j7, j8, j9, y1, y3, S1, h0, h1, h4, h12, h13, hgt]
                exact ⟨.i ⟨di, hd, hsz, by rw [← hP], hfr⟩, by rw [← hP], by rw [← hP]; simp only; omega⟩
              · rw [if_neg hgt, if_pos (by omega)] at hP
                simp -implicitDefEqProofs (maxSteps := 1000000) (disch := omega) only [natOf_nat, iadmO, ldm1O, ldm2O, stm0O, stm1O, stm2O, wA, wA1, wS, wS1, wM, S2, op, ef, cl, sq, reduceIte, j3, j4, j5, j6, j7, j8, j9, y1, y3, S1, h0, h1, h4, h12, h13, hgt, hd, lc]
                exact ⟨(si + 1, sj - 1), by simp only; omega, .i (.swp hd (by rw [swp_size]; exact hsz) hP hfr), rfl, rfl, by simp only; omega, by simp only; omega, by simp only; omega⟩
        · rintro R H1 ⟨⟨di, hd, hsz, rfl, hfr⟩, h0, h1, h4, h13, hr1⟩
          have lc := glt hd
          simp -implicitDefEqProofs (maxSteps := 1000000) (disch := omega) only [natOf_nat, iadmO, ldm1O, ldm2O, stm0O, stm1O, stm2O, wA, wA1, wS, wS1, wM, S2, op, ef, cl, sq, reduceIte, j3, j4, j5, j6, j7, j8, j9, y1, y3, S1, h0, h1, h4, h13, hd, lc]
          exact .swp hd (by rw [swp_size]; exact hsz) rfl hfr
open Go.Sort in
theorem shiftDown_eqO {d : Array Nat} {k : Nat} (h : 1 ≤ k) : shiftDown ltN k d = if (!ltN d[k]! d[k - 1]!) = true then d else shiftDown ltN (k - 1) (swp d k (k - 1)) := by
  cases k with
  | zero => omega
  | succ k => rw [shiftDown]; rfl
open Go.Sort in
theorem pins90 (c n : Nat) (d : Array Nat) (a b : Nat) (H : Heap) (hn : d.size = n) (hc : H[c]? = some (.cells (msC eU d.toList))) (hb : b ≤ n) (hab : a < b) (hs : n < 2305843009213693951) :
    W env (.call 144 [.msl c 0 n 1, .int .i64 a, .int .i64 b]) H (fun o H' => o = .val (.bool (partialInsertionSort ltN d a b).2) ∧ SCO c n H (fun x => x = (partialInsertionSort ltN d a b).1) H') := by
  refine W.fnI rfl rfl rfl ?_
  obtain ⟨r, hr⟩ : ∃ r, r = partialInsertionSort ltN d a b := ⟨_, rfl⟩
  rw [← hr]
  simp -implicitDefEqProofs (maxSteps := 1000000) (disch := omega) only [ir144, natOf_nat, iadmO, ldm1O, ldm2O, stm0O, stm1O, stm2O, wA, wA1, wS, wS1, wM, S2, op, ef, cl, sq, reduceIte, j3, j4, j5, j6, j7, j8, j9, y1, y3, S1]
  refine W.loopE 0 (fun (j : Nat) R H' => At H' (fun H' => ∃ i, R 7 = .int .i64 (i : Nat) ∧ a < i ∧ i ≤ b ∧ SCO c n H (fun di => partialIns ltN a b (5 - j) i di = r) H') ∧ R 0 = .msl c 0 n 1 ∧ R 1 = .int .i64 a ∧ R 2 = .int .i64 b ∧ R 0 = .msl c 0 n 1 ∧ R 8 = .int .i64 j ∧ j ≤ 5) (fun j => 5 - j) 0
    (fun R H' => At H' (fun H' => SCO c n H (fun di => (di, false) = r) H')) ⟨.i ⟨a + 1, rfl, by omega, by omega, d, hc, hn, hr.symm, Frm.refl _ _⟩, rfl, rfl, rfl, rfl, rfl, by omega⟩ ?_ ?_
  · rintro j R H1 ⟨⟨i, h9, hai, hib, di, hd, hsz, hP, hfr⟩, h0, h1, h2, h3, h10, hj⟩
    by_cases hj5 : j < 5
    rotate_left
    · have : j = 5 := by omega
      subst this
      simp -implicitDefEqProofs only [op, ef, cl, sq, reduceIte, j3, j4, j5, j6, j7, j8, j9, y1, y3, S1, h0, h1, h2, h3, h10]
      exact .i ⟨di, hd, hsz, hP, hfr⟩
    obtain ⟨s, hs5⟩ : ∃ s, 5 - j = s + 1 := ⟨4 - j, by omega⟩
    have hs5' : 5 - (j + 1) = s := by omega
    rw [hs5, partialIns] at hP
    simp -implicitDefEqProofs only [op, ef, cl, sq, reduceIte, j3, j4, j5, j6, j7, j8, j9, y1, y3, S1, h0, h1, h2, h3, h10, hj5]
    obtain ⟨si, hsi⟩ : ∃ si, si = scanSorted ltN di b i := ⟨_, rfl⟩
    rw [← hsi] at hP
    refine W.loopE 2 (fun (k : Nat) R H' => At H' (fun H' => H'[c]? = some (.cells (msC eU di.toList)) ∧ Frm (fun x => x = c) H H') ∧ R 0 = .msl c 0 n 1 ∧ R 1 = .int .i64 a ∧ R 2 = .int .i64 b ∧ R 0 = .msl c 0 n 1 ∧ R 7 = .int .i64 k ∧ R 8 = .int .i64 j ∧ i ≤ k ∧ k ≤ b ∧ scanSorted ltN di b k = si) (fun k => b - k) i
      (fun R H' => At H' (fun H' => H'[c]? = some (.cells (msC eU di.toList)) ∧ Frm (fun x => x = c) H H') ∧ R 0 = .msl c 0 n 1 ∧ R 1 = .int .i64 a ∧ R 2 = .int .i64 b ∧ R 0 = .msl c 0 n 1 ∧ R 7 = .int .i64 si ∧ R 8 = .int .i64 j ∧ i ≤ si ∧ si ≤ b) ⟨.i ⟨hd, hfr⟩, ?_, ?_, ?_, ?_, ?_, ?_, Nat.le_refl _, hib, hsi.symm⟩ ?_ ?_
    · simp -implicitDefEqProofs only [op, ef, cl, sq, reduceIte, j3, j4, j5, j6, j7, j8, j9, y1, y3, S1, h0]
    · simp -implicitDefEqProofs only [op, ef, cl, sq, reduceIte, j3, j4, j5, j6, j7, j8, j9, y1, y3, S1, h1]
    · simp -implicitDefEqProofs only [op, ef, cl, sq, reduceIte, j3, j4, j5, j6, j7, j8, j9, y1, y3, S1, h2]
    · simp -implicitDefEqProofs only [op, ef, cl, sq, reduceIte, j3, j4, j5, j6, j7, j8, j9, y1, y3, S1, h3]
    · simp -implicitDefEqProofs only [op, ef, cl, sq, reduceIte, j3, j4, j5, j6, j7, j8, j9, y1, y3, S1, h9]
    · simp -implicitDefEqProofs only [op, ef, cl, sq, reduceIte, j3, j4, j5, j6, j7, j8, j9, y1, y3, S1, h10]
    · rintro k R H2 ⟨⟨hd, hfr⟩, h0, h1, h2, h3, h9, h10, hik, hkb, hk⟩
      have lc := glt hd
      by_cases hkk : k < b
      · simp -implicitDefEqProofs (maxSteps := 1000000) (disch := omega) only [natOf_nat, iadmO, ldm1O, ldm2O, stm0O, stm1O, stm2O, wA, wA1, wS, wS1, wM, S2, op, ef, cl, sq, reduceIte, j3, j4, j5, j6, j7, j8, j9, y1, y3, S1, h0, h1, h2, h3, h9, h10, hkk, hd, lc]
        refine callB_of _ _ _ _ _ _ _ _ (less91 di[k]! di[k - 1]! _) ?_
        rintro u H3 ⟨hu, hx0⟩
        cases hu
        have hx : Ext H2 H3 := by rw [hx0]; exact Ext.rfl'
        have hd := hx.get hd
        have lc := glt hd
        have hfr := hfr.trans (ext_frm (F := fun _ => False) hx) (fun _ h => h.elim)
        have lt1 : ltN di[k]! di[k - 1]! = decide (ltN di[k]! di[k - 1]! = true) := by simp
        by_cases c1 : ltN di[k]! di[k - 1]! = true
        · simp -implicitDefEqProofs (maxSteps := 1000000) (disch := omega) only [natOf_nat, iadmO, ldm1O, ldm2O, stm0O, stm1O, stm2O, wA, wA1, wS, wS1, wM, S2, op, ef, cl, sq, reduceIte, j3, j4, j5, j6, j7, j8, j9, y1, y3, S1, h0, h1, h2, h3, h9, h10, hkk, c1]
          rw [scanSorted, if_neg (and_f2 (by rw [lt1, dect c1]; rfl))] at hk
          subst hk
          exact ⟨.i ⟨hd, hfr⟩, rfl, hik, hkb⟩
        · simp -implicitDefEqProofs (maxSteps := 1000000) (disch := omega) only [natOf_nat, iadmO, ldm1O, ldm2O, stm0O, stm1O, stm2O, wA, wA1, wS, wS1, wM, S2, op, ef, cl, sq, reduceIte, j3, j4, j5, j6, j7, j8, j9, y1, y3, S1, h0, h1, h2, h3, h9, h10, hkk, c1]
          rw [scanSorted, if_pos (and_t (dect hkk) (not_f (lt1.trans (decf c1))))] at hk
          exact ⟨k + 1, by omega, .i ⟨hd, hfr⟩, rfl, by omega, by omega, hk⟩
      · simp -implicitDefEqProofs only [op, ef, cl, sq, reduceIte, j3, j4, j5, j6, j7, j8, j9, y1, y3, S1, h0, h1, h2, h3, h9, h10, hkk]
        rw [scanSorted, if_neg (and_f1 (decf hkk))] at hk
        subst hk
        exact ⟨.i ⟨hd, hfr⟩, rfl, hik, hkb⟩
    · rintro R H2 ⟨⟨hd, hfr⟩, h0, h1, h2, h3, h9, h10, hisi, hsib⟩
      have lc := glt hd
      by_cases hb1 : si = b
      · rw [if_pos hb1] at hP
        have e1 : ((si : Int) == (b : Int)) = true := by rw [hb1]; simp
        simp -implicitDefEqProofs (maxSteps := 1000000) (disch := omega) only [natOf_nat, iadmO, ldm1O, ldm2O, stm0O, stm1O, stm2O, wA, wA1, wS, wS1, wM, S2, op, ef, cl, sq, reduceIte, j3, j4, j5, j6, j7, j8, j9, y1, y3, S1, h0, h1, h2, h3, h9, h10, e1]
        rw [← hP]
        exact ⟨rfl, di, hd, hsz, rfl, hfr⟩
      rw [if_neg hb1] at hP
      have e1 : ((si : Int) == (b : Int)) = false := by simp; omega
      by_cases h50 : b - a < 50
      · rw [if_pos h50] at hP
        simp -implicitDefEqProofs (maxSteps := 1000000) (disch := omega) only [natOf_nat, iadmO, ldm1O, ldm2O, stm0O, stm1O, stm2O, wA, wA1, wS, wS1, wM, S2, op, ef, cl, sq, reduceIte, j3, j4, j5, j6, j7, j8, j9, y1, y3, S1, h0, h1, h2, h3, h9, h10, e1, h50]
        rw [← hP]
        exact ⟨rfl, di, hd, hsz, rfl, hfr⟩
      rw [if_neg h50] at hP
      simp -implicitDefEqProofs (maxSteps := 1000000) (disch := omega) only [natOf_nat, iadmO, ldm1O, ldm2O, stm0O, stm1O, stm2O, wA, wA1, wS, wS1, wM, S2, op, ef, cl, sq, reduceIte, j3, j4, j5, j6, j7, j8, j9, y1, y3, S1, h0, h1, h2, h3, h9, h10, e1, h50, hd, lc]
      obtain ⟨d3, hd3⟩ : ∃ d3, d3 = if si - a ≥ 2 then shiftDown ltN (si - 1) (swp di si (si - 1)) else swp di si (si - 1) := ⟨_, rfl⟩
      obtain ⟨d4, hd4⟩ : ∃ d4, d4 = if b - si ≥ 2 then shiftUp ltN b (si + 1) d3 else d3 := ⟨_, rfl⟩
      have hP : partialIns ltN a b s si d4 = r := by rw [hd4, hd3]; exact hP
      obtain ⟨d2, hd2, hs2, e2, hf2⟩ := SCO.swp (n := n) (P := fun x => x = swp di si (si - 1)) (x := .cells (msC eU (di.toList.set si di[si - 1]!))) hd (by rw [swp_size]; exact hsz) rfl hfr
      subst e2
      generalize ((H2.set c (.cells (msC eU (di.toList.set si di[si - 1]!)))).set c (.cells (msC eU (swp di si (si - 1)).toList))) = H5 at *
      by_cases hA : 2 ≤ si - a
      · rw [if_pos hA] at hd3
        simp -implicitDefEqProofs (maxSteps := 1000000) (disch := omega) only [natOf_nat, iadmO, ldm1O, ldm2O, stm0O, stm1O, stm2O, wA, wA1, wS, wS1, wM, S2, op, ef, cl, sq, reduceIte, j3, j4, j5, j6, j7, j8, j9, y1, y3, S1, h0, h1, h2, h3, h9, h10, hA]
        refine W.loopE 4 (fun (k : Nat) R H' => At H' (fun H' => SCO c n H (fun dx => shiftDown ltN k dx = d3) H') ∧ R 0 = .msl c 0 n 1 ∧ R 1 = .int .i64 a ∧ R 2 = .int .i64 b ∧ R 0 = .msl c 0 n 1 ∧ R 7 = .int .i64 si ∧ R 8 = .int .i64 j ∧ R 9 = .int .i64 k ∧ k < b) (fun k => k) (si - 1)
          (fun R H' => At H' (fun H' => SCO c n H (fun dx => dx = d3) H') ∧ R 0 = .msl c 0 n 1 ∧ R 1 = .int .i64 a ∧ R 2 = .int .i64 b ∧ R 0 = .msl c 0 n 1 ∧ R 7 = .int .i64 si ∧ R 8 = .int .i64 j) ⟨.i ⟨_, hd2, hs2, hd3.symm, hf2⟩, ?_, ?_, ?_, ?_, ?_, ?_, ?_, by omega⟩ ?_ ?_
        · simp -implicitDefEqProofs only [op, ef, cl, sq, reduceIte, j3, j4, j5, j6, j7, j8, j9, y1, y3, S1, h0]
        · simp -implicitDefEqProofs only [op, ef, cl, sq, reduceIte, j3, j4, j5, j6, j7, j8, j9, y1, y3, S1, h1]
        · simp -implicitDefEqProofs only [op, ef, cl, sq, reduceIte, j3, j4, j5, j6, j7, j8, j9, y1, y3, S1, h2]
        · simp -implicitDefEqProofs only [op, ef, cl, sq, reduceIte, j3, j4, j5, j6, j7, j8, j9, y1, y3, S1, h3]
        · simp -implicitDefEqProofs only [op, ef, cl, sq, reduceIte, j3, j4, j5, j6, j7, j8, j9, y1, y3, S1, h9]
        · simp -implicitDefEqProofs only [op, ef, cl, sq, reduceIte, j3, j4, j5, j6, j7, j8, j9, y1, y3, S1, h10]
        · simp -implicitDefEqProofs only [op, ef, cl, sq, reduceIte, j3, j4, j5, j6, j7, j8, j9, y1, y3, S1]
        · rintro k R H2 ⟨⟨dx, hd, hsz, hk, hfr⟩, h0, h1, h2, h3, h9, h10, h11, hkb⟩
          have lc := glt hd
          by_cases hk1 : 1 ≤ k
          · simp -implicitDefEqProofs (maxSteps := 1000000) (disch := omega) only [natOf_nat, iadmO, ldm1O, ldm2O, stm0O, stm1O, stm2O, wA, wA1, wS, wS1, wM, S2, op, ef, cl, sq, reduceIte, j3, j4, j5, j6, j7, j8, j9, y1, y3, S1, h0, h1, h2, h3, h9, h10, h11, hk1, hd, lc]
            refine callB_of _ _ _ _ _ _ _ _ (less91 dx[k]! dx[k - 1]! _) ?_
            rintro u H3 ⟨hu, hx0⟩
            cases hu
            have hx : Ext H2 H3 := by rw [hx0]; exact Ext.rfl'
            have hd := hx.get hd
            have lc := glt hd
            have hfr := hfr.trans (ext_frm (F := fun _ => False) hx) (fun _ h => h.elim)
            have lt1 : ltN dx[k]! dx[k - 1]! = decide (ltN dx[k]! dx[k - 1]! = true) := by simp
            rw [shiftDown_eqO hk1] at hk
            by_cases c1 : ltN dx[k]! dx[k - 1]! = true
            · simp -implicitDefEqProofs (maxSteps := 1000000) (disch := omega) only [natOf_nat, iadmO, ldm1O, ldm2O, stm0O, stm1O, stm2O, wA, wA1, wS, wS1, wM, S2, op, ef, cl, sq, reduceIte, j3, j4, j5, j6, j7, j8, j9, y1, y3, S1, h0, h1, h2, h3, h9, h10, h11, hk1, hd, lc, c1]
              rw [if_neg (not_t (lt1.trans (dect c1)))] at hk
              exact ⟨k - 1, by omega, .i (.swp hd (by rw [swp_size]; exact hsz) hk hfr), rfl, by omega⟩
            · simp -implicitDefEqProofs (maxSteps := 1000000) (disch := omega) only [natOf_nat, iadmO, ldm1O, ldm2O, stm0O, stm1O, stm2O, wA, wA1, wS, wS1, wM, S2, op, ef, cl, sq, reduceIte, j3, j4, j5, j6, j7, j8, j9, y1, y3, S1, h0, h1, h2, h3, h9, h10, h11, hk1, hd, lc, c1]
              rw [if_pos (not_f (lt1.trans (decf c1)))] at hk
              exact .i ⟨dx, hd, hsz, hk, hfr⟩
          · have hk0 : k = 0 := by omega
            subst hk0
            simp -implicitDefEqProofs only [op, ef, cl, sq, reduceIte, j3, j4, j5, j6, j7, j8, j9, y1, y3, S1, h0, h1, h2, h3, h9, h10, h11, hk1]
            rw [shiftDown] at hk
            exact .i ⟨dx, hd, hsz, hk, hfr⟩
        · rintro R H2 ⟨⟨dx, hd, hsz3, rfl, hfr⟩, h0, h1, h2, h3, h9, h10⟩
          have lc := glt hd
          by_cases hB : 2 ≤ b - si
          · simp -implicitDefEqProofs (maxSteps := 1000000) (disch := omega) only [natOf_nat, iadmO, ldm1O, ldm2O, stm0O, stm1O, stm2O, wA, wA1, wS, wS1, wM, S2, op, ef, cl, sq, reduceIte, j3, j4, j5, j6, j7, j8, j9, y1, y3, S1, h0, h1, h2, h3, h9, h10, hB]
            rw [if_pos hB] at hd4
            refine W.loopE 6 (fun (k : Nat) R H' => At H' (fun H' => SCO c n H (fun dx => shiftUp ltN b k dx = d4) H') ∧ R 0 = .msl c 0 n 1 ∧ R 1 = .int .i64 a ∧ R 2 = .int .i64 b ∧ R 0 = .msl c 0 n 1 ∧ R 7 = .int .i64 si ∧ R 8 = .int .i64 j ∧ R 10 = .int .i64 k ∧ 1 ≤ k ∧ k ≤ b) (fun k => b - k) (si + 1)
              (fun R H' => At H' (fun H' => SCO c n H (fun dx => dx = d4) H') ∧ R 0 = .msl c 0 n 1 ∧ R 1 = .int .i64 a ∧ R 2 = .int .i64 b ∧ R 0 = .msl c 0 n 1 ∧ R 7 = .int .i64 si ∧ R 8 = .int .i64 j) ⟨.i ⟨dx, hd, hsz3, hd4.symm, hfr⟩, ?_, ?_, ?_, ?_, ?_, ?_, ?_, by omega, by omega⟩ ?_ ?_
            · simp -implicitDefEqProofs only [op, ef, cl, sq, reduceIte, j3, j4, j5, j6, j7, j8, j9, y1, y3, S1, h0]
            · simp -implicitDefEqProofs only [op, ef, cl, sq, reduceIte, j3, j4, j5, j6, j7, j8, j9, y1, y3, S1, h1]
            · simp -implicitDefEqProofs only [op, ef, cl, sq, reduceIte, j3, j4, j5, j6, j7, j8, j9, y1, y3, S1, h2]
            · simp -implicitDefEqProofs only [op, ef, cl, sq, reduceIte, j3, j4, j5, j6, j7, j8, j9, y1, y3, S1, h3]
            · simp -implicitDefEqProofs only [op, ef, cl, sq, reduceIte, j3, j4, j5, j6, j7, j8, j9, y1, y3, S1, h9]
            · simp -implicitDefEqProofs only [op, ef, cl, sq, reduceIte, j3, j4, j5, j6, j7, j8, j9, y1, y3, S1, h10]
            · simp -implicitDefEqProofs only [op, ef, cl, sq, reduceIte, j3, j4, j5, j6, j7, j8, j9, y1, y3, S1]
            · rintro k R H2 ⟨⟨dx, hd, hsz, hk, hfr⟩, h0, h1, h2, h3, h9, h10, h12, hk1, hkb⟩
              have lc := glt hd
              by_cases hkk : k < b
              · simp -implicitDefEqProofs (maxSteps := 1000000) (disch := omega) only [natOf_nat, iadmO, ldm1O, ldm2O, stm0O, stm1O, stm2O, wA, wA1, wS, wS1, wM, S2, op, ef, cl, sq, reduceIte, j3, j4, j5, j6, j7, j8, j9, y1, y3, S1, h0, h1, h2, h3, h9, h10, h12, hkk, hd, lc]
                refine callB_of _ _ _ _ _ _ _ _ (less91 dx[k]! dx[k - 1]! _) ?_
                rintro u H3 ⟨hu, hx0⟩
                cases hu
                have hx : Ext H2 H3 := by rw [hx0]; exact Ext.rfl'
                have hd := hx.get hd
                have lc := glt hd
                have hfr := hfr.trans (ext_frm (F := fun _ => False) hx) (fun _ h => h.elim)
                have lt1 : ltN dx[k]! dx[k - 1]! = decide (ltN dx[k]! dx[k - 1]! = true) := by simp
                rw [shiftUp, if_pos hkk] at hk
                by_cases c1 : ltN dx[k]! dx[k - 1]! = true
                · simp -implicitDefEqProofs (maxSteps := 1000000) (disch := omega) only [natOf_nat, iadmO, ldm1O, ldm2O, stm0O, stm1O, stm2O, wA, wA1, wS, wS1, wM, S2, op, ef, cl, sq, reduceIte, j3, j4, j5, j6, j7, j8, j9, y1, y3, S1, h0, h1, h2, h3, h9, h10, h12, hkk, hd, lc, c1]
                  rw [if_neg (not_t (lt1.trans (dect c1)))] at hk
                  exact ⟨k + 1, by omega, .i (.swp hd (by rw [swp_size]; exact hsz) hk hfr), rfl, by omega, by omega⟩
                · simp -implicitDefEqProofs (maxSteps := 1000000) (disch := omega) only [natOf_nat, iadmO, ldm1O, ldm2O, stm0O, stm1O, stm2O, wA, wA1, wS, wS1, wM, S2, op, ef, cl, sq, reduceIte, j3, j4, j5, j6, j7, j8, j9, y1, y3, S1, h0, h1, h2, h3, h9, h10, h12, hkk, hd, lc, c1]
                  rw [if_pos (not_f (lt1.trans (decf c1)))] at hk
                  exact .i ⟨dx, hd, hsz, hk, hfr⟩
              · simp -implicitDefEqProofs only [op, ef, cl, sq, reduceIte, j3, j4, j5, j6, j7, j8, j9, y1, y3, S1, h0, h1, h2, h3, h9, h10, h12, hkk]
                rw [shiftUp, if_neg hkk] at hk
                exact .i ⟨dx, hd, hsz, hk, hfr⟩
            · rintro R H2 ⟨⟨dx, hd, hsz, rfl, hfr⟩, h0, h1, h2, h3, h9, h10⟩
              simp -implicitDefEqProofs (maxSteps := 1000000) (disch := omega) only [natOf_nat, iadmO, ldm1O, ldm2O, stm0O, stm1O, stm2O, wA, wA1, wS, wS1, wM, S2, op, ef, cl, sq, reduceIte, j3, j4, j5, j6, j7, j8, j9, y1, y3, S1, h0, h1, h2, h3, h9, h10]
              exact ⟨j + 1, by omega, .i ⟨si, rfl, by omega, by omega, dx, hd, hsz, by rw [hs5']; exact hP, hfr⟩, rfl, by omega⟩
          · rw [if_neg hB] at hd4
            subst hd4
            simp -implicitDefEqProofs (maxSteps := 1000000) (disch := omega) only [natOf_nat, iadmO, ldm1O, ldm2O, stm0O, stm1O, stm2O, wA, wA1, wS, wS1, wM, S2, op, ef, cl, sq, reduceIte, j3, j4, j5, j6, j7, j8, j9, y1, y3, S1, h0, h1, h2, h3, h9, h10, hB]
            exact ⟨j + 1, by omega, .i ⟨si, rfl, by omega, by omega, d4, hd, hsz3, by rw [hs5']; exact hP, hfr⟩, rfl, by omega⟩
      · rw [if_neg hA] at hd3
        simp -implicitDefEqProofs (maxSteps := 1000000) (disch := omega) only [natOf_nat, iadmO, ldm1O, ldm2O, stm0O, stm1O, stm2O, wA, wA1, wS, wS1, wM, S2, op, ef, cl, sq, reduceIte, j3, j4, j5, j6, j7, j8, j9, y1, y3, S1, h0, h1, h2, h3, h9, h10, hA]
        have hd := hd2
        have hsz3 := hs2
        have hfr := hf2
        rw [← hd3] at hd hsz3
        by_cases hB : 2 ≤ b - si
        · simp -implicitDefEqProofs (maxSteps := 1000000) (disch := omega) only [natOf_nat, iadmO, ldm1O, ldm2O, stm0O, stm1O, stm2O, wA, wA1, wS, wS1, wM, S2, op, ef, cl, sq, reduceIte, j3, j4, j5, j6, j7, j8, j9, y1, y3, S1, h0, h1, h2, h3, h9, h10, hB]
          rw [if_pos hB] at hd4
          refine W.loopE 6 (fun (k : Nat) R H' => At H' (fun H' => SCO c n H (fun dx => shiftUp ltN b k dx = d4) H') ∧ R 0 = .msl c 0 n 1 ∧ R 1 = .int .i64 a ∧ R 2 = .int .i64 b ∧ R 0 = .msl c 0 n 1 ∧ R 7 = .int .i64 si ∧ R 8 = .int .i64 j ∧ R 10 = .int .i64 k ∧ 1 ≤ k ∧ k ≤ b) (fun k => b - k) (si + 1)
            (fun R H' => At H' (fun H' => SCO c n H (fun dx => dx = d4) H') ∧ R 0 = .msl c 0 n 1 ∧ R 1 = .int .i64 a ∧ R 2 = .int .i64 b ∧ R 0 = .msl c 0 n 1 ∧ R 7 = .int .i64 si ∧ R 8 = .int .i64 j) ⟨.i ⟨d3, hd, hsz3, hd4.symm, hfr⟩, ?_, ?_, ?_, ?_, ?_, ?_, ?_, by omega, by omega⟩ ?_ ?_
          · simp -implicitDefEqProofs only [op, ef, cl, sq, reduceIte, j3, j4, j5, j6, j7, j8, j9, y1, y3, S1, h0]
          · simp -implicitDefEqProofs only [op, ef, cl, sq, reduceIte, j3, j4, j5, j6, j7, j8, j9, y1, y3, S1, h1]
          · simp -implicitDefEqProofs only [op, ef, cl, sq, reduceIte, j3, j4, j5, j6, j7, j8, j9, y1, y3, S1, h2]
          · simp -implicitDefEqProofs only [op, ef, cl, sq, reduceIte, j3, j4, j5, j6, j7, j8, j9, y1, y3, S1, h3]
          · simp -implicitDefEqProofs only [op, ef, cl, sq, reduceIte, j3, j4, j5, j6, j7, j8, j9, y1, y3, S1, h9]
          · simp -implicitDefEqProofs only [op, ef, cl, sq, reduceIte, j3, j4, j5, j6, j7, j8, j9, y1, y3, S1, h10]
          · simp -implicitDefEqProofs only [op, ef, cl, sq, reduceIte, j3, j4, j5, j6, j7, j8, j9, y1, y3, S1]
          · rintro k R H2 ⟨⟨dx, hd, hsz, hk, hfr⟩, h0, h1, h2, h3, h9, h10, h12, hk1, hkb⟩
            have lc := glt hd
            by_cases hkk : k < b
            · simp -implicitDefEqProofs (maxSteps := 1000000) (disch := omega) only [natOf_nat, iadmO, ldm1O, ldm2O, stm0O, stm1O, stm2O, wA, wA1, wS, wS1, wM, S2, op, ef, cl, sq, reduceIte, j3, j4, j5, j6, j7, j8, j9, y1, y3, S1, h0, h1, h2, h3, h9, h10, h12, hkk, hd, lc]
              refine callB_of _ _ _ _ _ _ _ _ (less91 dx[k]! dx[k - 1]! _) ?_
              rintro u H3 ⟨hu, hx0⟩
              cases hu
              have hx : Ext H2 H3 := by rw [hx0]; exact Ext.rfl'
              have hd := hx.get hd
              have lc := glt hd
              have hfr := hfr.trans (ext_frm (F := fun _ => False) hx) (fun _ h => h.elim)
              have lt1 : ltN dx[k]! dx[k - 1]! = decide (ltN dx[k]! dx[k - 1]! = true) := by simp
              rw [shiftUp, if_pos hkk] at hk
              by_cases c1 : ltN dx[k]! dx[k - 1]! = true
              · simp -implicitDefEqProofs (maxSteps := 1000000) (disch := omega) only [natOf_nat, iadmO, ldm1O, ldm2O, stm0O, stm1O, stm2O, wA, wA1, wS, wS1, wM, S2, op, ef, cl, sq, reduceIte, j3, j4, j5, j6, j7, j8, j9, y1, y3, S1, h0, h1, h2, h3, h9, h10, h12, hkk, hd, lc, c1]
                rw [if_neg (not_t (lt1.trans (dect c1)))] at hk
                exact ⟨k + 1, by omega, .i (.swp hd (by rw [swp_size]; exact hsz) hk hfr), rfl, by omega, by omega⟩
              · simp -implicitDefEqProofs (maxSteps := 1000000) (disch := omega) only [natOf_nat, iadmO, ldm1O, ldm2O, stm0O, stm1O, stm2O, wA, wA1, wS, wS1, wM, S2, op, ef, cl, sq, reduceIte, j3, j4, j5, j6, j7, j8, j9, y1, y3, S1, h0, h1, h2, h3, h9, h10, h12, hkk, hd, lc, c1]
                rw [if_pos (not_f (lt1.trans (decf c1)))] at hk
                exact .i ⟨dx, hd, hsz, hk, hfr⟩
            · simp -implicitDefEqProofs only [op, ef, cl, sq, reduceIte, j3, j4, j5, j6, j7, j8, j9, y1, y3, S1, h0, h1, h2, h3, h9, h10, h12, hkk]
              rw [shiftUp, if_neg hkk] at hk
              exact .i ⟨dx, hd, hsz, hk, hfr⟩
          · rintro R H2 ⟨⟨dx, hd, hsz, rfl, hfr⟩, h0, h1, h2, h3, h9, h10⟩
            simp -implicitDefEqProofs (maxSteps := 1000000) (disch := omega) only [natOf_nat, iadmO, ldm1O, ldm2O, stm0O, stm1O, stm2O, wA, wA1, wS, wS1, wM, S2, op, ef, cl, sq, reduceIte, j3, j4, j5, j6, j7, j8, j9, y1, y3, S1, h0, h1, h2, h3, h9, h10]
            exact ⟨j + 1, by omega, .i ⟨si, rfl, by omega, by omega, dx, hd, hsz, by rw [hs5']; exact hP, hfr⟩, rfl, by omega⟩
        · rw [if_neg hB] at hd4
          subst hd4
          simp -implicitDefEqProofs (maxSteps := 1000000) (disch := omega) only [natOf_nat, iadmO, ldm1O, ldm2O, stm0O, stm1O, stm2O, wA, wA1, wS, wS1, wM, S2, op, ef, cl, sq, reduceIte, j3, j4, j5, j6, j7, j8, j9, y1, y3, S1, h0, h1, h2, h3, h9, h10, hB]
          exact ⟨j + 1, by omega, .i ⟨si, rfl, by omega, by omega, d4, hd, hsz3, by rw [hs5']; exact hP, hfr⟩, rfl, by omega⟩
  · rintro R H1 ⟨di, hd, hsz, hP, hfr⟩
    try simp -implicitDefEqProofs only [op, ef, cl, sq, reduceIte, j3, j4, j5, j6, j7, j8, j9, y1, y3, S1]
    rw [← hP]
    exact ⟨rfl, di, hd, hsz, rfl, hfr⟩
structure PRO (R : Regs) (c n a b lim : Nat) (wb wp : Bool) : Prop where
  r0 : R 0 = .msl c 0 n 1
  r1 : R 1 = .int .i64 a
  r2 : R 2 = .int .i64 b
  r3 : R 3 = .int .i64 lim
  r4 : R 0 = .msl c 0 n 1
  r10 : R 8 = .bool wb
  r11 : R 9 = .bool wp
  r12 : R 10 = .int .i64 (b - a : Nat)
open Go.Sort in
theorem seg3O (A : C) (hA : (bkOf ir106.body 1).map (seqN · 3) = some A) (c n a b lim : Nat) (wb wp : Bool) (d : Array Nat) (R : Regs) (H0 H : Heap) (K : Out → Heap → Prop) (hp : PRO R c n a b lim wb wp) (hd : SCO c n H0 (fun x => x = d) H) (hb : b ≤ n) (hab : a + 12 < b) (hs : n < 16777216) (hl : 1 ≤ lim ∧ lim < 1000)
    (rest : ∀ R' H', PRO R' c n a b (if (!wb) = true then lim - 1 else lim) wb wp → SCO c n H0 (fun x => x = if (!wb) = true then breakPatterns d a b else d) H' → K (.ex .normal R') H') : wpC env A R H K := by
  simp [ir106, bkOf, seqN, sq] at hA
  subst hA
  obtain ⟨h0, h1, h2, h3, h4, h10, h11, h12⟩ := hp
  obtain ⟨di, hc, hn, rfl, hfr⟩ := hd
  cases wb with
  | true =>
    simp -implicitDefEqProofs (maxSteps := 1000000) (disch := omega) only [op, ef, cl, sq, reduceIte, j3, j4, j5, j6, j7, j8, j9, y1, y3, S1, h0, h1, h2, h3, h4, h10, h11, h12]
    exact rest _ _ ⟨by simp -implicitDefEqProofs only [op, ef, cl, sq, reduceIte, j3, j4, j5, j6, j7, j8, j9, y1, y3, S1, h0], by simp -implicitDefEqProofs only [op, ef, cl, sq, reduceIte, j3, j4, j5, j6, j7, j8, j9, y1, y3, S1, h1], by simp -implicitDefEqProofs only [op, ef, cl, sq, reduceIte, j3, j4, j5, j6, j7, j8, j9, y1, y3, S1, h2], by simp -implicitDefEqProofs only [op, ef, cl, sq, reduceIte, j3, j4, j5, j6, j7, j8, j9, y1, y3, S1, h3], by simp -implicitDefEqProofs only [op, ef, cl, sq, reduceIte, j3, j4, j5, j6, j7, j8, j9, y1, y3, S1, h4], by simp -implicitDefEqProofs only [op, ef, cl, sq, reduceIte, j3, j4, j5, j6, j7, j8, j9, y1, y3, S1, h10], by simp -implicitDefEqProofs only [op, ef, cl, sq, reduceIte, j3, j4, j5, j6, j7, j8, j9, y1, y3, S1, h11], by simp -implicitDefEqProofs only [op, ef, cl, sq, reduceIte, j3, j4, j5, j6, j7, j8, j9, y1, y3, S1, h12]⟩ ⟨di, hc, hn, rfl, hfr⟩
  | false =>
    simp -implicitDefEqProofs (maxSteps := 1000000) (disch := omega) only [op, ef, cl, sq, reduceIte, j3, j4, j5, j6, j7, j8, j9, y1, y3, S1, h0, h1, h2, h3, h4, h10, h11, h12]
    refine callB_of _ _ _ _ _ _ _ _ (break87 c n di a b _ hn hc hb hab hs) ?_
    rintro u H2 ⟨hu, d2, hd2, hs2, e2, hf2⟩
    cases hu
    simp -implicitDefEqProofs (maxSteps := 1000000) (disch := omega) only [natOf_nat, iadmO, ldm1O, ldm2O, stm0O, stm1O, stm2O, wA, wA1, wS, wS1, wM, S2, op, ef, cl, sq, reduceIte, j3, j4, j5, j6, j7, j8, j9, y1, y3, S1, h0, h1, h2, h3, h4, h10, h11, h12]
    exact rest _ _ ⟨by simp -implicitDefEqProofs only [op, ef, cl, sq, reduceIte, j3, j4, j5, j6, j7, j8, j9, y1, y3, S1, h0], by simp -implicitDefEqProofs only [op, ef, cl, sq, reduceIte, j3, j4, j5, j6, j7, j8, j9, y1, y3, S1, h1], by simp -implicitDefEqProofs only [op, ef, cl, sq, reduceIte, j3, j4, j5, j6, j7, j8, j9, y1, y3, S1, h2], by simp -implicitDefEqProofs only [op, ef, cl, sq, reduceIte, j3, j4, j5, j6, j7, j8, j9, y1, y3, S1], by simp -implicitDefEqProofs only [op, ef, cl, sq, reduceIte, j3, j4, j5, j6, j7, j8, j9, y1, y3, S1, h4], by simp -implicitDefEqProofs only [op, ef, cl, sq, reduceIte, j3, j4, j5, j6, j7, j8, j9, y1, y3, S1, h10], by simp -implicitDefEqProofs only [op, ef, cl, sq, reduceIte, j3, j4, j5, j6, j7, j8, j9, y1, y3, S1, h11], by simp -implicitDefEqProofs only [op, ef, cl, sq, reduceIte, j3, j4, j5, j6, j7, j8, j9, y1, y3, S1, h12]⟩ ⟨d2, hd2, hs2, e2, hfr.trans hf2 fun _ h => .inl h⟩
open Go.Sort in
theorem seg5O (A : C) (hA : (bkOf ir106.body 1).map (seqN · 5) = some A) (c n a b lim : Nat) (wb wp : Bool) (d : Array Nat) (pv : Nat) (hi : Hint) (R : Regs) (H0 H : Heap) (K : Out → Heap → Prop) (hp : PRO R c n a b lim wb wp) (h13 : R 11 = .int .i64 pv) (h14 : R 12 = .int .i64 (hintN hi)) (hd : SCO c n H0 (fun x => x = d) H) (hb : b ≤ n) (hab : a + 12 < b) (hs : n < 16777216) (hpv : a ≤ pv ∧ pv < b)
    (rest : ∀ R' H', PRO R' c n a b lim wb wp → R' 11 = .int .i64 (if hi = .decreasing then (b - 1) - (pv - a) else pv : Nat) → R' 12 = .int .i64 (hintN (if hi = .decreasing then Hint.increasing else hi)) → SCO c n H0 (fun x => x = if hi = .decreasing then reverseRange d a b else d) H' → K (.ex .normal R') H') : wpC env A R H K := by
  simp [ir106, bkOf, seqN, sq] at hA
  subst hA
  obtain ⟨h0, h1, h2, h3, h4, h10, h11, h12⟩ := hp
  obtain ⟨di, hc, hn, rfl, hfr⟩ := hd
  have e : ((hintN hi) == 2) = decide (hi = .decreasing) := by cases hi <;> decide
  by_cases hh : hi = .decreasing
  · rw [decide_eq_true hh] at e
    simp -implicitDefEqProofs (maxSteps := 1000000) (disch := omega) only [op, ef, cl, sq, reduceIte, j3, j4, j5, j6, j7, j8, j9, y1, y3, S1, h0, h1, h2, h3, h4, h10, h11, h12, h13, h14, e]
    refine callB_of _ _ _ _ _ _ _ _ (rev89 c n di a b _ hn hc hb (by omega) (by omega)) ?_
    rintro u H2 ⟨hu, d2, hd2, hs2, e2, hf2⟩
    cases hu
    simp -implicitDefEqProofs (maxSteps := 1000000) (disch := omega) only [natOf_nat, iadmO, ldm1O, ldm2O, stm0O, stm1O, stm2O, wA, wA1, wS, wS1, wM, S2, op, ef, cl, sq, reduceIte, j3, j4, j5, j6, j7, j8, j9, y1, y3, S1, h0, h1, h2, h3, h4, h10, h11, h12, h13, h14]
    refine rest _ _ ⟨?_, ?_, ?_, ?_, ?_, ?_, ?_, ?_⟩ ?_ ?_ ⟨d2, hd2, hs2, ?_, hfr.trans hf2 fun _ h => .inl h⟩
    all_goals simp -implicitDefEqProofs only [op, ef, cl, sq, reduceIte, j3, j4, j5, j6, j7, j8, j9, y1, y3, S1, h0, h1, h2, h3, h4, h10, h11, h12, if_pos hh, hintN]
    exact e2
  · rw [decide_eq_false hh] at e
    simp -implicitDefEqProofs (maxSteps := 1000000) (disch := omega) only [op, ef, cl, sq, reduceIte, j3, j4, j5, j6, j7, j8, j9, y1, y3, S1, h0, h1, h2, h3, h4, h10, h11, h12, h13, h14, e]
    refine rest _ _ ⟨?_, ?_, ?_, ?_, ?_, ?_, ?_, ?_⟩ ?_ ?_ ⟨di, hc, hn, ?_, hfr⟩
    all_goals simp -implicitDefEqProofs only [op, ef, cl, sq, reduceIte, j3, j4, j5, j6, j7, j8, j9, y1, y3, S1, h0, h1, h2, h3, h4, h10, h11, h12, h13, h14, if_neg hh]
open Go.Sort in
theorem seg6O (A : C) (hA : (bkOf ir106.body 1).map (seqN · 6) = some A) (c n a b lim : Nat) (wb wp : Bool) (d : Array Nat) (pv : Nat) (hi : Hint) (R : Regs) (H0 H : Heap) (K : Out → Heap → Prop) (hp : PRO R c n a b lim wb wp) (h13 : R 11 = .int .i64 pv) (h14 : R 12 = .int .i64 (hintN hi)) (hd : SCO c n H0 (fun x => x = d) H) (hb : b ≤ n) (hab : a + 12 < b) (hs : n < 16777216)
    (pi : Array Nat × Bool) (hpi : pi = if (wb && wp && hi = .increasing) = true then partialInsertionSort ltN d a b else (d, false))
    (rest1 : ∀ R' H', pi.2 = true → SCO c n H0 (fun x => x = pi.1) H' → K (.ex .ret R') H')
    (rest2 : ∀ R' H', pi.2 = false → PRO R' c n a b lim wb wp → R' 11 = .int .i64 pv → SCO c n H0 (fun x => x = pi.1) H' → K (.ex .normal R') H') : wpC env A R H K := by
  simp [ir106, bkOf, seqN, sq] at hA
  subst hA
  obtain ⟨h0, h1, h2, h3, h4, h10, h11, h12⟩ := hp
  obtain ⟨di, hc, hn, rfl, hfr⟩ := hd
  have e : ((hintN hi) == 1) = decide (hi = .increasing) := by cases hi <;> decide
  have no : (wb && wp && decide (hi = .increasing)) = false → ∀ R', PRO R' c n a b lim wb wp → R' 11 = .int .i64 pv → K (.ex .normal R') H := fun h R' q q' => rest2 R' H (by rw [hpi, h]; rfl) q q' ⟨di, hc, hn, by rw [hpi, h]; rfl, hfr⟩
  cases wb with
  | false =>
    simp -implicitDefEqProofs only [op, ef, cl, sq, reduceIte, j3, j4, j5, j6, j7, j8, j9, y1, y3, S1, h0, h1, h2, h3, h4, h10, h11, h12, h13, h14]
    refine no rfl _ ⟨?_, ?_, ?_, ?_, ?_, ?_, ?_, ?_⟩ ?_
    all_goals simp -implicitDefEqProofs only [op, ef, cl, sq, reduceIte, j3, j4, j5, j6, j7, j8, j9, y1, y3, S1, h0, h1, h2, h3, h4, h10, h11, h12, h13]
  | true =>
    cases wp with
    | false =>
      simp -implicitDefEqProofs only [op, ef, cl, sq, reduceIte, j3, j4, j5, j6, j7, j8, j9, y1, y3, S1, h0, h1, h2, h3, h4, h10, h11, h12, h13, h14]
      refine no rfl _ ⟨?_, ?_, ?_, ?_, ?_, ?_, ?_, ?_⟩ ?_
      all_goals simp -implicitDefEqProofs only [op, ef, cl, sq, reduceIte, j3, j4, j5, j6, j7, j8, j9, y1, y3, S1, h0, h1, h2, h3, h4, h10, h11, h12, h13]
    | true =>
      by_cases hh : hi = .increasing
      · rw [decide_eq_true hh] at e
        rw [decide_eq_true hh] at hpi
        simp -implicitDefEqProofs only [op, ef, cl, sq, reduceIte, j3, j4, j5, j6, j7, j8, j9, y1, y3, S1, h0, h1, h2, h3, h4, h10, h11, h12, h13, h14, e]
        refine callB_of _ _ _ _ _ _ _ _ (pins90 c n di a b _ hn hc hb (by omega) (by omega)) ?_
        rintro u H2 ⟨hu, d2, hd2, hs2, e2, hf2⟩
        cases hu
        rw [if_pos (show (true && true && true) = true from rfl)] at hpi
        rw [← hpi] at e2 ⊢
        cases hb2 : pi.2 with
        | true =>
          try simp -implicitDefEqProofs only [op, ef, cl, sq, reduceIte, j3, j4, j5, j6, j7, j8, j9, y1, y3, S1]
          exact rest1 _ _ hb2 ⟨d2, hd2, hs2, e2, hfr.trans hf2 fun _ h => .inl h⟩
        | false =>
          try simp -implicitDefEqProofs only [op, ef, cl, sq, reduceIte, j3, j4, j5, j6, j7, j8, j9, y1, y3, S1]
          refine rest2 _ _ hb2 ⟨?_, ?_, ?_, ?_, ?_, ?_, ?_, ?_⟩ ?_ ⟨d2, hd2, hs2, e2, hfr.trans hf2 fun _ h => .inl h⟩
          all_goals simp -implicitDefEqProofs only [op, ef, cl, sq, reduceIte, j3, j4, j5, j6, j7, j8, j9, y1, y3, S1, h0, h1, h2, h3, h4, h10, h11, h12, h13]
      · rw [decide_eq_false hh] at e
        simp -implicitDefEqProofs only [op, ef, cl, sq, reduceIte, j3, j4, j5, j6, j7, j8, j9, y1, y3, S1, h0, h1, h2, h3, h4, h10, h11, h12, h13, h14, e]
        refine no (by rw [decide_eq_false hh]; rfl) _ ⟨?_, ?_, ?_, ?_, ?_, ?_, ?_, ?_⟩ ?_
        all_goals simp -implicitDefEqProofs only [op, ef, cl, sq, reduceIte, j3, j4, j5, j6, j7, j8, j9, y1, y3, S1, h0, h1, h2, h3, h4, h10, h11, h12, h13]
open Go.Sort in
theorem seg7O (A : C) (hA : (bkOf ir106.body 1).map (seqN · 7) = some A) (c n a b lim : Nat) (wb wp : Bool) (d : Array Nat) (pv : Nat) (R : Regs) (H0 H : Heap) (K : Out → Heap → Prop) (hp : PRO R c n a b lim wb wp) (h13 : R 11 = .int .i64 pv) (hd : SCO c n H0 (fun x => x = d) H) (hb : b ≤ n) (hab : a + 12 < b) (hs : n < 16777216) (hpv : a ≤ pv ∧ pv < b)
    (rest1 : ∀ R' H', (a > 0 && !ltN d[a - 1]! d[pv]!) = true → R' 0 = .msl c 0 n 1 → R' 1 = .int .i64 (partitionEqual ltN d a b pv).1 → R' 2 = .int .i64 b → R' 3 = .int .i64 lim → R' 0 = .msl c 0 n 1 → R' 8 = .bool wb → R' 9 = .bool wp → SCO c n H0 (fun x => x = (partitionEqual ltN d a b pv).2) H' → K (.ex (.exit 1) R') H')
    (rest2 : ∀ R' H', (a > 0 && !ltN d[a - 1]! d[pv]!) = false → PRO R' c n a b lim wb wp → R' 11 = .int .i64 pv → SCO c n H0 (fun x => x = d) H' → K (.ex .normal R') H') : wpC env A R H K := by
  simp [ir106, bkOf, seqN, sq] at hA
  subst hA
  obtain ⟨h0, h1, h2, h3, h4, h10, h11, h12⟩ := hp
  obtain ⟨di, hd, hn, rfl, hfr⟩ := hd
  have lc := glt hd
  by_cases ha : 0 < a
  · simp -implicitDefEqProofs (maxSteps := 1000000) (disch := omega) only [natOf_nat, iadmO, ldm1O, ldm2O, stm0O, stm1O, stm2O, wA, wA1, wS, wS1, wM, S2, op, ef, cl, sq, reduceIte, j3, j4, j5, j6, j7, j8, j9, y1, y3, S1, h0, h1, h2, h3, h4, h10, h11, h12, h13, ha, hd, lc]
    refine callB_of _ _ _ _ _ _ _ _ (less91 di[a - 1]! di[pv]! _) ?_
    rintro u H3 ⟨hu, hx0⟩
    cases hu
    have hx : Ext H H3 := by rw [hx0]; exact Ext.rfl'
    have hd := hx.get hd
    have lc := glt hd
    have hfr := hfr.trans (ext_frm (F := fun _ => False) hx) (fun _ h => h.elim)
    have lt1 : ltN di[a - 1]! di[pv]! = decide (ltN di[a - 1]! di[pv]! = true) := by simp
    by_cases c1 : ltN di[a - 1]! di[pv]! = true
    · simp -implicitDefEqProofs (maxSteps := 1000000) (disch := omega) only [natOf_nat, iadmO, ldm1O, ldm2O, stm0O, stm1O, stm2O, wA, wA1, wS, wS1, wM, S2, op, ef, cl, sq, reduceIte, j3, j4, j5, j6, j7, j8, j9, y1, y3, S1, h0, h1, h2, h3, h4, h10, h11, h12, h13, ha, hd, lc, c1]
      refine rest2 _ _ (by rw [lt1, dect c1]; simp) ⟨?_, ?_, ?_, ?_, ?_, ?_, ?_, ?_⟩ ?_ ⟨di, hd, hn, rfl, hfr⟩
      all_goals simp -implicitDefEqProofs only [op, ef, cl, sq, reduceIte, j3, j4, j5, j6, j7, j8, j9, y1, y3, S1, h0, h1, h2, h3, h4, h10, h11, h12, h13]
    · simp -implicitDefEqProofs (maxSteps := 1000000) (disch := omega) only [natOf_nat, iadmO, ldm1O, ldm2O, stm0O, stm1O, stm2O, wA, wA1, wS, wS1, wM, S2, op, ef, cl, sq, reduceIte, j3, j4, j5, j6, j7, j8, j9, y1, y3, S1, h0, h1, h2, h3, h4, h10, h11, h12, h13, ha, hd, lc, c1]
      refine callB_of _ _ _ _ _ _ _ _ (peq92 c n di a b pv _ hn hd hb (by omega) (by omega) (by omega)) ?_
      rintro u H4 ⟨hu, d2, hd2, hs2, e2, hf2⟩
      cases hu
      try simp -implicitDefEqProofs only [op, ef, cl, sq, reduceIte, j3, j4, j5, j6, j7, j8, j9, y1, y3, S1]
      refine rest1 _ _ (by rw [lt1, decf c1]; simp; exact ha) ?_ ?_ ?_ ?_ ?_ ?_ ?_ ⟨d2, hd2, hs2, e2, hfr.trans hf2 fun _ h => .inl h⟩
      all_goals simp -implicitDefEqProofs only [op, ef, cl, sq, reduceIte, j3, j4, j5, j6, j7, j8, j9, y1, y3, S1, h0, h1, h2, h3, h4, h10, h11, h12, h13]
  · simp -implicitDefEqProofs only [op, ef, cl, sq, reduceIte, j3, j4, j5, j6, j7, j8, j9, y1, y3, S1, h0, h1, h2, h3, h4, h10, h11, h12, h13, ha]
    refine rest2 _ _ (by rw [decide_eq_false ha]; rfl) ⟨?_, ?_, ?_, ?_, ?_, ?_, ?_, ?_⟩ ?_ ⟨di, hd, hn, rfl, hfr⟩
    all_goals simp -implicitDefEqProofs only [op, ef, cl, sq, reduceIte, j3, j4, j5, j6, j7, j8, j9, y1, y3, S1, h0, h1, h2, h3, h4, h10, h11, h12, h13]
open Go.Sort in
theorem pdq_stepO {d d1 d2 : Array Nat} {a b lim lim1 pv : Nat} {wb wp : Bool} {cp : Nat × Hint} {hi : Hint} {pi : Array Nat × Bool} (h12 : ¬ b - a ≤ 12) (hl : ¬ lim = 0)
    (e1 : d1 = if (!wb) = true then breakPatterns d a b else d) (el : lim1 = if (!wb) = true then lim - 1 else lim) (ec : cp = choosePivot ltN d1 a b) (e2 : d2 = if cp.2 = .decreasing then reverseRange d1 a b else d1)
    (ep : pv = if cp.2 = .decreasing then (b - 1) - (cp.1 - a) else cp.1) (eh : hi = if cp.2 = .decreasing then .increasing else cp.2) (epi : pi = if (wb && wp && hi = .increasing) = true then partialInsertionSort ltN d2 a b else (d2, false)) :
    pdq ltN d a b lim wb wp = if pi.2 = true then pi.1 else if (a > 0 && !ltN pi.1[a - 1]! pi.1[pv]!) = true then (if a < (partitionEqual ltN pi.1 a b pv).1 ∧ (partitionEqual ltN pi.1 a b pv).1 ≤ b then pdq ltN (partitionEqual ltN pi.1 a b pv).2 (partitionEqual ltN pi.1 a b pv).1 b lim1 wb wp else (partitionEqual ltN pi.1 a b pv).2)
      else (if a ≤ (partition ltN pi.1 a b pv).1 ∧ (partition ltN pi.1 a b pv).1 < b then if (partition ltN pi.1 a b pv).1 - a < b - (partition ltN pi.1 a b pv).1 then pdq ltN (pdq ltN (partition ltN pi.1 a b pv).2.2 a (partition ltN pi.1 a b pv).1 lim1 true true) ((partition ltN pi.1 a b pv).1 + 1) b lim1 (decide ((partition ltN pi.1 a b pv).1 - a ≥ (b - a) / 8)) (partition ltN pi.1 a b pv).2.1
        else pdq ltN (pdq ltN (partition ltN pi.1 a b pv).2.2 ((partition ltN pi.1 a b pv).1 + 1) b lim1 true true) a (partition ltN pi.1 a b pv).1 lim1 (decide (b - (partition ltN pi.1 a b pv).1 ≥ (b - a) / 8)) (partition ltN pi.1 a b pv).2.1 else (partition ltN pi.1 a b pv).2.2) := by
  subst epi eh ep e2 ec el e1
  rw [pdq, if_neg h12, if_neg hl]
  rfl
open Go.Sort in
theorem peq_rangeO (d : Array Nat) {a b pv : Nat} (h1 : a ≤ pv) (h2 : pv < b) (hb : b ≤ d.size) : a < (partitionEqual ltN d a b pv).1 ∧ (partitionEqual ltN d a b pv).1 ≤ b := by
  have := partEqLoop_spec (lt := ltN) a b b (a + 1) (b - 1) (swp d a pv) (by omega) (by omega) (by omega) (by omega) (by rw [swp_size]; exact hb) (fun t h h' => by omega) (fun t h h' => by omega)
  exact ⟨this.1, this.2.1⟩
open Go.Sort in
theorem seg0O (A : C) (hA : (bkOf ir106.body 1).map (seqN · 0) = some A) (c n a b lim : Nat) (wb wp : Bool) (R : Regs) (H : Heap) (K : Out → Heap → Prop) (h0 : R 0 = .msl c 0 n 1) (h1 : R 1 = .int .i64 a) (h2 : R 2 = .int .i64 b) (h3 : R 3 = .int .i64 lim) (h4 : R 0 = .msl c 0 n 1) (h10 : R 8 = .bool wb) (h11 : R 9 = .bool wp) (hab : a ≤ b) (hb : b < 16777216)
    (rest : ∀ R', PRO R' c n a b lim wb wp → K (.ex .normal R') H) : wpC env A R H K := by
  simp [ir106, bkOf, seqN, sq] at hA
  subst hA
  simp -implicitDefEqProofs (maxSteps := 1000000) (disch := omega) only [natOf_nat, iadmO, ldm1O, ldm2O, stm0O, stm1O, stm2O, wA, wA1, wS, wS1, wM, S2, op, ef, cl, sq, reduceIte, j3, j4, j5, j6, j7, j8, j9, y1, y3, S1, h0, h1, h2, h3, h4, h10, h11]
  refine rest _ ⟨?_, ?_, ?_, ?_, ?_, ?_, ?_, ?_⟩
  all_goals simp -implicitDefEqProofs only [op, ef, cl, sq, reduceIte, j3, j4, j5, j6, j7, j8, j9, y1, y3, S1, h0, h1, h2, h3, h4, h10, h11]
open Go.Sort in
theorem seg1O (A : C) (hA : (bkOf ir106.body 1).map (seqN · 1) = some A) (c n a b lim : Nat) (wb wp : Bool) (d : Array Nat) (R : Regs) (H0 H : Heap) (K : Out → Heap → Prop) (hp : PRO R c n a b lim wb wp) (hd : SCO c n H0 (fun x => x = d) H) (hb : b ≤ n) (hab : a ≤ b) (hs : n < 16777216)
    (rest1 : ∀ R' H', b - a ≤ 12 → SCO c n H0 (fun x => x = insertionSort ltN d a b) H' → K (.ex .ret R') H')
    (rest2 : ∀ R', ¬ b - a ≤ 12 → PRO R' c n a b lim wb wp → K (.ex .normal R') H) : wpC env A R H K := by
  simp [ir106, bkOf, seqN, sq] at hA
  subst hA
  obtain ⟨h0, h1, h2, h3, h4, h10, h11, h12⟩ := hp
  obtain ⟨di, hc, hn, rfl, hfr⟩ := hd
  by_cases hle : b - a ≤ 12
  · simp -implicitDefEqProofs only [op, ef, cl, sq, reduceIte, j3, j4, j5, j6, j7, j8, j9, y1, y3, S1, h0, h1, h2, h3, h4, h10, h11, h12, hle]
    have hi := ins85 c di a b H hc (by omega) hab (by omega)
    rw [hn] at hi
    refine callB_of _ _ _ _ _ _ _ _ hi ?_
    rintro u H2 ⟨hu, hd2, hf2⟩
    cases hu
    try simp -implicitDefEqProofs only [op, ef, cl, sq, reduceIte, j3, j4, j5, j6, j7, j8, j9, y1, y3, S1]
    exact rest1 _ _ hle ⟨_, hd2, by rw [(insertionSort_holds ltN_swo di a b hab (by omega)).1.1]; exact hn, rfl, hfr.trans hf2 fun _ h => .inl h⟩
  · simp -implicitDefEqProofs only [op, ef, cl, sq, reduceIte, j3, j4, j5, j6, j7, j8, j9, y1, y3, S1, h0, h1, h2, h3, h4, h10, h11, h12, hle]
    refine rest2 _ hle ⟨?_, ?_, ?_, ?_, ?_, ?_, ?_, ?_⟩
    all_goals simp -implicitDefEqProofs only [op, ef, cl, sq, reduceIte, j3, j4, j5, j6, j7, j8, j9, y1, y3, S1, h0, h1, h2, h3, h4, h10, h11, h12]
open Go.Sort in
theorem seg2O (A : C) (hA : (bkOf ir106.body 1).map (seqN · 2) = some A) (c n a b lim : Nat) (wb wp : Bool) (d : Array Nat) (R : Regs) (H0 H : Heap) (K : Out → Heap → Prop) (hp : PRO R c n a b lim wb wp) (hd : SCO c n H0 (fun x => x = d) H) (hb : b ≤ n) (hab : a + 12 < b) (hs : n < 16777216)
    (rest1 : ∀ R' H', lim = 0 → SCO c n H0 (fun x => x = heapSort ltN d a b) H' → K (.ex .ret R') H')
    (rest2 : ∀ R', ¬ lim = 0 → PRO R' c n a b lim wb wp → K (.ex .normal R') H) : wpC env A R H K := by
  simp [ir106, bkOf, seqN, sq] at hA
  subst hA
  obtain ⟨h0, h1, h2, h3, h4, h10, h11, h12⟩ := hp
  obtain ⟨di, hc, hn, rfl, hfr⟩ := hd
  by_cases hl : lim = 0
  · subst hl
    have e : (((0 : Nat) : Int) == 0) = true := rfl
    simp -implicitDefEqProofs only [op, ef, cl, sq, reduceIte, j3, j4, j5, j6, j7, j8, j9, y1, y3, S1, h0, h1, h2, h3, h4, h10, h11, h12, e]
    refine callB_of _ _ _ _ _ _ _ _ (heap86 c n di a b _ hn hc hb (by omega) (by omega)) ?_
    rintro u H2 ⟨hu, d2, hd2, hs2, e2, hf2⟩
    cases hu
    try simp -implicitDefEqProofs only [op, ef, cl, sq, reduceIte, j3, j4, j5, j6, j7, j8, j9, y1, y3, S1]
    exact rest1 _ _ rfl ⟨_, hd2, hs2, e2, hfr.trans hf2 fun _ h => .inl h⟩
  · have e : ((lim : Int) == 0) = false := by simp; omega
    simp -implicitDefEqProofs only [op, ef, cl, sq, reduceIte, j3, j4, j5, j6, j7, j8, j9, y1, y3, S1, h0, h1, h2, h3, h4, h10, h11, h12, e]
    refine rest2 _ hl ⟨?_, ?_, ?_, ?_, ?_, ?_, ?_, ?_⟩
    all_goals simp -implicitDefEqProofs only [op, ef, cl, sq, reduceIte, j3, j4, j5, j6, j7, j8, j9, y1, y3, S1, h0, h1, h2, h3, h4, h10, h11, h12]
open Go.Sort in
theorem seg4O (A : C) (hA : (bkOf ir106.body 1).map (seqN · 4) = some A) (c n a b lim : Nat) (wb wp : Bool) (d : Array Nat) (R : Regs) (H0 H : Heap) (K : Out → Heap → Prop) (hp : PRO R c n a b lim wb wp) (hd : SCO c n H0 (fun x => x = d) H) (hb : b ≤ n) (hab : a + 12 < b) (hs : n < 16777216)
    (rest : ∀ R' H', PRO R' c n a b lim wb wp → R' 11 = .int .i64 (choosePivot ltN d a b).1 → R' 12 = .int .i64 (hintN (choosePivot ltN d a b).2) → SCO c n H0 (fun x => x = d) H' → K (.ex .normal R') H') : wpC env A R H K := by
  simp [ir106, bkOf, seqN, sq] at hA
  subst hA
  obtain ⟨h0, h1, h2, h3, h4, h10, h11, h12⟩ := hp
  obtain ⟨di, hc, hn, rfl, hfr⟩ := hd
  simp -implicitDefEqProofs only [op, ef, cl, sq, reduceIte, j3, j4, j5, j6, j7, j8, j9, y1, y3, S1, h0, h1, h2, h3, h4, h10, h11, h12]
  refine callB_of _ _ _ _ _ _ _ _ (choose88 c n di a b _ hn hc hb hab (by omega)) ?_
  rintro u H2 ⟨hu, hx⟩
  cases hu
  try simp -implicitDefEqProofs only [op, ef, cl, sq, reduceIte, j3, j4, j5, j6, j7, j8, j9, y1, y3, S1]
  refine rest _ _ ⟨?_, ?_, ?_, ?_, ?_, ?_, ?_, ?_⟩ ?_ ?_ ⟨di, hx.get hc, hn, rfl, hfr.trans (ext_frm (F := fun _ => False) hx) (fun _ h => h.elim)⟩
  all_goals simp -implicitDefEqProofs only [op, ef, cl, sq, reduceIte, j3, j4, j5, j6, j7, j8, j9, y1, y3, S1, h0, h1, h2, h3, h4, h10, h11, h12]
open Go.Sort in
theorem seg8O (A : C) (hA : (bkOf ir106.body 1).map (seqT · 8) = some A) (c n a b lim : Nat) (wb wp : Bool) (d : Array Nat) (pv : Nat) (R : Regs) (H0 H : Heap) (K : Out → Heap → Prop) (hp : PRO R c n a b lim wb wp) (h13 : R 11 = .int .i64 pv) (hd : SCO c n H0 (fun x => x = d) H) (hb : b ≤ n) (hab : a + 12 < b) (hs : n < 16777216) (hpv : a ≤ pv ∧ pv < b)
    (ih : ∀ a' b' (d' : Array Nat) H', b' - a' < b - a → a' ≤ b' → b' ≤ n → d'.size = n → H'[c]? = some (.cells (msC eU d'.toList)) → W env (.call 106 [.msl c 0 n 1, .int .i64 a', .int .i64 b', .int .i64 lim]) H' (SrtNO c n (pdq ltN d' a' b' lim true true) H'))
    (rest : ∀ R' H' a' b' (d' : Array Nat) (wb' : Bool), a ≤ a' → a' ≤ b' → b' ≤ b → b' - a' < b - a → R' 0 = .msl c 0 n 1 → R' 1 = .int .i64 (a' : Nat) → R' 2 = .int .i64 (b' : Nat) → R' 3 = .int .i64 lim → R' 0 = .msl c 0 n 1 → R' 8 = .bool wb' → R' 9 = .bool (partition ltN d a b pv).2.1 →
      pdq ltN d' a' b' lim wb' (partition ltN d a b pv).2.1 = (if (partition ltN d a b pv).1 - a < b - (partition ltN d a b pv).1 then pdq ltN (pdq ltN (partition ltN d a b pv).2.2 a (partition ltN d a b pv).1 lim true true) ((partition ltN d a b pv).1 + 1) b lim (decide ((partition ltN d a b pv).1 - a ≥ (b - a) / 8)) (partition ltN d a b pv).2.1
        else pdq ltN (pdq ltN (partition ltN d a b pv).2.2 ((partition ltN d a b pv).1 + 1) b lim true true) a (partition ltN d a b pv).1 lim (decide (b - (partition ltN d a b pv).1 ≥ (b - a) / 8)) (partition ltN d a b pv).2.1) →
      SCO c n H0 (fun x => x = d') H' → K (.ex .normal R') H') : wpC env A R H K := by
  simp [ir106, bkOf, seqT, sq] at hA
  subst hA
  obtain ⟨h0, h1, h2, h3, h4, h10, h11, h12⟩ := hp
  obtain ⟨di, hc, hn, rfl, hfr⟩ := hd
  have hrg := partition_holds ltN ltN_swo di a b pv hpv.1 hpv.2 (by omega)
  simp -implicitDefEqProofs only [op, ef, cl, sq, reduceIte, j3, j4, j5, j6, j7, j8, j9, y1, y3, S1, h0, h1, h2, h3, h4, h10, h11, h12, h13]
  refine callB_of _ _ _ _ _ _ _ _ (part93 c n di a b pv _ hn hc hb (by omega) (by omega) (by omega)) ?_
  rintro u H2 ⟨hu, d2, hd2, hs2, e2, hf2⟩
  cases hu
  generalize partition ltN di a b pv = r at *
  obtain ⟨mid, ap, d4⟩ := r
  simp only at hrg e2 rest ⊢
  subst e2
  obtain ⟨m1, m2, _⟩ := hrg
  have hfr2 := hfr.trans hf2 fun _ h => .inl h
  by_cases hlt : mid - a < b - mid
  · rw [if_pos hlt] at rest
    simp -implicitDefEqProofs (maxSteps := 1000000) (disch := omega) only [natOf_nat, iadmO, ldm1O, ldm2O, stm0O, stm1O, stm2O, wA, wA1, wS, wS1, wM, S2, op, ef, cl, sq, reduceIte, j3, j4, j5, j6, j7, j8, j9, y1, y3, S1, wQ8, h0, h1, h2, h3, h4, h10, h11, h12, h13, hlt]
    refine callB_of _ _ _ _ _ _ _ _ (ih a mid d2 _ (by omega) m1 (by omega) hs2 hd2) ?_
    rintro u H3 ⟨hu, d3, hd3, hs3, e3, hf3⟩
    cases hu
    simp -implicitDefEqProofs (maxSteps := 1000000) (disch := omega) only [natOf_nat, iadmO, ldm1O, ldm2O, stm0O, stm1O, stm2O, wA, wA1, wS, wS1, wM, S2, op, ef, cl, sq, reduceIte, j3, j4, j5, j6, j7, j8, j9, y1, y3, S1, h0, h1, h2, h3, h4, h10, h11, h12, h13]
    refine rest _ _ (mid + 1) b d3 (decide ((b - a) / 8 ≤ mid - a)) (by omega) (by omega) (Nat.le_refl _) (by omega) ?_ ?_ ?_ ?_ ?_ ?_ ?_ (by rw [e3]) ⟨d3, hd3, hs3, rfl, hfr2.trans hf3 fun _ h => .inl h⟩
    all_goals simp -implicitDefEqProofs only [op, ef, cl, sq, reduceIte, j3, j4, j5, j6, j7, j8, j9, y1, y3, S1, h0, h1, h2, h3, h4, h10, h11, h12]
  · rw [if_neg hlt] at rest
    simp -implicitDefEqProofs (maxSteps := 1000000) (disch := omega) only [natOf_nat, iadmO, ldm1O, ldm2O, stm0O, stm1O, stm2O, wA, wA1, wS, wS1, wM, S2, op, ef, cl, sq, reduceIte, j3, j4, j5, j6, j7, j8, j9, y1, y3, S1, wQ8, h0, h1, h2, h3, h4, h10, h11, h12, h13, hlt]
    refine callB_of _ _ _ _ _ _ _ _ (ih (mid + 1) b d2 _ (by omega) m2 (by omega) hs2 hd2) ?_
    rintro u H3 ⟨hu, d3, hd3, hs3, e3, hf3⟩
    cases hu
    simp -implicitDefEqProofs (maxSteps := 1000000) (disch := omega) only [natOf_nat, iadmO, ldm1O, ldm2O, stm0O, stm1O, stm2O, wA, wA1, wS, wS1, wM, S2, op, ef, cl, sq, reduceIte, j3, j4, j5, j6, j7, j8, j9, y1, y3, S1, h0, h1, h2, h3, h4, h10, h11, h12, h13]
    refine rest _ _ a mid d3 (decide ((b - a) / 8 ≤ b - mid)) (by omega) (by omega) (by omega) (by omega) ?_ ?_ ?_ ?_ ?_ ?_ ?_ (by rw [e3]) ⟨d3, hd3, hs3, rfl, hfr2.trans hf3 fun _ h => .inl h⟩
    all_goals simp -implicitDefEqProofs only [op, ef, cl, sq, reduceIte, j3, j4, j5, j6, j7, j8, j9, y1, y3, S1, h0, h1, h2, h3, h4, h10, h11, h12]
open Go.Sort in
theorem pdq69 (c n : Nat) (hs : n < 16777216) : ∀ m a b lim (d : Array Nat) H, b - a = m → a ≤ b → b ≤ n → lim < 1000 → d.size = n → H[c]? = some (.cells (msC eU d.toList)) →
    W env (.call 106 [.msl c 0 n 1, .int .i64 (a : Nat), .int .i64 (b : Nat), .int .i64 (lim : Nat)]) H (SrtNO c n (pdq ltN d a b lim true true) H) := by
  intro m
  induction m using Nat.strongRecOn with
  | _ m ih =>
  intro a b lim d H hm hab hb hlim hn hc
  subst hm
  refine W.fnI rfl rfl rfl ?_
  simp -implicitDefEqProofs only [ir106, op, ef, cl, sq, reduceIte, j3, j4, j5, j6, j7, j8, j9, y1, y3, S1]
  refine W.loopI (fun (q : Nat × Nat × Nat × Bool × Bool) R H' => At H' (fun H' => SCO c n H (fun di => pdq ltN di q.1 q.2.1 q.2.2.1 q.2.2.2.1 q.2.2.2.2 = pdq ltN d a b lim true true) H') ∧ R 0 = .msl c 0 n 1 ∧ R 1 = .int .i64 q.1 ∧ R 2 = .int .i64 q.2.1 ∧ R 3 = .int .i64 q.2.2.1 ∧ R 0 = .msl c 0 n 1 ∧ R 8 = .bool q.2.2.2.1 ∧ R 9 = .bool q.2.2.2.2 ∧ a ≤ q.1 ∧ q.1 ≤ q.2.1 ∧ q.2.1 ≤ b ∧ q.2.2.1 ≤ lim) (fun q => q.2.1 - q.1) (a, b, lim, true, true) ⟨.i ⟨d, hc, hn, rfl, Frm.refl _ _⟩, rfl, rfl, rfl, rfl, rfl, rfl, rfl, Nat.le_refl _, hab, Nat.le_refl _, Nat.le_refl _⟩ ?_
  rintro ⟨a1, b1, l1, wb, wp⟩ R H1 ⟨⟨di, hd, hsz, hP, hfr⟩, h0, h1, h2, h3, h4, h10, h11, q1, q2, q3, q4⟩
  simp only at hP h1 h2 h3 h10 h11 q1 q2 q3 q4 ⊢
  rw [c_block, c_seq]
  refine seg0O _ rfl c n a1 b1 l1 wb wp R H1 _ h0 h1 h2 h3 h4 h10 h11 q2 (by omega) ?_
  intro R1 p1
  rw [then_n, cont_ap, c_seq]
  refine seg1O _ rfl c n a1 b1 l1 wb wp di R1 H H1 _ p1 ⟨di, hd, hsz, rfl, hfr⟩ (by omega) q2 hs ?_ ?_
  · rintro R' H' hle ⟨d', hd', hs', rfl, hf'⟩
    rw [pdq, if_pos hle] at hP
    try simp -implicitDefEqProofs only [op, ef, cl, sq, reduceIte, j3, j4, j5, j6, j7, j8, j9, y1, y3, S1]
    exact ⟨rfl, _, hd', hs', hP, hf'⟩
  intro R2 h12 p2
  rw [then_n, cont_ap, c_seq]
  refine seg2O _ rfl c n a1 b1 l1 wb wp di R2 H H1 _ p2 ⟨di, hd, hsz, rfl, hfr⟩ (by omega) (by omega) hs ?_ ?_
  · rintro R' H' hl0 ⟨d', hd', hs', rfl, hf'⟩
    rw [pdq, if_neg h12, if_pos hl0] at hP
    try simp -implicitDefEqProofs only [op, ef, cl, sq, reduceIte, j3, j4, j5, j6, j7, j8, j9, y1, y3, S1]
    exact ⟨rfl, _, hd', hs', hP, hf'⟩
  intro R3 hl0 p3
  rw [then_n, cont_ap, c_seq]
  refine seg3O _ rfl c n a1 b1 l1 wb wp di R3 H H1 _ p3 ⟨di, hd, hsz, rfl, hfr⟩ (by omega) (by omega) hs (by omega) ?_
  rintro R4 H4 p4 ⟨d1, hd4, hs4, e1, hf4⟩
  obtain ⟨lim1, el⟩ : ∃ l, l = if (!wb) = true then l1 - 1 else l1 := ⟨_, rfl⟩
  have hll : lim1 ≤ l1 := by rw [el]; split <;> omega
  rw [← el] at p4
  rw [then_n, cont_ap, c_seq]
  refine seg4O _ rfl c n a1 b1 lim1 wb wp d1 R4 H H4 _ p4 ⟨d1, hd4, hs4, rfl, hf4⟩ (by omega) (by omega) hs ?_
  rintro R5 H5 p5 h13 h14 ⟨d1', hd5, hs5, e1', hf5⟩
  subst e1'
  have hcr := choosePivot_holds ltN d1' a1 b1 (by omega)
  obtain ⟨cp, ec⟩ : ∃ x, x = choosePivot ltN d1' a1 b1 := ⟨_, rfl⟩
  rw [← ec] at h13 h14 hcr
  rw [then_n, cont_ap, c_seq]
  refine seg5O _ rfl c n a1 b1 lim1 wb wp d1' cp.1 cp.2 R5 H H5 _ p5 h13 h14 ⟨d1', hd5, hs5, rfl, hf5⟩ (by omega) (by omega) hs hcr ?_
  rintro R6 H6 p6 h13 h14 ⟨d2, hd6, hs6, e2, hf6⟩
  obtain ⟨pv, ep⟩ : ∃ x, x = if cp.2 = .decreasing then (b1 - 1) - (cp.1 - a1) else cp.1 := ⟨_, rfl⟩
  obtain ⟨hi, eh⟩ : ∃ x, x = if cp.2 = .decreasing then Hint.increasing else cp.2 := ⟨_, rfl⟩
  rw [← ep] at h13
  rw [← eh] at h14
  have hpv : a1 ≤ pv ∧ pv < b1 := by rw [ep]; split <;> omega
  rw [then_n, cont_ap, c_seq]
  obtain ⟨pi, epi⟩ : ∃ x, x = if (wb && wp && hi = .increasing) = true then partialInsertionSort ltN d2 a1 b1 else (d2, false) := ⟨_, rfl⟩
  rw [pdq_stepO h12 hl0 e1 el ec e2 ep eh epi] at hP
  refine seg6O _ rfl c n a1 b1 lim1 wb wp d2 pv hi R6 H H6 _ p6 h13 h14 ⟨d2, hd6, hs6, rfl, hf6⟩ (by omega) (by omega) hs pi epi ?_ ?_
  · rintro R' H' hpt ⟨d', hd', hs', rfl, hf'⟩
    rw [if_pos hpt] at hP
    try simp -implicitDefEqProofs only [op, ef, cl, sq, reduceIte, j3, j4, j5, j6, j7, j8, j9, y1, y3, S1]
    exact ⟨rfl, _, hd', hs', hP, hf'⟩
  rintro R7 H7 hpf p7 h13 ⟨d3, hd7, hs7, e3, hf7⟩
  rw [if_neg (by rw [hpf]; simp), ← e3] at hP
  rw [then_n, cont_ap, c_seq]
  refine seg7O _ rfl c n a1 b1 lim1 wb wp d3 pv R7 H H7 _ p7 h13 ⟨d3, hd7, hs7, rfl, hf7⟩ (by omega) (by omega) hs hpv ?_ ?_
  · rintro R' H' hgt g0 g1 g2 g3 g4 g10 g11 ⟨d', hd', hs', e', hf'⟩
    have hr := peq_rangeO d3 hpv.1 hpv.2 (by omega)
    rw [if_pos hgt, if_pos hr, ← e'] at hP
    try simp -implicitDefEqProofs only [op, ef, cl, sq, reduceIte, j3, j4, j5, j6, j7, j8, j9, y1, y3, S1]
    exact ⟨((partitionEqual ltN d3 a1 b1 pv).1, b1, lim1, wb, wp), by simp only; omega, .i ⟨_, hd', hs', hP, hf'⟩, g0, g1, g2, g3, g4, g10, g11, by simp only; omega, by simp only; omega, by simp only; omega, by simp only; omega⟩
  rintro R8 H8 hgt p8 h13 ⟨d3', hd8, hs8, e3', hf8⟩
  subst e3'
  have hr := partition_holds ltN ltN_swo d3' a1 b1 pv hpv.1 hpv.2 (by omega)
  rw [if_neg (by rw [hgt]; simp), if_pos ⟨hr.1, hr.2.1⟩] at hP
  rw [then_n, cont_ap]
  refine seg8O _ rfl c n a1 b1 lim1 wb wp d3' pv R8 H H8 _ p8 h13 ⟨d3', hd8, hs8, rfl, hf8⟩ (by omega) (by omega) hs hpv (fun a' b' d' H' hlt ha' hb' hs' hc' => ih _ (by omega) a' b' lim1 d' H' rfl ha' hb' (by omega) hs' hc') ?_
  rintro R' H' a' b' d' wb' ha' hab' hb' hlt g0 g1 g2 g3 g4 g10 g11 e' ⟨d'', hd', hs', rfl, hf'⟩
  try simp -implicitDefEqProofs only [op, ef, cl, sq, reduceIte, j3, j4, j5, j6, j7, j8, j9, y1, y3, S1]
  exact ⟨(a', b', lim1, wb', (partition ltN d3' a1 b1 pv).2.1), by simp only; omega, .i ⟨_, hd', hs', by simp only; rw [e']; exact hP, hf'⟩, g0, g1, g2, g3, g4, g10, g11, by simp only; omega, hab', by simp only; omega, by simp only; omega⟩
open Go.Sort in
theorem sortO55 (c : Nat) (d : Array Nat) (H : Heap) (hc : H[c]? = some (.cells (msC eU d.toList))) (hs : d.size < 16777216) :
    W env (.call 56 [.msl c 0 d.size 1]) H (SrtNO c d.size (sort ltN d) H) := by
  refine W.fnI rfl rfl rfl ?_
  have w1 : IntKind.u64.wrap (d.size : Int) = (d.size : Int) := wrapu (by omega)
  simp -implicitDefEqProofs only [ir56, op, ef, cl, sq, reduceIte, j3, j4, j5, j6, j7, j8, j9, y1, y3, S1, w1]
  refine callB_of _ _ _ _ _ _ _ _ (len65 d.size hs _) ?_
  rintro u H1 ⟨hu, rfl⟩
  cases hu
  have hb := bits_lt (n := d.size) (k := 24) hs
  try simp -implicitDefEqProofs only [op, ef, cl, sq, reduceIte, j3, j4, j5, j6, j7, j8, j9, y1, y3, S1]
  refine callB_of _ _ _ _ _ _ _ _ (pdq69 c d.size hs _ 0 d.size (bitsLen d.size) d _ rfl (Nat.zero_le _) (Nat.le_refl _) (by omega) rfl hc) ?_
  rintro u H2 ⟨hu, h2⟩
  cases hu
  try simp -implicitDefEqProofs only [op, ef, cl, sq, reduceIte, j3, j4, j5, j6, j7, j8, j9, y1, y3, S1]
  exact ⟨rfl, h2⟩
end Go.Proofs.YtmgldhlcapjdkaaGreat.St.Un
end

section
namespace Go.Proofs.YtmgldhlcapjdkaaGreat.St
open Go.Rmp Go.Proofs.YtmgldhlcapjdkaaGreat.Ir
set_option maxRecDepth 10000
structure Vd where
  value : ByteArray
  keys : List ByteArray
  stamp : Int
def Hd.vd (h : Hd) : Vd := ⟨h.value, h.keys, h.stamp⟩
structure Ab where
  v : Nm → Option Vd
  l : ByteArray → Option Nat
def Ab.last (a : Ab) (k : ByteArray) : Nat := (a.l k).getD 0
def Ab.has (a : Ab) (m : Nm) : Bool := (a.v m).isSome
def absS (s : Sto) : Ab := ⟨fun m => (mlook s.vs m).map Hd.vd, fun k => mlook s.ls k⟩
def Ab.emp : Ab := ⟨fun _ => none, fun _ => none⟩
def Ab.put (a : Ab) (n : Nat) (l : List (ByteArray × ByteArray)) (ks : List ByteArray) (now : Int) : Ab :=
  ⟨fun m => match a.v m with
    | some h => some h
    | none => if m.2 = n then (mlook l m.1).map fun v => ⟨v, ks, if n < a.last m.1 then now else -1⟩ else none, a.l⟩
def Ab.fresh (a : Ab) (n : Nat) (l : List (ByteArray × ByteArray)) : Bool := l.any fun p => !a.has (p.1, n)
def Ab.com (a : Ab) (n : Nat) (now : Int) : Ab :=
  ⟨fun m => (a.v m).map fun h => if h.stamp = -1 ∧ a.has (m.1, n) = true ∧ a.last m.1 < n ∧ m.2 < n then { h with stamp := now } else h,
   fun k => if a.has (k, n) = true ∧ a.last k < n then some n else a.l k⟩
theorem ab_ext {a b : Ab} (h1 : ∀ m, a.v m = b.v m) (h2 : ∀ k, a.l k = b.l k) : a = b := by
  cases a; cases b; simp -implicitDefEqProofs only [Ab.mk.injEq]; exact ⟨funext h1, funext h2⟩
theorem mlook_of {α β : Type} [DecidableEq α] {es : List (α × β)} (hn : (es.map (·.1)).Nodup) {p : α × β} (hp : p ∈ es) : mlook es p.1 = some p.2 := by
  induction es with
  | nil => cases hp
  | cons e es ih =>
    rw [List.map_cons, List.nodup_cons] at hn
    rw [mlook_cons]
    rcases List.mem_cons.1 hp with rfl | hp
    · simp
    · rw [if_neg, ih hn.2 hp]
      intro h
      exact hn.1 (h ▸ List.mem_map.2 ⟨p, hp, rfl⟩)
theorem PutV.abs {s s' : Sto} {n : Nat} {l : List (ByteArray × ByteArray)} {ks : List ByteArray} {now : Int} {fr : Bool} (h : PutV s s' n l ks now fr) (hn : (l.map (·.1)).Nodup) : absS s' = (absS s).put n l ks now := by
  refine ab_ext (fun m => ?_) fun k => by simp -implicitDefEqProofs only [absS, Ab.put, h.ls]
  simp -implicitDefEqProofs only [absS, Ab.put]
  by_cases hm : m.2 = n ∧ m.1 ∈ l.map (·.1)
  · obtain ⟨rfl, hm⟩ := hm
    obtain ⟨p, hp, hpm⟩ := List.mem_map.1 hm
    have e : m = (p.1, m.2) := by rw [hpm]
    cases hl : mlook s.vs m with
    | some x =>
      have := h.old p hp x (by rw [← e]; exact hl)
      rw [← e] at this
      simp [this]
    | none =>
      obtain ⟨kk, _, h2⟩ := h.new p hp (by rw [← e]; exact hl)
      rw [← e] at h2
      have h3 := mlook_of hn hp
      rw [hpm] at h3 h2
      simp -implicitDefEqProofs only [h2, h3, Hd.vd, Option.map_some, Option.map_none, if_true]; rfl
  · have h1 := h.other m (by
      by_cases e : m.2 = n
      · exact .inr fun h => hm ⟨e, h⟩
      · exact .inl e)
    rw [h1]
    cases hl : mlook s.vs m with
    | some x => simp
    | none =>
      simp -implicitDefEqProofs only [Option.map_none]
      split
      · rename_i e
        rw [mlook_none.2 fun h => hm ⟨e, h⟩]; rfl
      · rfl
theorem PutV.fr {s s' : Sto} {n : Nat} {l : List (ByteArray × ByteArray)} {ks : List ByteArray} {now : Int} {fr : Bool} (h : PutV s s' n l ks now fr) : fr = (absS s).fresh n l := by
  rw [Bool.eq_iff_iff, h.fresh]
  simp -implicitDefEqProofs only [Ab.fresh, List.any_eq_true, Ab.has, absS, Option.isSome_map, Bool.not_eq_true', Option.isSome_eq_false_iff, Option.isNone_iff_eq_none]
theorem ComV.abs {s s' : Sto} {n : Nat} {now : Int} (hi : SInv s) (h : ComV s s' n now (s.pls n)) : absS s' = (absS s).com n now := by
  have hp : ∀ k, k ∈ s.pls n ↔ (absS s).has (k, n) = true := fun k => by rw [hi.plm]; simp [Ab.has, absS]
  have hlast : ∀ k, lastOf s k = (absS s).last k := fun _ => rfl
  have hv : ∀ m, (absS s).v m = (mlook s.vs m).map Hd.vd := fun _ => rfl
  have hl' : ∀ k, (absS s).l k = mlook s.ls k := fun _ => rfl
  obtain ⟨a, ha⟩ : ∃ a, a = absS s := ⟨_, rfl⟩
  rw [← ha] at hp hlast hv hl' ⊢
  refine ab_ext (fun m => ?_) fun k => ?_
  · obtain ⟨h1, h2⟩ := h.vs.2 m
    show (mlook s'.vs m).map Hd.vd = (a.v m).map _
    rw [hv]
    cases hl : mlook s.vs m with
    | none => rw [h1 hl]; rfl
    | some x =>
      obtain ⟨h3, h4⟩ := h2 x hl
      by_cases hc : (m.1 ∈ s.pls n ∧ lastOf s m.1 < n ∧ m.2 < n) ∧ x.stamp = -1
      · rw [h3 hc]
        simp -implicitDefEqProofs only [Option.map_some, Option.some.injEq]
        rw [if_pos ⟨hc.2, (hp _).1 hc.1.1, hlast _ ▸ hc.1.2.1, hc.1.2.2⟩]; rfl
      · rw [h4 hc]
        simp -implicitDefEqProofs only [Option.map_some, Option.some.injEq]
        rw [if_neg]
        rintro ⟨a, b, c, d⟩
        exact hc ⟨⟨(hp _).2 b, by rw [hlast]; exact c, d⟩, a⟩
  · show mlook s'.ls k = if _ then _ else a.l k
    rw [hl']
    by_cases hc : k ∈ s.pls n ∧ lastOf s k < n
    · rw [h.on k hc.1 hc.2, if_pos ⟨(hp _).1 hc.1, by rw [← hlast]; exact hc.2⟩]
    · rw [h.off k hc, if_neg fun hh => hc ⟨(hp _).2 hh.1, by rw [hlast]; exact hh.2⟩]
theorem nd_le {α : Type} : ∀ {l l' : List α}, l.Nodup → (∀ x ∈ l, x ∈ l') → l.length ≤ l'.length
  | [], _, _, _ => Nat.zero_le _
  | x :: l, l', hn, hs => by
    obtain ⟨a, b, rfl⟩ := List.append_of_mem (hs x List.mem_cons_self)
    rw [List.nodup_cons] at hn
    have := nd_le (l := l) (l' := a ++ b) hn.2 fun y hy => by
      have h := hs y (List.mem_cons_of_mem _ hy)
      rcases List.mem_append.1 h with h | h
      · exact List.mem_append_left _ h
      · rcases List.mem_cons.1 h with rfl | h
        · exact absurd hy hn.1
        · exact List.mem_append_right _ h
    simp -implicitDefEqProofs only [List.length_append, List.length_cons] at this ⊢
    omega
theorem PutV.vlen {s s' : Sto} {n : Nat} {l : List (ByteArray × ByteArray)} {ks : List ByteArray} {now : Int} {fr : Bool} (h : PutV s s' n l ks now fr) (hi : SInv s') : s'.vs.length ≤ s.vs.length + l.length := by
  have := nd_le (l := s'.vs.map (·.1)) (l' := s.vs.map (·.1) ++ l.map fun p => (p.1, n)) hi.nd fun m hm => by
    rw [List.mem_append]
    by_cases hc : m.2 = n ∧ m.1 ∈ l.map (·.1)
    · obtain ⟨p, hp, e⟩ := List.mem_map.1 hc.2
      exact .inr (List.mem_map.2 ⟨p, hp, by rw [e, ← hc.1]⟩)
    · refine .inl ?_
      rw [mem_keys] at hm ⊢
      rwa [h.other m (by
        by_cases e : m.2 = n
        · exact .inr fun h => hc ⟨e, h⟩
        · exact .inl e)] at hm
  simpa using this
theorem VS.vlen {v v' : List (Nm × Hd)} {now : Int} {S : Nm → Prop} (h : VS v v' now S) (hn : (v.map (·.1)).Nodup) : v'.length = v.length := by
  have := len_eq h.1 hn fun m => by rw [mem_keys, mem_keys, h.some]
  simpa using this
def AtS (H : Heap) (b : Bk) (a : Ab) (F : Nat → Prop) (n : Nat) : Prop := ∃ s, SH H b s F ∧ SInv s ∧ absS s = a ∧ s.n ≤ n ∧ s.vs.length ≤ n
theorem AtS.ext {H H' : Heap} {b : Bk} {a : Ab} {F : Nat → Prop} {n : Nat} (h : AtS H b a F n) (hx : Ext H H') : AtS H' b a F n := by
  obtain ⟨s, h1, h2⟩ := h
  exact ⟨s, h1.ext hx, h2⟩
def Gro (F F' : Nat → Prop) (H H' : Heap) : Prop := ∀ c, F' c → F c ∨ (H.length ≤ c ∧ c < H'.length)
theorem newA (H : Heap) : W env (.call 22 []) H (fun o H' => Ext H H' ∧ ∃ b F, o = .val (.ptr b.s 0) ∧ AtS H' b Ab.emp F 0 ∧ ∀ c, F c → H.length ≤ c ∧ c < H'.length) :=
  W.use (new7 H) fun o H' ⟨hx, b, F, hu, sh, hF⟩ => ⟨hx, b, F, hu, ⟨_, sh, SInv.emp, rfl, Nat.le_refl _, Nat.le_refl _⟩, hF⟩
theorem may_nd {n : Nat} {l : List (ByteArray × ByteArray)} {ks : List ByteArray} (h : MayP n l ks) : (l.map (·.1)).Nodup := by
  refine List.pairwise_map.2 (List.pairwise_iff_getElem.2 fun i j hi hj hij e => ?_)
  have := pairs_lt h i j _ _ hij (List.getElem?_eq_getElem hi) (List.getElem?_eq_getElem hj)
  rw [e, lt_irr] at this; cases this
def PutAQ (b : Bk) (a : Ab) (F : Nat → Prop) (m n : Nat) (l : List (ByteArray × ByteArray)) (ks : List ByteArray) (now : Int) (H : Heap) : Out → Heap → Prop := fun o H' =>
  ∃ F', o = .val (.tup [.bool (a.fresh n l), .int .i64 0]) ∧ AtS H' b (a.put n l ks now) F' (m + l.length) ∧ Frm F H H' ∧ Gro F F' H H'
theorem putA {b : Bk} {a : Ab} {F : Nat → Prop} {m : Nat} (n : Nat) (k k' : SK) (l : List (ByteArray × ByteArray)) (ks : List ByteArray) (now : Int) {H : Heap} (h : AtS H b a F m) (hn : m + l.length ≤ 8000000) (hko : KOk k' ks) (hm : MayP n l ks) (ht : TickOk now) :
    W env (.call 42 [.ptr b.s 0, .int .u64 n, .sl k (l.map eP), .sl k' (ks.map eS), .int .i64 now]) H (PutAQ b a F m n l ks now H) := by
  obtain ⟨s, sh, hi, rfl, h4, h5⟩ := h
  refine W.use (put28 b s F n k k' l ks now H sh hi (by omega) hko hm ht) fun o H' ⟨s', F', fr, hu, sh', hi', hp, hn', hfr, hg⟩ => ⟨F', ?_, ⟨s', sh', hi', hp.abs (may_nd hm), by omega, ?_⟩, hfr, hg⟩
  · rw [hu, hp.fr]
  · have := hp.vlen hi'; omega
def ComAQ (b : Bk) (a : Ab) (F : Nat → Prop) (m n : Nat) (now : Int) (H : Heap) : Out → Heap → Prop := fun o H' =>
  ∃ D : List ByteArray, D.Nodup ∧ (∀ k, k ∈ D ↔ a.has (k, n) = true) ∧ o = .val (.tup [.int .i64 D.length, .int .i64 0]) ∧ AtS H' b (a.com n now) F m ∧ Frm F H H'
theorem comA {b : Bk} {a : Ab} {F : Nat → Prop} {m : Nat} (n : Nat) (now : Int) {H : Heap} (h : AtS H b a F m) (hn : m ≤ 8000000) (hid : 65536 ≤ n) (ht : TickOk now) : W env (.call 43 [.ptr b.s 0, .int .u64 n, .int .i64 now]) H (ComAQ b a F m n now H) := by
  obtain ⟨s, sh, hi, rfl, h4, h5⟩ := h
  refine W.use (commit14 b s F n now H sh hi (by omega) hid ht) fun o H' ⟨s', hu, sh', hi', hc, hn', _, _, hfr⟩ => ⟨s.pls n, hi.pnd n, fun k => ?_, hu, ⟨s', sh', hi', hc.abs hi, by omega, ?_⟩, hfr⟩
  · rw [hi.plm]; simp [Ab.has, absS]
  · have := hc.vs.vlen hi.nd; omega
theorem byIDA {b : Bk} {a : Ab} {F : Nat → Prop} {m : Nat} (k : ByteArray) (n : Nat) {H : Heap} (h : AtS H b a F m) : W env (.call 80 [.ptr b.s 0, .str k, .int .u64 n]) H (fun o H' => Ext H H' ∧ ((a.v (k, n) = none ∧ o = .val (.tup [.agg [.str ⟨#[]⟩, .int .u64 0, .str ⟨#[]⟩, .sl .nil []], .int .i64 110])) ∨ ∃ h kk, a.v (k, n) = some h ∧ KOk kk h.keys ∧ o = .val (.tup [.agg (eVer k n h.value kk h.keys), .int .i64 0]))) := by
  obtain ⟨s, sh, hi, rfl, h4, h5⟩ := h
  refine W.use (byID12 b s F k n H sh hi) fun o H' ⟨hx, hq⟩ => ⟨hx, ?_⟩
  rcases hq with ⟨h1, hu⟩ | ⟨h, kk, h1, h2, hu⟩
  · exact .inl ⟨by simp [absS, h1], hu⟩
  · exact .inr ⟨h.vd, kk, by simp [absS, h1], h2, hu⟩
def vdOf (o : Option Vd) : Vd := o.getD ⟨⟨#[]⟩, [], 0⟩
theorem vd_hd (o : Option Hd) : (hdOf o).vd = vdOf (o.map Hd.vd) := by cases o <;> rfl
def Ab.latest (a : Ab) (k : ByteArray) : Vd := match a.l k with
  | none => vdOf none
  | some n => vdOf (a.v (k, n))
theorem latestA {b : Bk} {a : Ab} {F : Nat → Prop} {m : Nat} (k : ByteArray) {H : Heap} (h : AtS H b a F m) : W env (.call 66 [.ptr b.s 0, .str k]) H (fun o H' => Ext H H' ∧ ∃ kk, KOk kk (a.latest k).keys ∧ o = .val (.agg (eVer k (a.last k) (a.latest k).value kk (a.latest k).keys))) := by
  obtain ⟨s, sh, hi, rfl, h4, h5⟩ := h
  have e : (latest s k).vd = (absS s).latest k := by
    unfold latest Ab.latest
    simp -implicitDefEqProofs only [absS]
    cases mlook s.ls k with
    | none => rfl
    | some n => exact vd_hd _
  refine W.use (latest16 b s F k H sh hi) fun o H' ⟨hx, kk, hkk, hu⟩ => ⟨hx, kk, ?_, ?_⟩
  · rw [← e]; exact hkk
  · rw [hu, ← e]; rfl
theorem AtS.keys {H : Heap} {b : Bk} {a : Ab} {F : Nat → Prop} {n : Nat} (h : AtS H b a F n) : ∀ m, (vdOf (a.v m)).keys.length ≤ 1024 := fun m => by
  obtain ⟨s, _, hi, rfl, _⟩ := h
  simp -implicitDefEqProofs only [absS]
  cases e : mlook s.vs m with
  | none => simp [vdOf]
  | some x => exact (hi.kok m x e).2
theorem put_v (a : Ab) (n : Nat) (l : List (ByteArray × ByteArray)) (ks : List ByteArray) (now : Int) (m : Nm) : (a.put n l ks now).v m = (a.v m).or (if m.2 = n then (mlook l m.1).map fun v => ⟨v, ks, if n < a.last m.1 then now else -1⟩ else none) := by
  simp -implicitDefEqProofs only [Ab.put]
  cases a.v m <;> rfl
end Go.Proofs.YtmgldhlcapjdkaaGreat.St
end

section

end

section

end

section

end

section

end

section

end

section
namespace Go.Proofs.YtmgldhlcapjdkaaGreat.St
open Go.Rmp Go.Proofs.YtmgldhlcapjdkaaGreat.Ir
set_option maxRecDepth 10000
theorem fgt_mut {α : Type} {enc : α → List T} {n n0 : Nat} {H : Heap} {t : T} {l : List α} (h : Mut enc n n0 H t l) : fgt t = t := by
  rcases h with ⟨_, rfl⟩ | ⟨c, rfl, _⟩ <;> rfl
end Go.Proofs.YtmgldhlcapjdkaaGreat.St
end

section

end

section

end

section

end

section

end

section

end

section

end

section

end

section

end

section

end

section

end

section

end

section

end

section
namespace Go.Proofs.YtmgldhlcapjdkaaGreat.St
open Go.Rmp Go.Proofs.YtmgldhlcapjdkaaGreat.Ir
set_option maxRecDepth 10000
def fstep (h : Int) (c : UInt8) : Int := IntKind.u64.wrap (IntKind.u64.wrap ((BitVec.ofInt IntKind.u64.bits h ^^^ BitVec.ofInt IntKind.u64.bits (IntKind.u64.wrap c.toNat)).toNat : Nat) * 1099511628211)
def hashL (h : Int) (l : List UInt8) : Int := l.foldl fstep h
def hashT (s : ByteArray) : Int := hashL 14695981039346656037 s.data.toList
theorem u64_in (x : Int) : 0 ≤ IntKind.u64.wrap x ∧ IntKind.u64.wrap x < 18446744073709551616 := by
  unfold IntKind.wrap
  simp -implicitDefEqProofs only [IntKind.signed, IntKind.bits]
  simp
  omega
theorem hashL_snoc (h : Int) (l : List UInt8) (c : UInt8) : hashL h (l ++ [c]) = fstep (hashL h l) c := by simp [hashL]
theorem hashT_in (s : ByteArray) : 0 ≤ hashT s ∧ hashT s < 18446744073709551616 := by
  unfold hashT hashL
  generalize s.data.toList = l
  have key : ∀ (l : List UInt8) (h : Int), 0 ≤ h ∧ h < 18446744073709551616 → 0 ≤ l.foldl fstep h ∧ l.foldl fstep h < 18446744073709551616 := by
    intro l
    induction l with
    | nil => exact fun h hh => hh
    | cons c l ih => exact fun h _ => ih _ (u64_in _)
  exact key l _ (by decide)
theorem takeB {s : ByteArray} {i : Nat} {c : UInt8} (h : s.data[i]? = some c) : s.data.toList.take (i + 1) = s.data.toList.take i ++ [c] := by
  rw [List.take_add_one, Array.getElem?_toList, h]; rfl
theorem feed154 (h : Int) (s : ByteArray) (H : Heap) (hs : s.size < 9223372036854775807) : W env (.call 154 [.int .u64 h, .str s]) H (Ret (.int .u64 (hashL h s.data.toList)) H) := by
  refine W.fnI rfl rfl rfl ?_
  simp -implicitDefEqProofs only [ir154, op, ef, cl, sq, reduceIte, j3, j4, j5, j6, j7, j8, j9, y1, y3, S1]
  refine W.loopI (fun (i : Nat) R H' => H' = H ∧ R 0 = .int .u64 (hashL h (s.data.toList.take i)) ∧ R 1 = .str s ∧ (R 7 = .int .i64 s.size) ∧ R 8 = .int .i64 i ∧ i ≤ s.size) (fun i => s.size - i) 0 ⟨rfl, rfl, rfl, by first | rfl | trivial, rfl, Nat.zero_le _⟩ ?_
  rintro i R _ ⟨rfl, h0, h1, h7, h8, hi⟩
  by_cases hlt : i < s.size
  · obtain ⟨c, hc⟩ : ∃ c, s.data[i]? = some c := ⟨s.data[i], Array.getElem?_eq_getElem hlt⟩
    have ws := wrap_succ (show i < 9223372036854775807 by omega)
    simp -implicitDefEqProofs only [op, ef, cl, sq, reduceIte, j3, j4, j5, j6, j7, j8, j9, y1, y3, S1, h0, h1, h7, h8, hlt, natOf_nat, hc, ws]
    refine ⟨i + 1, by omega, ?_, rfl, by omega⟩
    rw [takeB hc, hashL_snoc]; rfl
  · have e : s.data.toList.take i = s.data.toList := List.take_of_length_le (by simp; exact Nat.le_of_not_lt hlt)
    simp -implicitDefEqProofs only [op, ef, cl, sq, reduceIte, j3, j4, j5, j6, j7, j8, j9, y1, y3, S1, h0, h1, h7, h8, hlt, e]
theorem begin155 (H : Heap) : W env (.call 155 []) H (Ret (.int .u64 14695981039346656037) H) := by
  refine W.fnI rfl rfl rfl ?_
  simp -implicitDefEqProofs only [ir155, op, ef, cl, sq, reduceIte, j3, j4, j5, j6, j7, j8, j9, y1, y3, S1]
theorem hash112 (s : ByteArray) (H : Heap) (hs : s.size < 9223372036854775807) : W env (.call 112 [.str s]) H (Ret (.int .u64 (hashT s)) H) := by
  refine W.fnI rfl rfl rfl ?_
  simp -implicitDefEqProofs only [ir112, op, ef, cl, sq, reduceIte, j3, j4, j5, j6, j7, j8, j9, y1, y3, S1]
  refine callB_of _ _ _ _ _ _ _ _ (begin155 _) ?_
  rintro u H1 ⟨hu, rfl⟩
  cases hu
  simp -implicitDefEqProofs only [op, ef, cl, sq, reduceIte, j3, j4, j5, j6, j7, j8, j9, y1, y3, S1]
  refine callB_of _ _ _ _ _ _ _ _ (feed154 _ s _ hs) ?_
  rintro u H1 ⟨hu, rfl⟩
  cases hu
  simp -implicitDefEqProofs only [op, ef, cl, sq, reduceIte, j3, j4, j5, j6, j7, j8, j9, y1, y3, S1, hashT]
def ofN (s : ByteArray) (p : Nat) : Nat := (hashT s).toNat % p
theorem ofN_lt (s : ByteArray) {p : Nat} (hp : 0 < p) : ofN s p < p := Nat.mod_lt _ hp
theorem of_val (s : ByteArray) {p : Nat} (h1 : 1 ≤ p) (h2 : p ≤ 64) : IntKind.i64.wrap ((hashT s).tmod (IntKind.u64.wrap (p : Int))) = (ofN s p : Int) := by
  obtain ⟨h3, h4⟩ := hashT_in s
  rw [wrapu64 (n := (p : Int)) (by omega)]
  have e : hashT s = ((hashT s).toNat : Int) := (Int.toNat_of_nonneg h3).symm
  have e2 : (hashT s).tmod (p : Int) = (ofN s p : Int) := by
    rw [e]; exact (Int.ofNat_tmod _ _).symm
  have := ofN_lt s (p := p) (by omega)
  rw [e2, wrap64 (by omega)]
theorem may69 (p : Int) (H : Heap) : W env (.call 69 [.int .i64 p]) H (Ret (.bool (decide (1 ≤ p) && decide (p ≤ 64))) H) := by
  refine W.fnI rfl rfl rfl ?_
  by_cases h : (1 : Int) ≤ p
  · simp -implicitDefEqProofs only [ir69, op, ef, cl, sq, reduceIte, j3, j4, j5, j6, j7, j8, j9, y1, y3, S1, h]
  · simp -implicitDefEqProofs only [ir69, op, ef, cl, sq, reduceIte, j3, j4, j5, j6, j7, j8, j9, y1, y3, S1, h, Bool.false_and]
theorem of70 (s : ByteArray) (p : Nat) (h1 : 1 ≤ p) (h2 : p ≤ 64) (H : Heap) (hs : s.size < 9223372036854775807) : W env (.call 70 [.str s, .int .i64 p]) H (Ret (.int .i64 (ofN s p : Nat)) H) := by
  refine W.fnI rfl rfl rfl ?_
  have nz : ¬ IntKind.u64.wrap (p : Int) = 0 := by rw [wrapu64 (by omega)]; omega
  simp -implicitDefEqProofs only [ir70, op, ef, cl, sq, reduceIte, j3, j4, j5, j6, j7, j8, j9, y1, y3, S1]
  refine callB_of _ _ _ _ _ _ _ _ (hash112 s _ hs) ?_
  rintro u H1 ⟨hu, rfl⟩
  cases hu
  simp -implicitDefEqProofs only [op, ef, cl, sq, reduceIte, j3, j4, j5, j6, j7, j8, j9, y1, y3, S1, nz, of_val s h1 h2]
def okP (p : Int) : Bool := decide (1 ≤ p) && decide (p ≤ 64)
theorem okP_t {p : Int} (h : okP p = true) : ∃ n : Nat, p = n ∧ 1 ≤ n ∧ n ≤ 64 := by
  simp [okP] at h
  exact ⟨p.toNat, by omega, by omega, by omega⟩
def ofV (s : ByteArray) (p : Int) : T := .tup [.int .i64 (if okP p then (ofN s p.toNat : Nat) else 0 : Int), .int .i64 (if okP p then 0 else 1)]
theorem of25 (s : ByteArray) (p : Int) (H : Heap) (hs : s.size < 9223372036854775807) : W env (.call 25 [.str s, .int .i64 p]) H (Ret (ofV s p) H) := by
  refine W.fnI rfl rfl rfl ?_
  simp -implicitDefEqProofs only [ir25, op, ef, cl, sq, reduceIte, j3, j4, j5, j6, j7, j8, j9, y1, y3, S1]
  refine callB_of _ _ _ _ _ _ _ _ (may69 p _) ?_
  rintro u H1 ⟨hu, rfl⟩
  have hu : u = .bool (okP p) := by cases hu; rfl
  subst hu
  cases h : okP p
  · simp -implicitDefEqProofs only [op, ef, cl, sq, reduceIte, j3, j4, j5, j6, j7, j8, j9, y1, y3, S1, ofV, h, Bool.false_eq_true]
  · obtain ⟨n, rfl, h1, h2⟩ := okP_t h
    simp -implicitDefEqProofs only [op, ef, cl, sq, reduceIte, j3, j4, j5, j6, j7, j8, j9, y1, y3, S1]
    refine callB_of _ _ _ _ _ _ _ _ (of70 s n h1 h2 _ hs) ?_
    rintro u H1 ⟨hu, rfl⟩
    cases hu
    simp -implicitDefEqProofs only [op, ef, cl, sq, reduceIte, j3, j4, j5, j6, j7, j8, j9, y1, y3, S1, ofV, h, Int.toNat_natCast]
end Go.Proofs.YtmgldhlcapjdkaaGreat.St
end

section
namespace Go.Proofs.YtmgldhlcapjdkaaGreat.St
open Go.Rmp Go.Proofs.YtmgldhlcapjdkaaGreat.Ir
set_option maxRecDepth 10000
def eB (n : Nat) : List T := [.int .u8 n]
theorem eB_len (x : Nat) : (eB x).length = 1 := rfl
theorem msB_get {xs : List Nat} {i x : Nat} (hx : xs[i]? = some x) : ldcB 1 (i * 1) (some (.cells (msC eB xs))) = some [.int .u8 x] := msC_get eB_len hx 0 1 (by decide)
theorem msB_set {xs : List Nat} {i x : Nat} (hx : xs[i]? = some x) (H : Heap) (b y : Nat) : stcB H b [.int .u8 y] (i * 1) (some (.cells (msC eB xs))) = some (H.set b (.cells (msC eB (xs.set i y)))) := msC_set (y := y) eB_len hx H b [.int .u8 y] 0 (by simp) rfl
theorem iadm1 {i n c : Nat} (h : i < n) : iadT 1 i (.msl c 0 n 1) = some (.ptr c (i * 1)) := by rw [iad_m]; simp [h]
theorem fdn (n m : Nat) : (n : Int).fdiv (2 ^ m) = ((n / 2 ^ m : Nat) : Int) := by
  rw [Int.fdiv_eq_ediv_of_nonneg _ (Int.le_of_lt (Int.pow_pos (by decide)))]
  simp
theorem and_n (w a b : Nat) (ha : a < 2 ^ w) (hb : b < 2 ^ w) : (BitVec.ofInt w (a : Int) &&& BitVec.ofInt w (b : Int)).toNat = a &&& b := by
  rw [BitVec.toNat_and, BitVec.ofInt_natCast, BitVec.ofInt_natCast, BitVec.toNat_ofNat, BitVec.toNat_ofNat, Nat.mod_eq_of_lt ha, Nat.mod_eq_of_lt hb]
theorem or_n (w a b : Nat) (ha : a < 2 ^ w) (hb : b < 2 ^ w) : (BitVec.ofInt w (a : Int) ||| BitVec.ofInt w (b : Int)).toNat = a ||| b := by
  rw [BitVec.toNat_or, BitVec.ofInt_natCast, BitVec.ofInt_natCast, BitVec.toNat_ofNat, BitVec.toNat_ofNat, Nat.mod_eq_of_lt ha, Nat.mod_eq_of_lt hb]
theorem wrap8m (n : Nat) : IntKind.u8.wrap (n : Int) = ((n % 256 : Nat) : Int) := by
  unfold IntKind.wrap
  simp -implicitDefEqProofs only [IntKind.signed, IntKind.bits]
  simp
def hN (t : ByteArray) : Nat := (hashT t).toNat
theorem hN_eq (t : ByteArray) : hashT t = (hN t : Int) := (Int.toNat_of_nonneg (hashT_in t).1).symm
theorem hN_lt (t : ByteArray) : hN t < 18446744073709551616 := by have := (hashT_in t).2; have := hN_eq t; omega
def plcAt (t : ByteArray) (i : Nat) : Nat := hN t / 4294967296 + i * (hN t % 4294967296)
def plc (t : ByteArray) (b i : Nat) : Nat := plcAt t i % b
def plcs (t : ByteArray) (b h : Nat) : List Nat := (List.range h).map (plc t b)
theorem plcs_lt {t : ByteArray} {b h p : Nat} (hb : 1 ≤ b) (hp : p ∈ plcs t b h) : p < b := by
  obtain ⟨i, _, rfl⟩ := List.mem_map.1 hp
  exact Nat.mod_lt _ hb
theorem plcs_len (t : ByteArray) (b h : Nat) : (plcs t b h).length = h := by simp [plcs]
theorem plcs_snoc (t : ByteArray) (b i : Nat) : plcs t b (i + 1) = plcs t b i ++ [plc t b i] := by simp [plcs, List.range_succ]
theorem hi_val (t : ByteArray) : (hashT t).fdiv (2 ^ (min (32 : Int).toNat IntKind.u64.bits)) = ((hN t / 4294967296 : Nat) : Int) := by
  rw [hN_eq]; exact fdn _ 32
theorem lo_val (t : ByteArray) : IntKind.u64.wrap ((BitVec.ofInt IntKind.u64.bits (hashT t) &&& BitVec.ofInt IntKind.u64.bits 4294967295).toNat : Nat) = ((hN t % 4294967296 : Nat) : Int) := by
  have h := hN_lt t
  have e := and_n 64 (hN t) 4294967295 h (by decide)
  have e2 : hN t &&& 4294967295 = hN t % 4294967296 := Nat.and_two_pow_sub_one_eq_mod (hN t) 32
  rw [e2] at e
  rw [hN_eq]
  have e3 : (BitVec.ofInt IntKind.u64.bits (hN t : Int) &&& BitVec.ofInt IntKind.u64.bits 4294967295).toNat = hN t % 4294967296 := e
  rw [e3, wrapu64 (by omega)]
theorem plcAt_lt (t : ByteArray) {i : Nat} (hi : i ≤ 16) : plcAt t i < 73014444032 := by
  have h := hN_lt t
  unfold plcAt
  have h2 : i * (hN t % 4294967296) ≤ 16 * 4294967295 := Nat.mul_le_mul hi (by omega)
  omega
theorem plc_val (t : ByteArray) {i b : Nat} (hi : i ≤ 16) (h1 : 1 ≤ b) (h2 : b ≤ 65536) : IntKind.i64.wrap ((plcAt t i : Int).tmod (IntKind.u64.wrap (b : Int))) = (plc t b i : Int) := by
  rw [wrapu64 (n := (b : Int)) (by omega)]
  have e : (plcAt t i : Int).tmod (b : Int) = (plc t b i : Int) := (Int.ofNat_tmod _ _).symm
  have := Nat.mod_lt (plcAt t i) h1
  have e3 : plc t b i = plcAt t i % b := rfl
  rw [e, wrap64 (by omega)]
def shOk (b h : Int) : Bool := decide (1 ≤ b) && decide (b ≤ 65536) && decide (1 ≤ h) && decide (h ≤ 16)
theorem shOk_t {b h : Int} (k : shOk b h = true) : ∃ m n : Nat, b = m ∧ h = n ∧ 1 ≤ m ∧ m ≤ 65536 ∧ 1 ≤ n ∧ n ≤ 16 := by
  simp [shOk] at k
  exact ⟨b.toNat, h.toNat, by omega, by omega, by omega, by omega, by omega, by omega⟩
theorem may96 (b h : Int) (H : Heap) : W env (.call 96 [.agg [.int .i64 b, .int .i64 h]]) H (fun o H' => o = .val (.bool (shOk b h)) ∧ Ext H H') := by
  refine W.fnI rfl rfl rfl ?_
  unfold shOk
  by_cases h1 : (1 : Int) ≤ b
  rotate_left
  · simp -implicitDefEqProofs only [ir96, op, ef, cl, sq, reduceIte, j3, j4, j5, j6, j7, j8, j9, y1, y3, S1, S2, h1, Bool.false_and]
    exact Ext.rfl'.app _
  by_cases h2 : b ≤ 65536
  rotate_left
  · simp -implicitDefEqProofs only [ir96, op, ef, cl, sq, reduceIte, j3, j4, j5, j6, j7, j8, j9, y1, y3, S1, S2, h1, h2, Bool.false_and]
    exact Ext.rfl'.app _
  by_cases h3 : (1 : Int) ≤ h
  · simp -implicitDefEqProofs only [ir96, op, ef, cl, sq, reduceIte, j3, j4, j5, j6, j7, j8, j9, y1, y3, S1, S2, h1, h2, h3]
    exact Ext.rfl'.app _
  · simp -implicitDefEqProofs only [ir96, op, ef, cl, sq, reduceIte, j3, j4, j5, j6, j7, j8, j9, y1, y3, S1, S2, h1, h2, h3, Bool.false_and]
    exact Ext.rfl'.app _
theorem sz_val {b : Nat} (h : b < 1099511627776) : IntKind.i64.wrap ((IntKind.i64.wrap ((b : Int) + 7)).tdiv 8) = (((b + 7) / 8 : Nat) : Int) := by
  rw [wrap64 (n := (b : Int) + 7) (by omega)]
  have e : ((b : Int) + 7).tdiv 8 = (((b + 7) / 8 : Nat) : Int) := by
    rw [Int.tdiv_eq_ediv_of_nonneg (by omega)]; omega
  rw [e, wrap64 (by omega)]
theorem size97 (b : Nat) (h : Int) (hb : b < 1099511627776) (H : Heap) : W env (.call 97 [.agg [.int .i64 b, .int .i64 h]]) H (fun o H' => o = .val (.int .i64 ((b + 7) / 8 : Nat)) ∧ Ext H H') := by
  refine W.fnI rfl rfl rfl ?_
  have e := sz_val hb
  simp -implicitDefEqProofs only [ir97, op, ef, cl, sq, reduceIte, j3, j4, j5, j6, j7, j8, j9, y1, y3, S1, S2, e]
  exact Ext.rfl'.app _
theorem places99 (t : ByteArray) (b h : Nat) (b1 : 1 ≤ b) (b2 : b ≤ 65536) (h2 : h ≤ 16) (H : Heap) (ht : t.size < 9223372036854775807) : W env (.call 99 [.agg [.int .i64 b, .int .i64 h], .str t]) H (fun o H' => Ext H H' ∧ ∃ k, o = .val (.sl k ((plcs t b h).map eI))) := by
  refine W.fnI rfl rfl rfl ?_
  obtain ⟨H1, hH1⟩ : ∃ H1, H1 = H ++ [B.cells [T.int .i64 (b : Int), T.int .i64 (h : Int)]] := ⟨_, rfl⟩
  have hx1 : Ext H H1 := ⟨_, hH1⟩
  have c1 : H1[H.length]? = some (.cells [T.int .i64 (b : Int), T.int .i64 (h : Int)]) := by rw [hH1]; exact g_tail rfl
  simp -implicitDefEqProofs only [ir99, op, ef, cl, sq, reduceIte, j3, j4, j5, j6, j7, j8, j9, y1, y3, S1]
  rw [← hH1]
  refine callB_of _ _ _ _ _ _ _ _ (hash112 t _ ht) ?_
  rintro u H1 ⟨hu, rfl⟩
  cases hu
  have hi := hi_val t
  have lo := lo_val t
  simp -implicitDefEqProofs only [op, ef, cl, sq, reduceIte, j3, j4, j5, j6, j7, j8, j9, y1, y3, S1, c1, hi, lo]
  refine W.loopV [(2, _), (7, _), (16, _)] (fun (i : Nat) R H' => At H' (fun H' => ∃ k, R 8 = .sl k ((plcs t b i).map eI) ∧ Ext H1 H' ∧ Apd H1.length H' k) ∧ R 6 = .int .u64 (plcAt t i : Nat) ∧ R 17 = .int .i64 i ∧ i ≤ h) (fun i => h - i) 0 ⟨.i ⟨.nil, rfl, Ext.rfl', apd_nil _ _⟩, by show T.int .u64 _ = _; simp [plcAt], rfl, Nat.zero_le _⟩ ?_
  rintro i R H2 ⟨⟨k, g8, hx2, hap⟩, g6, g17, hle⟩
  have c2 := hx2.get c1
  by_cases hlt : i < h
  rotate_left
  · have hie : i = h := by omega
    subst hie
    simp -implicitDefEqProofs only [mkR_nil, mkR_cons, op, ef, cl, sq, reduceIte, j3, j4, j5, j6, j7, j8, j9, y1, y3, S1, g8, g17, hlt]
    exact ⟨hx1.trans hx2, k, rfl⟩
  have ws := wrap_succ (show i < 9223372036854775807 by omega)
  have pv := plc_val t (i := i) (by omega) b1 b2
  have nz : ¬ IntKind.u64.wrap (b : Int) = 0 := by rw [wrapu64 (by omega)]; omega
  have pl := plcAt_lt t (i := i + 1) (by omega)
  have e2 : plcAt t (i + 1) = plcAt t i + hN t % 4294967296 := by unfold plcAt; rw [Nat.add_mul]; omega
  have wsu : IntKind.u64.wrap ((plcAt t i : Int) + ((hN t % 4294967296 : Nat) : Int)) = ((plcAt t (i + 1) : Nat) : Int) := by
    rw [wrapu64 (by omega), e2]; simp
  have hall := all_map (enc := eI) (n := 1) (fun _ => rfl) (plcs t b i)
  obtain ⟨k', H3, ha, hap', hst'⟩ := app_ok (bytes := 8) ((plcs t b i).map eI) [[T.int .i64 (plc t b i : Nat)]] hap hx2.len (by simp) (roomT (by rw [List.length_map, plcs_len]; simp -implicitDefEqProofs only [List.length_cons, List.length_nil]; omega))
  have c3 := hst'.cells hap c2 (by simp)
  simp -implicitDefEqProofs only [op, ef, cl, sq, reduceIte, j3, j4, j5, j6, j7, j8, j9, y1, y3, S1] at ha
  simp -implicitDefEqProofs only [mkR_nil, mkR_cons, op, ef, cl, sq, reduceIte, j3, j4, j5, j6, j7, j8, j9, y1, y3, S1, g8, g17, g6, hlt, c2, c3, nz, pv, hall, ha, ws, wsu]
  refine ⟨i + 1, by omega, .i ⟨k', ?_, hst'.ext H1 (Nat.le_refl _) hx2, hap'⟩, rfl, rfl, hlt⟩
  rw [plcs_snoc, List.map_append]; rfl
end Go.Proofs.YtmgldhlcapjdkaaGreat.St
end

section
namespace Go.Proofs.YtmgldhlcapjdkaaGreat.St
open Go.Rmp Go.Proofs.YtmgldhlcapjdkaaGreat.Ir
set_option maxRecDepth 10000
def byteS (S : Nat → Bool) (j : Nat) : Nat := bitsN (fun i => S (8 * j + i)) 8
def bytS (S : Nat → Bool) (b : Nat) : List Nat := (List.range ((b + 7) / 8)).map (byteS S)
def addP (S : Nat → Bool) (p : Nat) : Nat → Bool := fun q => S q || decide (q = p)
def addPs (S : Nat → Bool) (l : List Nat) : Nat → Bool := fun q => S q || l.contains q
theorem byteS_lt (S : Nat → Bool) (j : Nat) : byteS S j < 256 := bitsN_lt _ 8
theorem bytS_len (S : Nat → Bool) (b : Nat) : (bytS S b).length = (b + 7) / 8 := by simp [bytS]
theorem bytS_at (S : Nat → Bool) {b j : Nat} (h : j < (b + 7) / 8) : (bytS S b)[j]? = some (byteS S j) := by simp [bytS, h]
theorem bytS_lt {S : Nat → Bool} {b x : Nat} (h : x ∈ bytS S b) : x < 256 := by
  obtain ⟨j, _, rfl⟩ := List.mem_map.1 h; exact byteS_lt _ _
theorem bytS_zero (b : Nat) : bytS (fun _ => false) b = List.replicate ((b + 7) / 8) 0 := by
  refine List.ext_getElem (by simp [bytS]) fun i h1 h2 => ?_
  simp [bytS, byteS, bitsN]
theorem bytS_set (S : Nat → Bool) (p b : Nat) : (bytS S b).set (p / 8) (byteS S (p / 8) ||| 2 ^ (p % 8)) = bytS (addP S p) b := by
  refine List.ext_getElem (by simp [bytS]) fun i h1 h2 => ?_
  rw [List.getElem_set]
  simp -implicitDefEqProofs only [bytS, List.getElem_map, List.getElem_range]
  split
  · rename_i e; subst e
    unfold byteS
    rw [bitsN_or (Nat.mod_lt _ (by decide))]
    refine bitsN_ext fun j hj => ?_
    simp -implicitDefEqProofs only [addP]
    congr 1
    simp -implicitDefEqProofs only [decide_eq_decide]; omega
  · rename_i e
    refine bitsN_ext fun j hj => ?_
    have : ¬ 8 * i + j = p := by omega
    simp -implicitDefEqProofs only [addP, this, decide_false, Bool.or_false]
theorem addPs_nil (S : Nat → Bool) : addPs S [] = S := by funext q; simp [addPs]
theorem addPs_snoc (S : Nat → Bool) (l : List Nat) (p : Nat) : addPs S (l ++ [p]) = addP (addPs S l) p := by
  funext q; simp [addPs, addP, Bool.or_assoc]
theorem or_val {x p : Nat} (hx : x < 256) : IntKind.u8.wrap ((BitVec.ofInt IntKind.u8.bits (x : Int) ||| BitVec.ofInt IntKind.u8.bits (IntKind.u8.wrap (1 * 2 ^ (min ((p : Int).tmod 8).toNat IntKind.u8.bits)))).toNat : Nat) = ((x ||| 2 ^ (p % 8) : Nat) : Int) := by
  have e1 : ((p : Int).tmod 8).toNat = p % 8 := by
    rw [show ((p : Int).tmod 8) = ((p % 8 : Nat) : Int) from (Int.ofNat_tmod p 8).symm]; exact Int.toNat_natCast _
  have hm : p % 8 < 8 := Nat.mod_lt _ (by decide)
  have e2 : min (p % 8) IntKind.u8.bits = p % 8 := Nat.min_eq_left (Nat.le_of_lt hm)
  have hp : 2 ^ (p % 8) < 256 := Nat.pow_lt_pow_right (by decide) hm
  have e3 : (1 * 2 ^ (p % 8) : Int) = ((2 ^ (p % 8) : Nat) : Int) := by rw [Int.one_mul]; simp
  rw [e1, e2, e3, wrap8 hp]
  have e4 := or_n 8 x (2 ^ (p % 8)) hx hp
  have e5 : (BitVec.ofInt IntKind.u8.bits (x : Int) ||| BitVec.ofInt IntKind.u8.bits ((2 ^ (p % 8) : Nat) : Int)).toNat = x ||| 2 ^ (p % 8) := e4
  rw [e5, wrap8 (Nat.or_lt_two_pow (n := 8) hx hp)]
theorem bit_val {x p : Nat} (hx : x < 256) : (IntKind.u8.wrap ((BitVec.ofInt IntKind.u8.bits ((x : Int).fdiv (2 ^ (min ((p : Int).tmod 8).toNat IntKind.u8.bits))) &&& BitVec.ofInt IntKind.u8.bits 1).toNat : Nat)) = (if x.testBit (p % 8) then 1 else 0 : Int) := by
  have e1 : ((p : Int).tmod 8).toNat = p % 8 := by
    rw [show ((p : Int).tmod 8) = ((p % 8 : Nat) : Int) from (Int.ofNat_tmod p 8).symm]; exact Int.toNat_natCast _
  have hm : p % 8 < 8 := Nat.mod_lt _ (by decide)
  have e2 : min (p % 8) IntKind.u8.bits = p % 8 := Nat.min_eq_left (Nat.le_of_lt hm)
  rw [e1, e2, fdn]
  have hd : x / 2 ^ (p % 8) < 2 ^ 8 := Nat.lt_of_le_of_lt (Nat.div_le_self _ _) hx
  have e4 := and_n 8 (x / 2 ^ (p % 8)) 1 hd (by decide)
  have e5 : (BitVec.ofInt IntKind.u8.bits ((x / 2 ^ (p % 8) : Nat) : Int) &&& BitVec.ofInt IntKind.u8.bits 1).toNat = x / 2 ^ (p % 8) &&& 1 := e4
  have e6 : x / 2 ^ (p % 8) &&& 1 = x / 2 ^ (p % 8) % 2 := Nat.and_one_is_mod _
  rw [e5, e6]
  have e7 : x.testBit (p % 8) = decide (x / 2 ^ (p % 8) % 2 = 1) := Nat.testBit_eq_decide_div_mod_eq
  rw [wrap8 (by omega), e7]
  by_cases h : x / 2 ^ (p % 8) % 2 = 1
  · simp [h]
  · have : x / 2 ^ (p % 8) % 2 = 0 := by omega
    simp [this]
theorem byteS_bit (S : Nat → Bool) (p : Nat) : (byteS S (p / 8)).testBit (p % 8) = S p := by
  have hm : p % 8 < 8 := Nat.mod_lt _ (by decide)
  have e : 8 * (p / 8) + p % 8 = p := Nat.div_add_mod p 8
  rw [byteS, bitsN_bit, e]
  simp [hm]
theorem rem8 (p : Nat) : ¬ ((p : Int).tmod 8 < 0) := by
  rw [show ((p : Int).tmod 8) = ((p % 8 : Nat) : Int) from (Int.ofNat_tmod p 8).symm]; omega
theorem quo8 {p : Nat} (h : p < 1099511627776) : IntKind.i64.wrap ((p : Int).tdiv 8) = ((p / 8 : Nat) : Int) := by
  have e : (p : Int).tdiv 8 = ((p / 8 : Nat) : Int) := (Int.ofNat_tdiv p 8).symm
  rw [e, wrap64 (by omega)]
structure PF (H : Heap) (bf w b h : Nat) (S : Nat → Bool) : Prop where
  hb : H[bf]? = some (.cells [.int .i64 b, .int .i64 h, .msl w 0 ((b + 7) / 8) 1])
  hw : H[w]? = some (.cells (msC eB (bytS S b)))
theorem PF.ext {H H' : Heap} {bf w b h : Nat} {S : Nat → Bool} (k : PF H bf w b h S) (hx : Ext H H') : PF H' bf w b h S := ⟨hx.get k.hb, hx.get k.hw⟩
theorem bnew44 (b h : Int) (H : Heap) : W env (.call 44 [.int .i64 b, .int .i64 h]) H (fun o H' => Ext H H' ∧ ((shOk b h = false ∧ o = .val (.tup [.nilp, .int .i64 1])) ∨ (shOk b h = true ∧ ∃ bf w, o = .val (.tup [.ptr bf 0, .int .i64 0]) ∧ H.length ≤ bf ∧ H.length ≤ w ∧ w ≠ bf ∧ ∀ m n : Nat, b = m → h = n → PF H' bf w m n fun _ => false))) := by
  refine W.fnI rfl rfl rfl ?_
  simp -implicitDefEqProofs only [ir44, op, ef, cl, sq, reduceIte, j3, j4, j5, j6, j7, j8, j9, y1, y3, S1, S2]
  obtain ⟨H1, hH1⟩ : ∃ H1, H1 = H ++ [B.cells [T.int .i64 b, T.int .i64 h]] := ⟨_, rfl⟩
  have hx1 : Ext H H1 := ⟨_, hH1⟩
  have c1 : H1[H.length]? = some (.cells [T.int .i64 b, T.int .i64 h]) := by rw [hH1]; exact g_tail rfl
  rw [← hH1]
  refine callB_of _ _ _ _ _ _ _ _ (may96 b h _) ?_
  rintro u H2 ⟨hu, hx2⟩
  cases hu
  have hx2 : Ext H1 H2 := hx2
  have c2 := hx2.get c1
  cases hs : shOk b h
  · simp -implicitDefEqProofs only [op, ef, cl, sq, reduceIte, j3, j4, j5, j6, j7, j8, j9, y1, y3, S1, c1, c2]
    exact ⟨hx1.trans hx2, .inl trivial⟩
  obtain ⟨m, n, rfl, rfl, m1, m2, n1, n2⟩ := shOk_t hs
  simp -implicitDefEqProofs only [op, ef, cl, sq, reduceIte, j3, j4, j5, j6, j7, j8, j9, y1, y3, S1, c1, c2]
  refine callB_of _ _ _ _ _ _ _ _ (size97 m n (by omega) _) ?_
  rintro u H3 ⟨hu, hx3⟩
  cases hu
  have hx3 : Ext H2 H3 := hx3
  have c3 := hx3.get c2
  have l3 := glt c3
  have q1 : (m + 7) / 8 * 1 ≤ 281474976710656 := by omega
  have q2 : (m + 7) / 8 ≤ 9223372036854775807 := by omega
  have hx := (hx1.trans hx2).trans hx3
  simp -implicitDefEqProofs only [op, ef, cl, sq, reduceIte, j3, j4, j5, j6, j7, j8, j9, y1, y3, S1, S2, S3, c1, c2, c3, l3, natOf_nat, q1, q2, Nat.le_refl]
  refine ⟨(hx.app _).app _, .inr ⟨_, _, rfl, by have := hx.len; omega, hx.len, by omega, fun m' n' em en => ?_⟩⟩
  have em : m = m' := by omega
  have en : n = n' := by omega
  subst em; subst en
  refine ⟨?_, ?_⟩
  · rw [g_tail (by simp)]
  · rw [g_app (by simp), g_tail rfl, bytS_zero]
    congr 2
    exact msC_rep (enc := eB) _ 0
theorem badd47 {H : Heap} {bf w b h : Nat} {S : Nat → Bool} (hf : PF H bf w b h S) (b1 : 1 ≤ b) (b2 : b ≤ 65536) (h2 : h ≤ 16) (t : ByteArray) (ht : t.size < 9223372036854775807) (hne : w ≠ bf) : W env (.call 47 [.ptr bf 0, .str t]) H (fun o H' => o = .val (.tup []) ∧ PF H' bf w b h (addPs S (plcs t b h)) ∧ Frm (fun c => c = w) H H') := by
  have l0 := glt hf.hb
  have lw := glt hf.hw
  refine W.fnI rfl rfl rfl ?_
  simp -implicitDefEqProofs only [ir47, op, ef, cl, sq, reduceIte, j3, j4, j5, j6, j7, j8, j9, y1, y3, S1, hf.hb]
  refine callB_of _ _ _ _ _ _ _ _ (places99 t b h b1 b2 h2 _ ht) ?_
  rintro u H1 ⟨hx, k, hu⟩
  cases hu
  have hx : Ext H H1 := hx
  have c1 := hx.get hf.hb
  simp -implicitDefEqProofs only [op, ef, cl, sq, reduceIte, j3, j4, j5, j6, j7, j8, j9, y1, y3, S1, c1]
  refine W.loopV [(0, _), (11, _), (12, _)] (fun (i : Nat) R H' => At H' (fun H' => PF H' bf w b h (addPs S ((plcs t b h).take i)) ∧ Frm (fun c => c = w) H H') ∧ R 13 = .int .i64 i ∧ i ≤ (plcs t b h).length) (fun i => (plcs t b h).length - i) 0 ⟨.i ⟨by rw [List.take_zero, addPs_nil]; exact hf.ext hx, ext_frm hx⟩, rfl, Nat.zero_le _⟩ ?_
  rintro i R H2 ⟨⟨hp, hfr⟩, g13, hi⟩
  by_cases hlt : i < (plcs t b h).length
  rotate_left
  · have hie : i = (plcs t b h).length := by omega
    subst hie
    rw [List.take_length] at hp
    simp -implicitDefEqProofs only [mkR_nil, mkR_cons, op, ef, cl, sq, reduceIte, j3, j4, j5, j6, j7, j8, j9, y1, y3, S1, List.length_map, g13, hlt]
    exact ⟨rfl, hp, hfr⟩
  obtain ⟨p, hpx⟩ := getP hlt
  have hpb := plcs_lt (h := h) (t := t) b1 (List.mem_of_getElem? hpx)
  have ix := iadX (e := eI) (n := 1) (fun _ => rfl) (by decide) (k := k) hpx
  have wsi := wrap_succ (show i < 9223372036854775807 by have := plcs_len t b h; omega)
  have q8 := quo8 (p := p) (by omega)
  have hj : p / 8 < (b + 7) / 8 := by omega
  have im := iadm1 (c := w) hj
  have hg := bytS_at (addPs S ((plcs t b h).take i)) hj
  have gg := msB_get hg
  have ss := fun (Hx : Heap) y => msB_set hg Hx w y
  have ov := or_val (p := p) (byteS_lt (addPs S ((plcs t b h).take i)) (p / 8))
  have hb2 := hp.hb
  have hw2 := hp.hw
  have lw2 := glt hw2
  have ci : ∀ Hx, ldc Hx 1 (.iptr (eI p)) = some [.int .i64 p] := fun _ => rfl
  simp -implicitDefEqProofs only [mkR_nil, mkR_cons, op, ef, cl, sq, reduceIte, j3, j4, j5, j6, j7, j8, j9, y1, y3, S1, List.length_map, g13, hlt, natOf_nat, ix, ci, hb2, hw2, im, gg, q8, rem8, ov, ss, wsi]
  refine ⟨i + 1, by omega, .i ⟨⟨?_, ?_⟩, hfr.set (.inl rfl) _⟩, rfl, hlt⟩
  · rw [g_ne hne]; exact hb2
  · rw [g_eq lw2, bytS_set, List.take_add_one, hpx]
    show _ = some (B.cells (msC eB (bytS (addPs S ((plcs t b h).take i ++ [p])) b)))
    rw [addPs_snoc]
end Go.Proofs.YtmgldhlcapjdkaaGreat.St
end

section
namespace Go.Proofs.YtmgldhlcapjdkaaGreat.St
open Go.Rmp Go.Proofs.YtmgldhlcapjdkaaGreat.Ir
set_option maxRecDepth 10000
theorem elems_all {α : Type} {enc : α → List T} {n : Nat} (hn : ∀ x, (enc x).length = n) {H : Heap} {b : Nat} {xs : List α} (hb : H[b]? = some (.cells (msC enc xs))) {m : Nat} (hm : m = xs.length) : elemsOf H n (.msl b 0 m n) = some (xs.map enc) := by
  subst hm
  have h := (elemsK_ms hn hb 0 xs.length xs.length 0 (by omega)).1
  rw [Nat.zero_mul, List.drop_zero, List.take_length] at h
  exact h
def hdr (b h : Nat) : List Nat := [b / 16777216 % 256, b / 65536 % 256, b / 256 % 256, b % 256, h % 256]
def filB (b h : Nat) (S : Nat → Bool) : List Nat := hdr b h ++ bytS S b
theorem sh8 (n m : Nat) : IntKind.u8.wrap ((n : Int).fdiv (2 ^ m)) = ((n / 2 ^ m % 256 : Nat) : Int) := by rw [fdn, wrap8m]
theorem h24 (n : Nat) : IntKind.u8.wrap ((n : Int).fdiv (2 ^ (min (24 : Int).toNat IntKind.i64.bits))) = ((n / 16777216 % 256 : Nat) : Int) := sh8 n 24
theorem h16 (n : Nat) : IntKind.u8.wrap ((n : Int).fdiv (2 ^ (min (16 : Int).toNat IntKind.i64.bits))) = ((n / 65536 % 256 : Nat) : Int) := sh8 n 16
theorem h08 (n : Nat) : IntKind.u8.wrap ((n : Int).fdiv (2 ^ (min (8 : Int).toNat IntKind.i64.bits))) = ((n / 256 % 256 : Nat) : Int) := sh8 n 8
theorem app_full {H : Heap} {bytes : Nat} (es new : List (List T)) (hr : roomOk (es.length + new.length) bytes = true) (he : ∀ c ∈ new, c.map T.erase = c) : ∃ k' H', appT H bytes .full es new = some (.sl k' (es ++ new), H') ∧ Ext H H' ∧ k' ≠ .nil := by
  cases new with
  | nil => exact ⟨.full, H, by simp [appT], Ext.rfl', by simp⟩
  | cons c new =>
    refine ⟨.own H.length (es.length + (c :: new).length), H ++ [.tok (es.length + (c :: new).length)], ?_, Ext.rfl'.app _, by simp⟩
    unfold appT
    simp -implicitDefEqProofs only [hr, if_true]
    have e : (c :: new).map (fun x => x.map T.erase) = c :: new := (List.map_congr_left he).trans (List.map_id _)
    rw [e]
theorem eB_erase {l : List Nat} : ∀ c ∈ l.map eB, c.map T.erase = c := fun c hc => by
  obtain ⟨x, _, rfl⟩ := List.mem_map.1 hc; rfl
theorem bbytes48 {H : Heap} {bf w b h : Nat} {S : Nat → Bool} (hf : PF H bf w b h S) (b2 : b ≤ 65536) : W env (.call 48 [.ptr bf 0]) H (fun o H' => Ext H H' ∧ ∃ k, k ≠ .nil ∧ o = .val (.sl k ((filB b h S).map eB))) := by
  refine W.fnI rfl rfl rfl ?_
  have hel := elems_all eB_len hf.hw (bytS_len S b).symm
  obtain ⟨k', H1, ha, hx, hk⟩ := app_full (H := H) (bytes := 1) ((hdr b h).map eB) ((bytS S b).map eB) (roomT (by simp -implicitDefEqProofs only [List.length_map, bytS_len, hdr, List.length_cons, List.length_nil]; omega)) eB_erase
  have ha2 : appT H 1 .full [[T.int .u8 ((b / 16777216 % 256 : Nat) : Int)], [T.int .u8 ((b / 65536 % 256 : Nat) : Int)], [T.int .u8 ((b / 256 % 256 : Nat) : Int)], [T.int .u8 ((b % 256 : Nat) : Int)], [T.int .u8 ((h % 256 : Nat) : Int)]] ((bytS S b).map eB) = some (.sl k' ((hdr b h).map eB ++ (bytS S b).map eB), H1) := ha
  simp -implicitDefEqProofs only [ir48, op, ef, cl, sq, reduceIte, j3, j4, j5, j6, j7, j8, j9, y1, y3, S1, hf.hb, h24, h16, h08, wrap8m, hel, ha2]
  refine ⟨hx, k', hk, ?_⟩
  rw [filB, List.map_append]
end Go.Proofs.YtmgldhlcapjdkaaGreat.St
end

section
namespace Go.Proofs.YtmgldhlcapjdkaaGreat.St
open Go.Rmp Go.Proofs.YtmgldhlcapjdkaaGreat.Ir
set_option maxRecDepth 10000
def upTo (l : List ByteArray) (i : Nat) : Prop := ∀ j a b, j + 1 < i → l[j]? = some a → l[j + 1]? = some b → strLt a b = true
theorem upTo_all {l : List ByteArray} {i : Nat} (h : upTo l i) (hi : l.length ≤ i) : rises l = true := (rises_iff l).2 fun j a b ha hb => h j a b (by have := (List.getElem?_eq_some_iff.1 hb).1; omega) ha hb
theorem upTo_no {l : List ByteArray} {i : Nat} {x y : ByteArray} (h0 : 0 < i) (hx : l[i]? = some x) (hy : l[i - 1]? = some y) (h : strLt y x = false) : rises l = false := by
  cases e : rises l with
  | false => rfl
  | true =>
    have := (rises_iff l).1 e (i - 1) y x hy (by rw [show i - 1 + 1 = i by omega]; exact hx)
    rw [h] at this; cases this
theorem upTo_succ {l : List ByteArray} {i : Nat} {x y : ByteArray} (hu : upTo l i) (h0 : 0 < i) (hx : l[i]? = some x) (hy : l[i - 1]? = some y) (h : strLt y x = true) : upTo l (i + 1) := fun j a b hj ha hb => by
  by_cases e : j + 1 = i
  · have e2 : j = i - 1 := by omega
    subst e2
    rw [hy] at ha; rw [show i - 1 + 1 = i by omega, hx] at hb
    cases ha; cases hb; exact h
  · exact hu j a b (by omega) ha hb
theorem rise109 (k : SK) (l : List ByteArray) (H : Heap) (hl : l.length < 4611686018427387903) : W env (.call 109 [.sl k (l.map eS)]) H (Ret (.bool (rises l)) H) := by
  refine W.fnI rfl rfl rfl ?_
  simp -implicitDefEqProofs only [ir109, op, ef, cl, sq, reduceIte, j3, j4, j5, j6, j7, j8, j9, y1, y3, S1, List.length_map]
  refine W.loopV [(0, _)] (fun (i : Nat) R H' => H' = H ∧ R 3 = .int .i64 i ∧ 1 ≤ i ∧ (i ≤ l.length ∨ i = 1) ∧ upTo l i) (fun i => l.length - i) 1 ⟨rfl, rfl, Nat.le_refl _, .inr rfl, fun j a b h => by omega⟩ ?_
  rintro i R H' ⟨rfl, g3, i1, hi, hu⟩
  by_cases hlt : i < l.length
  rotate_left
  · have hr := upTo_all hu (by omega)
    by_cases h1 : 1 ≤ l.length <;> by_cases h2 : l.length ≤ 1024 <;> simp -implicitDefEqProofs only [mkR_nil, mkR_cons, op, ef, cl, sq, reduceIte, j3, j4, j5, j6, j7, j8, j9, y1, y3, S1, List.length_map, g3, hlt, hr, h1, h2, Bool.false_and]
  obtain ⟨x, hx⟩ := getP hlt
  obtain ⟨y, hy⟩ := getP (l := l) (i := i - 1) (by omega)
  have wp := wrap_pred (show i < 9223372036854775807 by omega) (show 0 < i by omega)
  have ws := wrap_succ (show i < 9223372036854775807 by omega)
  have ix := iadX (e := eS) (n := 1) (fun _ => rfl) (by decide) (k := k) hx
  have iy := iadX (e := eS) (n := 1) (fun _ => rfl) (by decide) (k := k) hy
  cases hc : strLt y x
  · have hr := upTo_no (by omega) hx hy hc
    simp -implicitDefEqProofs only [mkR_nil, mkR_cons, op, ef, cl, sq, reduceIte, j3, j4, j5, j6, j7, j8, j9, y1, y3, S1, List.length_map, g3, hlt, natOf_nat, wp, ix, iy, eS, hc, hr, Bool.false_and]
  · simp -implicitDefEqProofs only [mkR_nil, mkR_cons, op, ef, cl, sq, reduceIte, j3, j4, j5, j6, j7, j8, j9, y1, y3, S1, List.length_map, g3, hlt, natOf_nat, wp, ix, iy, eS, hc, ws]
    exact ⟨i + 1, by omega, rfl, by omega, .inl hlt, upTo_succ hu (by omega) hx hy hc⟩
theorem rise45 (k : SK) (l : List ByteArray) (H : Heap) (hl : l.length < 4611686018427387903) : W env (.call 45 [.sl k (l.map eS)]) H (Ret (.bool (rises l && decide (1 ≤ l.length) && decide (l.length ≤ 1024))) H) := by
  refine W.fnI rfl rfl rfl ?_
  simp -implicitDefEqProofs only [ir45, op, ef, cl, sq, reduceIte, j3, j4, j5, j6, j7, j8, j9, y1, y3, S1, List.length_map]
  refine W.loopV [(0, _)] (fun (i : Nat) R H' => H' = H ∧ R 3 = .int .i64 i ∧ 1 ≤ i ∧ (i ≤ l.length ∨ i = 1) ∧ upTo l i) (fun i => l.length - i) 1 ⟨rfl, rfl, Nat.le_refl _, .inr rfl, fun j a b h => by omega⟩ ?_
  rintro i R H' ⟨rfl, g3, i1, hi, hu⟩
  by_cases hlt : i < l.length
  rotate_left
  · have hr := upTo_all hu (by omega)
    by_cases h1 : 1 ≤ l.length <;> by_cases h2 : l.length ≤ 1024 <;> simp -implicitDefEqProofs only [mkR_nil, mkR_cons, op, ef, cl, sq, reduceIte, j3, j4, j5, j6, j7, j8, j9, y1, y3, S1, List.length_map, g3, hlt, hr, h1, h2, Bool.false_and]
  obtain ⟨x, hx⟩ := getP hlt
  obtain ⟨y, hy⟩ := getP (l := l) (i := i - 1) (by omega)
  have wp := wrap_pred (show i < 9223372036854775807 by omega) (show 0 < i by omega)
  have ws := wrap_succ (show i < 9223372036854775807 by omega)
  have ix := iadX (e := eS) (n := 1) (fun _ => rfl) (by decide) (k := k) hx
  have iy := iadX (e := eS) (n := 1) (fun _ => rfl) (by decide) (k := k) hy
  cases hc : strLt y x
  · have hr := upTo_no (by omega) hx hy hc
    simp -implicitDefEqProofs only [mkR_nil, mkR_cons, op, ef, cl, sq, reduceIte, j3, j4, j5, j6, j7, j8, j9, y1, y3, S1, List.length_map, g3, hlt, natOf_nat, wp, ix, iy, eS, hc, hr, Bool.false_and]
  · simp -implicitDefEqProofs only [mkR_nil, mkR_cons, op, ef, cl, sq, reduceIte, j3, j4, j5, j6, j7, j8, j9, y1, y3, S1, List.length_map, g3, hlt, natOf_nat, wp, ix, iy, eS, hc, ws]
    exact ⟨i + 1, by omega, rfl, by omega, .inl hlt, upTo_succ hu (by omega) hx hy hc⟩
theorem memB_take {l : List ByteArray} {x y : ByteArray} {i : Nat} (hy : l[i]? = some y) : memB (l.take (i + 1)) x = (memB (l.take i) x || decide (y = x)) := by
  rw [List.take_add_one, hy]; simp [memB]
theorem index98 (k : SK) (l : List ByteArray) (x : ByteArray) (H : Heap) (hl : l.length < 4611686018427387903) : W env (.call 98 [.sl k (l.map eS), .str x]) H (fun o H' => H' = H ∧ ∃ n : Int, o = .val (.int .i64 n) ∧ (decide (0 ≤ n) = memB l x)) := by
  refine W.fnI rfl rfl rfl ?_
  simp -implicitDefEqProofs only [ir98, op, ef, cl, sq, reduceIte, j3, j4, j5, j6, j7, j8, j9, y1, y3, S1, List.length_map]
  refine W.loopV [(0, _), (1, _), (7, _)] (fun (i : Nat) R H' => H' = H ∧ R 8 = .int .i64 i ∧ i ≤ l.length ∧ memB (l.take i) x = false) (fun i => l.length - i) 0 ⟨rfl, rfl, Nat.zero_le _, rfl⟩ ?_
  rintro i R H' ⟨rfl, g8, hi, hm⟩
  by_cases hlt : i < l.length
  rotate_left
  · have hie : i = l.length := by omega
    subst hie
    rw [List.take_length] at hm
    simp -implicitDefEqProofs only [mkR_nil, mkR_cons, op, ef, cl, sq, reduceIte, j3, j4, j5, j6, j7, j8, j9, y1, y3, S1, List.length_map, g8, hlt, hm]
    exact ⟨_, rfl, by decide⟩
  obtain ⟨y, hy⟩ := getP hlt
  have ws := wrap_succ (show i < 9223372036854775807 by omega)
  have iy := iadX (e := eS) (n := 1) (fun _ => rfl) (by decide) (k := k) hy
  by_cases he : x = y
  · subst he
    simp -implicitDefEqProofs only [mkR_nil, mkR_cons, op, ef, cl, sq, reduceIte, j3, j4, j5, j6, j7, j8, j9, y1, y3, S1, List.length_map, g8, hlt, natOf_nat, iy, eS]
    refine ⟨_, rfl, ?_⟩
    rw [memB_iff.2 (List.mem_of_getElem? hy)]
    exact decide_eq_true (by omega)
  · simp -implicitDefEqProofs only [mkR_nil, mkR_cons, op, ef, cl, sq, reduceIte, j3, j4, j5, j6, j7, j8, j9, y1, y3, S1, List.length_map, g8, hlt, natOf_nat, iy, eS, he, ws]
    exact ⟨i + 1, by omega, rfl, hlt, by rw [memB_take hy, hm]; simp [Ne.symm he]⟩
theorem contains46 (k : SK) (l : List ByteArray) (x : ByteArray) (H : Heap) (hl : l.length < 4611686018427387903) : W env (.call 46 [.sl k (l.map eS), .str x]) H (Ret (.bool (memB l x)) H) := by
  refine W.fnI rfl rfl rfl ?_
  simp -implicitDefEqProofs only [ir46, op, ef, cl, sq, reduceIte, j3, j4, j5, j6, j7, j8, j9, y1, y3, S1]
  refine callB_of _ _ _ _ _ _ _ _ (index98 k l x _ hl) ?_
  rintro u H1 ⟨rfl, n, hu, hn⟩
  cases hu
  simp -implicitDefEqProofs only [op, ef, cl, sq, reduceIte, j3, j4, j5, j6, j7, j8, j9, y1, y3, S1, ge_iff_le, hn]
end Go.Proofs.YtmgldhlcapjdkaaGreat.St
end

section
namespace Go.Proofs.YtmgldhlcapjdkaaGreat.St
open Go.Rmp Go.Proofs.YtmgldhlcapjdkaaGreat.Ir
set_option maxRecDepth 10000
structure Slm where
  key : ByteArray
  id : Nat
  val : ByteArray
  fil : List Nat
def eSl (kf : SK) (s : Slm) : List T := [.str s.key, .int .u64 s.id, .str s.val, .sl kf (s.fil.map eB)]
def zSlm : Slm := ⟨⟨#[]⟩, 0, ⟨#[]⟩, []⟩
def keyP (ks : List ByteArray) (b h : Nat) : Nat → Bool := fun q => ks.any fun k => (plcs k b h).contains q
theorem keyP_nil (b h : Nat) : keyP [] b h = fun _ => false := rfl
theorem keyP_snoc (ks : List ByteArray) (k : ByteArray) (b h : Nat) : keyP (ks ++ [k]) b h = addPs (keyP ks b h) (plcs k b h) := by
  funext q; simp [keyP, addPs]
theorem keyP_lt {ks : List ByteArray} {b h : Nat} (hb : 1 ≤ b) : ∀ q, keyP ks b h q = true → q < b := fun q hq => by
  simp -implicitDefEqProofs only [keyP, List.any_eq_true, List.contains_iff_mem] at hq
  obtain ⟨k, _, hk⟩ := hq
  exact plcs_lt hb hk
def ofOk (k : ByteArray) (n : Nat) (ks : List ByteArray) : Bool := decide (65536 ≤ n) && (rises ks && decide (1 ≤ ks.length) && decide (ks.length ≤ 1024)) && memB ks k
def mkSlm (k : ByteArray) (n : Nat) (v : ByteArray) (ks : List ByteArray) (b h : Nat) : Slm := ⟨k, n, v, filB b h (keyP ks b h)⟩
def ofS (k : ByteArray) (n : Nat) (v : ByteArray) (ks : List ByteArray) (b h : Int) : Slm × Nat :=
  if shOk b h = false then (zSlm, 1)
  else if n = 0 then (if decide (v = ⟨#[]⟩) && decide (ks.length = 0) then (⟨k, 0, ⟨#[]⟩, []⟩, 0) else (zSlm, 1))
  else if ofOk k n ks then (mkSlm k n v ks b.toNat h.toNat, 0) else (zSlm, 1)
def SlmQ (H : Heap) (r : Slm × Nat) : Out → Heap → Prop := fun o H' => Ext H H' ∧ ∃ kf, KOk kf r.1.fil ∧ o = .val (.tup [.agg (eSl kf r.1), .int .i64 r.2])
theorem frm_extG {F : Nat → Prop} {H H' H'' : Heap} (h : Ext H H') (hf : Frm F H' H'') (hF : ∀ c, F c → H.length ≤ c) : Ext H H'' := by
  refine ⟨H''.drop H.length, ?_⟩
  have hlen := h.len
  have hl2 := hf.1
  refine List.ext_getElem? fun i => ?_
  by_cases hi : i < H.length
  · rw [List.getElem?_append_left hi, hf.2 i (by omega) fun hc => by have := hF i hc; omega]
    obtain ⟨m, rfl⟩ := h
    rw [List.getElem?_append_left hi]
  · rw [List.getElem?_append_right (by omega), List.getElem?_drop]
    congr 1; omega
set_option maxHeartbeats 2000000 in
theorem of11 (k : ByteArray) (n : Nat) (v : ByteArray) (kk : SK) (ks : List ByteArray) (b h : Int) (H : Heap) (hl : ks.length < 4611686018427387903) (hks : ∀ x ∈ ks, x.size < 9223372036854775807) :
    W env (.call 11 [.agg (eVer k n v kk ks), .agg [.int .i64 b, .int .i64 h]]) H (SlmQ H (ofS k n v ks b h)) := by
  refine W.fnI rfl rfl rfl ?_
  obtain ⟨H1, hH1⟩ : ∃ H1, H1 = H ++ [B.cells (eVer k n v kk ks)] ++ [B.cells [T.int .i64 b, T.int .i64 h]] ++ [B.cells [.str ⟨#[]⟩, .int .u64 0, .str ⟨#[]⟩, .sl .nil []]] := ⟨_, rfl⟩
  have hx1 : Ext H H1 := by rw [hH1]; exact (((Ext.rfl'.app _).app _).app _)
  have cv : H1[H.length]? = some (.cells (eVer k n v kk ks)) := by rw [hH1, g_app (by simp), g_app (by simp), g_tail rfl]
  have cs : H1[H.length + 1]? = some (.cells [T.int .i64 b, T.int .i64 h]) := by rw [hH1, g_app (by simp), g_tail (by simp)]
  have cr : H1[H.length + 2]? = some (.cells [.str ⟨#[]⟩, .int .u64 0, .str ⟨#[]⟩, .sl .nil []]) := by rw [hH1, g_tail (by simp)]
  have lv := glt cv
  have ls := glt cs
  have lr := glt cr
  unfold eVer at cv
  have hH1' := hH1
  unfold eVer at hH1'
  simp -implicitDefEqProofs only [ir11, eVer, op, ef, cl, sq, reduceIte, j3, j4, j5, j6, j7, j8, j9, y1, y3, S1, S2, S3]
  rw [← hH1']
  refine callB_of _ _ _ _ _ _ _ _ (bnew44 b h _) ?_
  rintro u H2 ⟨hx2, hu⟩
  have hx2 : Ext H1 H2 := hx2
  have dv := hx2.get cv
  have ds := hx2.get cs
  have dr := hx2.get cr
  have kr := glt dr
  rcases hu with ⟨hsh, hu⟩ | ⟨hsh, bf, w, hu, hbf, hw, hne, hpf⟩
  · cases hu
    have e : ofS k n v ks b h = (zSlm, 1) := by simp [ofS, hsh]
    rw [e]
    simp -implicitDefEqProofs only [op, ef, cl, sq, reduceIte, j3, j4, j5, j6, j7, j8, j9, y1, y3, S1, S2, cs, ds, dr, kr]
    exact ⟨(hx1.trans hx2).set (by omega) _, .nil, fun _ => rfl, rfl⟩
  cases hu
  obtain ⟨m, j, rfl, rfl, m1, m2, j1, j2⟩ := shOk_t hsh
  have hp0 := hpf m j rfl rfl
  by_cases hn : n = 0
  · subst hn
    by_cases hv : v = ⟨#[]⟩
    rotate_left
    · have e : ofS k 0 v ks m j = (zSlm, 1) := by simp [ofS, hsh, hv]
      rw [e]
      simp -implicitDefEqProofs only [op, ef, cl, sq, reduceIte, j3, j4, j5, j6, j7, j8, j9, y1, y3, S1, S2, cs, ds, dv, dr, kr, hv]
      exact ⟨(hx1.trans hx2).set (by omega) _, .nil, fun _ => rfl, rfl⟩
    by_cases hl0 : ks.length = 0
    · have e : ofS k 0 v ks m j = (⟨k, 0, ⟨#[]⟩, []⟩, 0) := by simp [ofS, hsh, hv, hl0]
      have h1 : ¬ 0 < ks.length := by omega
      rw [e]
      simp -implicitDefEqProofs only [op, ef, cl, sq, reduceIte, j3, j4, j5, j6, j7, j8, j9, y1, y3, S1, S2, cs, ds, dv, dr, kr, hv, List.length_map, h1]
      exact ⟨(hx1.trans hx2).set (by omega) _, .nil, fun _ => rfl, rfl⟩
    · have e : ofS k 0 v ks m j = (zSlm, 1) := by simp [ofS, hsh, hl0]
      have h1 : 0 < ks.length := by omega
      rw [e]
      simp -implicitDefEqProofs only [op, ef, cl, sq, reduceIte, j3, j4, j5, j6, j7, j8, j9, y1, y3, S1, S2, cs, ds, dv, dr, kr, hv, List.length_map, h1]
      exact ⟨(hx1.trans hx2).set (by omega) _, .nil, fun _ => rfl, rfl⟩
  by_cases h6 : n < 65536
  · have e : ofS k n v ks m j = (zSlm, 1) := by
      have h0 : ofOk k n ks = false := by unfold ofOk; rw [decide_eq_false (by omega), Bool.false_and, Bool.false_and]
      simp [ofS, hsh, hn, h0]
    rw [e]
    simp -implicitDefEqProofs only [op, ef, cl, sq, reduceIte, j3, j4, j5, j6, j7, j8, j9, y1, y3, S1, S2, cs, ds, dv, dr, kr, hn, h6]
    exact ⟨(hx1.trans hx2).set (by omega) _, .nil, fun _ => rfl, rfl⟩
  simp -implicitDefEqProofs only [op, ef, cl, sq, reduceIte, j3, j4, j5, j6, j7, j8, j9, y1, y3, S1, S2, cs, ds, dv, dr, kr, hn, h6]
  refine callB_of _ _ _ _ _ _ _ _ (rise45 kk ks _ hl) ?_
  rintro u H2 ⟨hu, rfl⟩
  cases hu
  cases hr : rises ks && decide (1 ≤ ks.length) && decide (ks.length ≤ 1024)
  · have e : ofS k n v ks m j = (zSlm, 1) := by
      have h0 : ofOk k n ks = false := by unfold ofOk; rw [hr, Bool.and_false, Bool.false_and]
      simp [ofS, hsh, hn, h0]
    rw [e]
    simp -implicitDefEqProofs only [op, ef, cl, sq, reduceIte, j3, j4, j5, j6, j7, j8, j9, y1, y3, S1, S2, cs, ds, dv, dr, kr]
    exact ⟨(hx1.trans hx2).set (by omega) _, .nil, fun _ => rfl, rfl⟩
  simp -implicitDefEqProofs only [op, ef, cl, sq, reduceIte, j3, j4, j5, j6, j7, j8, j9, y1, y3, S1, S2, cs, ds, dv, dr, kr]
  refine callB_of _ _ _ _ _ _ _ _ (contains46 kk ks k _ hl) ?_
  rintro u H2 ⟨hu, rfl⟩
  cases hu
  cases hm : memB ks k
  · have e : ofS k n v ks m j = (zSlm, 1) := by
      have h0 : ofOk k n ks = false := by unfold ofOk; rw [hm, Bool.and_false]
      simp [ofS, hsh, hn, h0]
    rw [e]
    simp -implicitDefEqProofs only [op, ef, cl, sq, reduceIte, j3, j4, j5, j6, j7, j8, j9, y1, y3, S1, S2, cs, ds, dv, dr, kr]
    exact ⟨(hx1.trans hx2).set (by omega) _, .nil, fun _ => rfl, rfl⟩
  have e : ofS k n v ks m j = (mkSlm k n v ks m j, 0) := by
    have h6' : 65536 ≤ n := by omega
    have h0 : ofOk k n ks = true := by unfold ofOk; rw [hr, hm, decide_eq_true h6']; rfl
    simp [ofS, hsh, hn, h0]
  rw [e]
  simp -implicitDefEqProofs only [op, ef, cl, sq, reduceIte, j3, j4, j5, j6, j7, j8, j9, y1, y3, S1, S2, cs, ds, dv, dr, kr, List.length_map]
  refine W.loopV [(2, _), (4, _), (6, _), (56, _), (57, _)] (fun (i : Nat) R H' => At H' (fun H' => PF H' bf w m j (keyP (ks.take i) m j) ∧ Frm (fun c => c = w) H2 H') ∧ R 58 = .int .i64 i ∧ i ≤ ks.length) (fun i => ks.length - i) 0 ⟨.i ⟨by rw [List.take_zero, keyP_nil]; exact hp0, Frm.refl _ _⟩, rfl, Nat.zero_le _⟩ ?_
  rintro i R H3 ⟨⟨hp, hfr⟩, g58, hi⟩
  have fv := hfr.get dv (by omega)
  have fr := hfr.get dr (by omega)
  have fkr := glt fr
  by_cases hlt : i < ks.length
  rotate_left
  · have hie : i = ks.length := by omega
    subst hie
    rw [List.take_length] at hp
    simp -implicitDefEqProofs only [mkR_nil, mkR_cons, op, ef, cl, sq, reduceIte, j3, j4, j5, j6, j7, j8, j9, y1, y3, S1, g58, hlt, fv]
    refine callB_of _ _ _ _ _ _ _ _ (bbytes48 hp m2) ?_
    rintro u H4 ⟨hx4, kf, hkf, hu⟩
    cases hu
    have hx4 : Ext H3 H4 := hx4
    have gv := hx4.get fv
    have gr := hx4.get fr
    have gkr := glt gr
    simp -implicitDefEqProofs only [op, ef, cl, sq, reduceIte, j3, j4, j5, j6, j7, j8, j9, y1, y3, S1, S2, fv, gv, gr, gkr]
    refine ⟨?_, kf, fun h => absurd h hkf, rfl⟩
    have h5 : Ext H H3 := frm_extG (hx1.trans hx2) hfr fun c hc => by have := hx1.len; omega
    exact (h5.trans hx4).set (by omega) _
  obtain ⟨y, hy⟩ := getP hlt
  have wsi := wrap_succ (show i < 9223372036854775807 by omega)
  have iy := iadX (e := eS) (n := 1) (fun _ => rfl) (by decide) (k := kk) hy
  simp -implicitDefEqProofs only [mkR_nil, mkR_cons, op, ef, cl, sq, reduceIte, j3, j4, j5, j6, j7, j8, j9, y1, y3, S1, g58, hlt, natOf_nat, iy, eS, ldc_iptr]
  refine callB_of _ _ _ _ _ _ _ _ (badd47 hp m1 m2 j2 y (hks y (List.mem_of_getElem? hy)) hne) ?_
  rintro u H4 ⟨hu, hp4, hfr4⟩
  cases hu
  simp -implicitDefEqProofs only [op, ef, cl, sq, reduceIte, j3, j4, j5, j6, j7, j8, j9, y1, y3, S1, g58, wsi]
  refine ⟨i + 1, by omega, .i ⟨?_, hfr.trans hfr4 fun c hc => .inl hc⟩, rfl, hlt⟩
  rw [List.take_add_one, hy]
  show PF H4 bf w m j (keyP (ks.take i ++ [y]) m j)
  rw [keyP_snoc]
  exact hp4
end Go.Proofs.YtmgldhlcapjdkaaGreat.St
end

section

end

section
namespace Go.Proofs.YtmgldhlcapjdkaaGreat.St
open Go.Rmp Go.Proofs.YtmgldhlcapjdkaaGreat.Ir
set_option maxRecDepth 10000
def bAt (bs : List Nat) (i : Nat) : Nat := bs.getD i 0
def Bytes (bs : List Nat) : Prop := ∀ x ∈ bs, x < 256
theorem bAt_lt {bs : List Nat} (h : Bytes bs) (i : Nat) : bAt bs i < 256 := by
  unfold bAt
  rw [List.getD_eq_getElem?_getD]
  cases e : bs[i]? with
  | none => decide
  | some x => exact h x (List.mem_of_getElem? e)
theorem bAt_get {bs : List Nat} {i : Nat} (h : i < bs.length) : bs[i]? = some (bAt bs i) := by
  unfold bAt
  rw [List.getD_eq_getElem?_getD, List.getElem?_eq_getElem h]; rfl
def rdB (bs : List Nat) : Nat := ((bAt bs 0 * 16777216 ||| bAt bs 1 * 65536) ||| bAt bs 2 * 256) ||| bAt bs 3
def rdH (bs : List Nat) : Nat := bAt bs 4
theorem or_add {a k x m : Nat} (hm : m = 2 ^ k) (h : x < m) : a * m ||| x = a * m + x := by
  subst hm
  rw [Nat.mul_comm]
  exact (Nat.two_pow_add_eq_or_of_lt h a).symm
theorem or4 {a b c d : Nat} (hb : b < 256) (hc : c < 256) (hd : d < 256) : ((a * 16777216 ||| b * 65536) ||| c * 256) ||| d = a * 16777216 + b * 65536 + c * 256 + d := by
  rw [or_add (m := 16777216) (k := 24) (by decide) (by omega)]
  have e1 : a * 16777216 + b * 65536 = (a * 256 + b) * 65536 := by rw [Nat.add_mul, Nat.mul_assoc]
  rw [e1, or_add (m := 65536) (k := 16) (by decide) (by omega)]
  have e2 : (a * 256 + b) * 65536 + c * 256 = ((a * 256 + b) * 256 + c) * 256 := by rw [Nat.add_mul _ c, Nat.mul_assoc]
  rw [e2, or_add (m := 256) (k := 8) (by decide) hd]
theorem rdB_eq {bs : List Nat} (h : Bytes bs) : rdB bs = bAt bs 0 * 16777216 + bAt bs 1 * 65536 + bAt bs 2 * 256 + bAt bs 3 := or4 (bAt_lt h 1) (bAt_lt h 2) (bAt_lt h 3)
theorem shl_val {x m : Nat} (n : Int) (k : Nat) (hm : m = 2 ^ k) (hn : min n.toNat IntKind.i64.bits = k) (h : x * m < 9223372036854775808) : IntKind.i64.wrap (IntKind.i64.wrap (x : Int) * 2 ^ (min n.toNat IntKind.i64.bits)) = ((x * m : Nat) : Int) := by
  have hm1 : 1 ≤ m := by subst hm; exact Nat.two_pow_pos k
  have hx : x < 9223372036854775808 := Nat.lt_of_le_of_lt (Nat.le_mul_of_pos_right x hm1) h
  rw [hn, wrap64 (n := (x : Int)) (by omega)]
  have e : (x : Int) * 2 ^ k = ((x * m : Nat) : Int) := by subst hm; simp
  rw [e, wrap64 (by omega)]
theorem or64 {a b : Nat} (ha : a < 9223372036854775808) (hb : b < 9223372036854775808) : IntKind.i64.wrap ((BitVec.ofInt IntKind.i64.bits (a : Int) ||| BitVec.ofInt IntKind.i64.bits (b : Int)).toNat : Nat) = ((a ||| b : Nat) : Int) := by
  have e : (BitVec.ofInt IntKind.i64.bits (a : Int) ||| BitVec.ofInt IntKind.i64.bits (b : Int)).toNat = a ||| b := or_n 64 a b (by omega) (by omega)
  have hl := Nat.or_lt_two_pow (n := 63) (x := a) (y := b) ha hb
  rw [e, wrap64 (by omega)]
theorem rdB_val {bs : List Nat} (h : Bytes bs) :
    IntKind.i64.wrap ((BitVec.ofInt IntKind.i64.bits (IntKind.i64.wrap ((BitVec.ofInt IntKind.i64.bits (IntKind.i64.wrap ((BitVec.ofInt IntKind.i64.bits (IntKind.i64.wrap (IntKind.i64.wrap (bAt bs 0 : Int) * 2 ^ (min (24 : Int).toNat IntKind.i64.bits))) ||| BitVec.ofInt IntKind.i64.bits (IntKind.i64.wrap (IntKind.i64.wrap (bAt bs 1 : Int) * 2 ^ (min (16 : Int).toNat IntKind.i64.bits)))).toNat : Nat)) ||| BitVec.ofInt IntKind.i64.bits (IntKind.i64.wrap (IntKind.i64.wrap (bAt bs 2 : Int) * 2 ^ (min (8 : Int).toNat IntKind.i64.bits)))).toNat : Nat)) ||| BitVec.ofInt IntKind.i64.bits (IntKind.i64.wrap (bAt bs 3 : Int))).toNat : Nat) = (rdB bs : Int) := by
  have h0 := bAt_lt h 0
  have h1 := bAt_lt h 1
  have h2 := bAt_lt h 2
  have h3 := bAt_lt h 3
  have e3 : IntKind.i64.wrap (bAt bs 3 : Int) = (bAt bs 3 : Int) := wrap64 (by omega)
  have o1 : bAt bs 0 * 16777216 ||| bAt bs 1 * 65536 < 2 ^ 32 := Nat.or_lt_two_pow (n := 32) (by omega) (by omega)
  have o2 : (bAt bs 0 * 16777216 ||| bAt bs 1 * 65536) ||| bAt bs 2 * 256 < 2 ^ 32 := Nat.or_lt_two_pow (n := 32) o1 (by omega)
  rw [shl_val (m := 16777216) 24 24 rfl rfl (by omega), shl_val (m := 65536) 16 16 rfl rfl (by omega), shl_val (m := 256) 8 8 rfl rfl (by omega), e3, or64 (by omega) (by omega), or64 (by omega) (by omega), or64 (by omega) (by omega)]
  rfl
def topZ (bs : List Nat) : Bool := decide (rdB bs % 8 = 0) || decide (bAt bs (bs.length - 1) / 2 ^ (rdB bs % 8) = 0)
def rdOk (bs : List Nat) : Bool := decide (5 ≤ bs.length) && shOk (rdB bs) (rdH bs) && decide (bs.length = 5 + (rdB bs + 7) / 8) && topZ bs
def rdS (bs : List Nat) (q : Nat) : Bool := (bAt bs (5 + q / 8)).testBit (q % 8)
theorem rdS_bytes {bs : List Nat} (h : Bytes bs) (hl : bs.length = 5 + (rdB bs + 7) / 8) : bs.drop 5 = bytS (rdS bs) (rdB bs) := by
  refine List.ext_getElem (by rw [List.length_drop, bytS_len]; omega) fun i h1 h2 => ?_
  rw [List.length_drop] at h1
  have hi : 5 + i < bs.length := by omega
  have e1 : (bs.drop 5)[i]'(by rw [List.length_drop]; omega) = bAt bs (5 + i) := by
    rw [List.getElem_drop]
    have := bAt_get hi
    rw [List.getElem?_eq_getElem hi] at this
    exact Option.some.inj this
  rw [e1]
  simp -implicitDefEqProofs only [bytS, List.getElem_map, List.getElem_range]
  refine Nat.eq_of_testBit_eq fun j => ?_
  rw [byteS, bitsN_bit]
  by_cases hj : j < 8
  · have a1 : (8 * i + j) / 8 = i := by omega
    have a2 : (8 * i + j) % 8 = j := by omega
    simp -implicitDefEqProofs only [rdS, a1, a2, hj, decide_true, Bool.true_and]
  · have hb := bAt_lt h (5 + i)
    have : bAt bs (5 + i) < 2 ^ j := Nat.lt_of_lt_of_le hb (by rw [show (256 : Nat) = 2 ^ 8 from rfl]; exact Nat.pow_le_pow_right (by decide) (by omega))
    simp [Nat.testBit_lt_two_pow this, hj]
theorem topZ_of {bs : List Nat} (h : Bytes bs) (hl : bs.length = 5 + (rdB bs + 7) / 8) (h5 : 5 ≤ bs.length) (hs : ∀ q, rdS bs q = true → q < rdB bs) : topZ bs = true := by
  unfold topZ
  by_cases hz : rdB bs % 8 = 0
  · rw [decide_eq_true hz]; rfl
  rw [decide_eq_false hz, Bool.false_or, decide_eq_true_eq]
  refine Nat.div_eq_of_lt (Decidable.of_not_not fun hn => ?_)
  have hge : 2 ^ (rdB bs % 8) ≤ bAt bs (bs.length - 1) := by omega
  obtain ⟨j, hj, hb⟩ := Nat.exists_ge_and_testBit_of_ge_two_pow hge
  have hj8 : j < 8 := Decidable.of_not_not fun hn8 => by
    have h1 := bAt_lt h (bs.length - 1)
    have : bAt bs (bs.length - 1) < 2 ^ j := Nat.lt_of_lt_of_le h1 (by rw [show (256 : Nat) = 2 ^ 8 from rfl]; exact Nat.pow_le_pow_right (by decide) (by omega))
    rw [Nat.testBit_lt_two_pow this] at hb; cases hb
  have := hs (8 * ((rdB bs + 7) / 8 - 1) + j) (by
    unfold rdS
    rw [show (8 * ((rdB bs + 7) / 8 - 1) + j) / 8 = (rdB bs + 7) / 8 - 1 by omega, show (8 * ((rdB bs + 7) / 8 - 1) + j) % 8 = j by omega, show 5 + ((rdB bs + 7) / 8 - 1) = bs.length - 1 by omega]
    exact hb)
  omega
end Go.Proofs.YtmgldhlcapjdkaaGreat.St
end

section
namespace Go.Proofs.YtmgldhlcapjdkaaGreat.St
open Go.Rmp Go.Proofs.YtmgldhlcapjdkaaGreat.Ir
set_option maxRecDepth 10000
theorem cloneB67 (k : SK) (l : List Nat) (hk : k ≠ .nil) (hl : l.length ≤ 1073741824) (H : Heap) : W env (.call 67 [.sl k (l.map eB)]) H (fun o H' => Ext H H' ∧ ∃ k', KOk k' l ∧ o = .val (.sl k' (l.map eB))) := by
  refine W.fnI rfl rfl rfl ?_
  obtain ⟨k', H1, ha, hx, hk'⟩ := app_full (H := H) (bytes := 1) [] (l.map eB) (roomT (by simp -implicitDefEqProofs only [List.length_map, List.length_nil]; omega)) eB_erase
  have hall := all_map (enc := eB) (n := 1) (fun _ => rfl) l
  by_cases he : k = .arg ∧ l = []
  · obtain ⟨rfl, rfl⟩ := he
    have e0 : eqRef .slice (.sl .arg []) (.sl .nil []) = none := rfl
    simp -implicitDefEqProofs only [ir67, op, ef, cl, sq, reduceIte, j3, j4, j5, j6, j7, j8, j9, y1, y3, S1, List.map_nil, e0, Option.map_none]
    intro t
    cases t
    · rw [List.map_nil, List.nil_append] at ha
      simp -implicitDefEqProofs only [op, ef, cl, sq, reduceIte, j3, j4, j5, j6, j7, j8, j9, y1, y3, S1]
      simp -implicitDefEqProofs only [op, ef, cl, sq, reduceIte, j3, j4, j5, j6, j7, j8, j9, y1, y3, S1, ha]
      exact ⟨hx, k', fun h => absurd h hk', rfl⟩
    · simp -implicitDefEqProofs only [op, ef, cl, sq, reduceIte, j3, j4, j5, j6, j7, j8, j9, y1, y3, S1]
      exact ⟨Ext.rfl', .nil, fun _ => rfl, rfl⟩
  have hno : eqRef .slice (.sl k (l.map eB)) (.sl .nil []) = some false := by
    cases k with
    | nil => exact absurd rfl hk
    | arg => cases l with
      | nil => exact absurd ⟨rfl, rfl⟩ he
      | cons a l => rfl
    | full => rfl
    | own t e => rfl
  simp -implicitDefEqProofs only [List.nil_append] at ha
  simp -implicitDefEqProofs only [ir67, op, ef, cl, sq, reduceIte, j3, j4, j5, j6, j7, j8, j9, y1, y3, S1, hno, hall, ha]
  exact ⟨hx, k', fun h => absurd h hk', rfl⟩
structure PV (H : Heap) (bf b h : Nat) (S : Nat → Bool) : Prop where
  hb : ∃ k, H[bf]? = some (.cells [.int .i64 b, .int .i64 h, .sl k ((bytS S b).map eB)])
theorem PV.ext {H H' : Heap} {bf b h : Nat} {S : Nat → Bool} (k : PV H bf b h S) (hx : Ext H H') : PV H' bf b h S := ⟨let ⟨kk, e⟩ := k.hb; ⟨kk, hx.get e⟩⟩
theorem top_val {x n : Nat} (hn : n ≤ 7) : ((x : Int).fdiv (2 ^ (min ((n : Nat) : Int).toNat IntKind.u8.bits)) != 0) = !decide (x / 2 ^ n = 0) := by
  have e : min ((n : Nat) : Int).toNat IntKind.u8.bits = n := by rw [Int.toNat_natCast]; exact Nat.min_eq_left (show n ≤ 8 by omega)
  rw [e, fdn]
  exact dne _ 0
set_option maxHeartbeats 2000000 in
theorem bread137 (k : SK) (bs : List Nat) (hk : k ≠ .nil ∨ bs = []) (hb : Bytes bs) (hl : bs.length ≤ 1073741824) (H : Heap) : W env (.call 137 [.sl k (bs.map eB)]) H (fun o H' => Ext H H' ∧ ((rdOk bs = false ∧ o = .val (.tup [.nilp, .int .i64 2])) ∨ (rdOk bs = true ∧ ∃ bf, o = .val (.tup [.ptr bf 0, .int .i64 0]) ∧ PV H' bf (rdB bs) (rdH bs) (rdS bs)))) := by
  refine W.fnI rfl rfl rfl ?_
  by_cases h5 : bs.length < 5
  · have e : rdOk bs = false := by
      have : ¬ 5 ≤ bs.length := by omega
      unfold rdOk; rw [decide_eq_false this]; rfl
    simp -implicitDefEqProofs only [ir137, op, ef, cl, sq, reduceIte, j3, j4, j5, j6, j7, j8, j9, y1, y3, S1, List.length_map, h5, e]
    exact ⟨Ext.rfl', .inl trivial⟩
  have h5' : 5 ≤ bs.length := by omega
  have d5 : decide (5 ≤ bs.length) = true := decide_eq_true h5'
  have kk : k ≠ .nil := hk.elim id fun e => by subst e; simp at h5
  have i0 := iadX (e := eB) (n := 1) (fun _ => rfl) (by decide) (k := k) (bAt_get (bs := bs) (i := 0) (by omega))
  have i1 := iadX (e := eB) (n := 1) (fun _ => rfl) (by decide) (k := k) (bAt_get (bs := bs) (i := 1) (by omega))
  have i2 := iadX (e := eB) (n := 1) (fun _ => rfl) (by decide) (k := k) (bAt_get (bs := bs) (i := 2) (by omega))
  have i3 := iadX (e := eB) (n := 1) (fun _ => rfl) (by decide) (k := k) (bAt_get (bs := bs) (i := 3) (by omega))
  have i4 := iadX (e := eB) (n := 1) (fun _ => rfl) (by decide) (k := k) (bAt_get (bs := bs) (i := 4) (by omega))
  have n0 : natOf (.int .i64 0) = some 0 := rfl
  have n1 : natOf (.int .i64 1) = some 1 := rfl
  have n2 : natOf (.int .i64 2) = some 2 := rfl
  have n3 : natOf (.int .i64 3) = some 3 := rfl
  have n4 : natOf (.int .i64 4) = some 4 := rfl
  have n5 : natOf (.int .i64 5) = some 5 := rfl
  have rv := rdB_val hb
  have rh : IntKind.i64.wrap (bAt bs 4 : Int) = (rdH bs : Int) := by
    have := bAt_lt hb 4
    exact wrap64 (n := (bAt bs 4 : Int)) (by omega)
  obtain ⟨H1, hH1⟩ : ∃ H1, H1 = H ++ [B.cells [T.int .i64 (rdB bs : Nat), T.int .i64 (rdH bs : Nat)]] := ⟨_, rfl⟩
  have hx1 : Ext H H1 := ⟨_, hH1⟩
  have c1 : H1[H.length]? = some (.cells [T.int .i64 (rdB bs : Nat), T.int .i64 (rdH bs : Nat)]) := by rw [hH1]; exact g_tail rfl
  simp -implicitDefEqProofs only [ir137, op, ef, cl, sq, reduceIte, j3, j4, j5, j6, j7, j8, j9, y1, y3, S1, S2, List.length_map, h5, i0, i1, i2, i3, i4, n0, n1, n2, n3, n4, eB, rv, rh]
  rw [← hH1]
  refine callB_of _ _ _ _ _ _ _ _ (may96 _ _ _) ?_
  rintro u H2 ⟨hu, hx2⟩
  cases hu
  have hx2 : Ext H1 H2 := hx2
  have c2 := hx2.get c1
  cases hs : shOk (rdB bs) (rdH bs)
  · have e : rdOk bs = false := by unfold rdOk; rw [hs, Bool.and_false]; rfl
    simp -implicitDefEqProofs only [op, ef, cl, sq, reduceIte, j3, j4, j5, j6, j7, j8, j9, y1, y3, S1, c1, c2, e]
    exact ⟨hx1.trans hx2, .inl trivial⟩
  obtain ⟨m, j, em, ej, m1, m2, j1, j2⟩ := shOk_t hs
  have em : rdB bs = m := by omega
  have ej : rdH bs = j := by omega
  simp -implicitDefEqProofs only [op, ef, cl, sq, reduceIte, j3, j4, j5, j6, j7, j8, j9, y1, y3, S1, c1, c2, List.length_map]
  refine callB_of _ _ _ _ _ _ _ _ (size97 (rdB bs) _ (by omega) _) ?_
  rintro u H3 ⟨hu, hx3⟩
  cases hu
  have hx3 : Ext H2 H3 := hx3
  have c3 := hx3.get c2
  have w5 : IntKind.i64.wrap (5 + (((rdB bs + 7) / 8 : Nat) : Int)) = ((5 + (rdB bs + 7) / 8 : Nat) : Int) := by rw [wrap64 (by omega)]; simp
  by_cases hlen : bs.length = 5 + (rdB bs + 7) / 8
  rotate_left
  · have e : rdOk bs = false := by unfold rdOk; rw [decide_eq_false hlen, Bool.and_false]; rfl
    simp -implicitDefEqProofs only [op, ef, cl, sq, reduceIte, j3, j4, j5, j6, j7, j8, j9, y1, y3, S1, c1, c2, c3, w5, hlen, e]
    exact ⟨hx1.trans (hx2.trans hx3), .inl trivial⟩
  have r8 : (rdB bs : Int).tmod 8 = ((rdB bs % 8 : Nat) : Int) := (Int.ofNat_tmod _ 8).symm
  have wl := wrap_pred (i := bs.length) (by omega) (by omega)
  have il := iadX (e := eB) (n := 1) (fun _ => rfl) (by decide) (k := k) (bAt_get (bs := bs) (i := bs.length - 1) (by omega))
  have nn : ¬ ((rdB bs % 8 : Nat) : Int) < 0 := by omega
  have tv := top_val (x := bAt bs (bs.length - 1)) (n := rdB bs % 8) (by omega)
  have hlen' : (bs.length = 5 + (rdB bs + 7) / 8) = True := eq_true hlen
  have hokz : ∀ t, topZ bs = t → rdOk bs = t := fun t ht => by unfold rdOk; rw [ht, d5, hs, decide_eq_true hlen]; rfl
  have hsl : ((bs.map eB).take bs.length).drop 5 = (bs.drop 5).map eB := by rw [List.take_of_length_le (by simp), List.map_drop]
  have hall := all_map (enc := eB) (n := 1) (fun _ => rfl) bs
  have hcut : (SK.cut k bs.length 5 bs.length) ≠ .nil := by
    unfold SK.cut
    cases k <;> simp at kk ⊢
    split <;> simp
  by_cases h0 : 0 < rdB bs % 8
  · by_cases hz : bAt bs (bs.length - 1) / 2 ^ (rdB bs % 8) = 0
    · have ht : topZ bs = true := by unfold topZ; rw [decide_eq_true hz]; simp
      have e := hokz _ ht
      simp -implicitDefEqProofs only [op, ef, cl, sq, reduceIte, j3, j4, j5, j6, j7, j8, j9, y1, y3, S1, c1, c2, c3, w5, hlen', List.length_map, r8, h0, wl, natOf_nat, il, eB, nn, tv, hz, n5, h5', Nat.le_refl, hall, hsl, e]
      refine callB_of _ _ _ _ _ _ _ _ (cloneB67 _ (bs.drop 5) hcut (by rw [List.length_drop]; omega) _) ?_
      rintro u H4 ⟨hx4, k4, _, hu⟩
      cases hu
      have hx4 : Ext H3 H4 := hx4
      have c4 := hx4.get c3
      simp -implicitDefEqProofs only [op, ef, cl, sq, reduceIte, j3, j4, j5, j6, j7, j8, j9, y1, y3, S1, S2, c3, c4]
      refine ⟨(hx1.trans (hx2.trans (hx3.trans hx4))).app _, .inr ⟨_, rfl, ⟨k4, ?_⟩⟩⟩
      rw [g_tail rfl, rdS_bytes hb hlen]
    · have ht : topZ bs = false := by
        unfold topZ; rw [decide_eq_false hz, decide_eq_false (by omega)]; rfl
      have e := hokz _ ht
      simp -implicitDefEqProofs only [op, ef, cl, sq, reduceIte, j3, j4, j5, j6, j7, j8, j9, y1, y3, S1, c1, c2, c3, w5, hlen', List.length_map, r8, h0, wl, natOf_nat, il, eB, nn, tv, hz, e]
      exact ⟨hx1.trans (hx2.trans hx3), .inl trivial⟩
  · have ht : topZ bs = true := by unfold topZ; rw [decide_eq_true (by omega)]; rfl
    have e := hokz _ ht
    simp -implicitDefEqProofs only [op, ef, cl, sq, reduceIte, j3, j4, j5, j6, j7, j8, j9, y1, y3, S1, c1, c2, c3, w5, hlen', List.length_map, r8, h0, n5, h5', Nat.le_refl, hall, hsl, e]
    refine callB_of _ _ _ _ _ _ _ _ (cloneB67 _ (bs.drop 5) hcut (by rw [List.length_drop]; omega) _) ?_
    rintro u H4 ⟨hx4, k4, _, hu⟩
    cases hu
    have hx4 : Ext H3 H4 := hx4
    have c4 := hx4.get c3
    simp -implicitDefEqProofs only [op, ef, cl, sq, reduceIte, j3, j4, j5, j6, j7, j8, j9, y1, y3, S1, S2, c3, c4]
    refine ⟨(hx1.trans (hx2.trans (hx3.trans hx4))).app _, .inr ⟨_, rfl, ⟨k4, ?_⟩⟩⟩
    rw [g_tail rfl, rdS_bytes hb hlen]
end Go.Proofs.YtmgldhlcapjdkaaGreat.St
end

section
namespace Go.Proofs.YtmgldhlcapjdkaaGreat.St
open Go.Rmp Go.Proofs.YtmgldhlcapjdkaaGreat.Ir
set_option maxRecDepth 10000
theorem off105 {H : Heap} {c bf b h p : Nat} {S : Nat → Bool} (hc : H[c]? = some (.cells [.ptr bf 0])) (hf : PV H bf b h S) (hp : p < b) (b2 : b ≤ 65536) : W env (.call 105 [.int .i64 p, .ptr c 0]) H (Ret (.bool (!S p)) H) := by
  refine W.fnI rfl rfl rfl ?_
  obtain ⟨k, hb⟩ := hf.hb
  have hj : p / 8 < (b + 7) / 8 := by omega
  have ib := iadX (e := eB) (n := 1) (fun _ => rfl) (by decide) (k := k) (bytS_at S hj)
  have q8 := quo8 (p := p) (by omega)
  have bv := bit_val (p := p) (byteS_lt S (p / 8))
  rw [byteS_bit] at bv
  have r8 := rem8 p
  cases hs : S p
  · rw [hs] at bv
    simp -implicitDefEqProofs only [ir105, op, ef, cl, sq, reduceIte, j3, j4, j5, j6, j7, j8, j9, y1, y3, S1, hc, hb, q8, natOf_nat, ib, eB, r8, bv]
  · rw [hs] at bv
    simp -implicitDefEqProofs only [ir105, op, ef, cl, sq, reduceIte, j3, j4, j5, j6, j7, j8, j9, y1, y3, S1, hc, hb, q8, natOf_nat, ib, eB, r8, bv]
theorem all_take {l : List Nat} {S : Nat → Bool} {i y : Nat} (hy : l[i]? = some y) : (l.take (i + 1)).all S = ((l.take i).all S && S y) := by
  rw [List.take_add_one, hy]; simp
theorem idx138 {H : Heap} {c bf b h : Nat} {S : Nat → Bool} (hc : H[c]? = some (.cells [.ptr bf 0])) (hf : PV H bf b h S) (b2 : b ≤ 65536) (k : SK) (l : List Nat) (hl : ∀ p ∈ l, p < b) (hll : l.length ≤ 16) : W env (.call 138 [.sl k (l.map eI), .fn 105 [.ptr c 0]]) H (fun o H' => H' = H ∧ ∃ n : Int, o = .val (.int .i64 n) ∧ decide (0 ≤ n) = !l.all S) := by
  refine W.fnI rfl rfl rfl ?_
  simp -implicitDefEqProofs only [ir138, op, ef, cl, sq, reduceIte, j3, j4, j5, j6, j7, j8, j9, y1, y3, S1, List.length_map]
  refine W.loopV [(0, _), (1, _), (7, _)] (fun (i : Nat) R H' => H' = H ∧ R 8 = .int .i64 i ∧ i ≤ l.length ∧ (l.take i).all S = true) (fun i => l.length - i) 0 ⟨rfl, rfl, Nat.zero_le _, rfl⟩ ?_
  rintro i R H' ⟨rfl, g8, hi, hm⟩
  by_cases hlt : i < l.length
  rotate_left
  · have hie : i = l.length := by omega
    subst hie
    rw [List.take_length] at hm
    simp -implicitDefEqProofs only [mkR_nil, mkR_cons, op, ef, cl, sq, reduceIte, j3, j4, j5, j6, j7, j8, j9, y1, y3, S1, List.length_map, g8, hlt, hm]
    exact ⟨_, rfl, by decide⟩
  obtain ⟨y, hy⟩ := getP hlt
  have ws := wrap_succ (show i < 9223372036854775807 by omega)
  have iy := iadX (e := eI) (n := 1) (fun _ => rfl) (by decide) (k := k) hy
  simp -implicitDefEqProofs only [mkR_nil, mkR_cons, op, ef, cl, sq, reduceIte, j3, j4, j5, j6, j7, j8, j9, y1, y3, S1, List.length_map, g8, hlt, natOf_nat, iy, eI]
  refine b_v _ _ _ _ _ _ _ ?_
  simp -implicitDefEqProofs only [op, ef, cl, sq, reduceIte, j3, j4, j5, j6, j7, j8, j9, y1, y3, S1, callvB, List.cons_append, List.nil_append]
  refine callB_of _ _ _ _ _ _ _ _ (off105 hc hf (hl y (List.mem_of_getElem? hy)) b2) ?_
  rintro u H1 ⟨hu, rfl⟩
  cases hu
  cases hs : S y
  · simp -implicitDefEqProofs only [op, ef, cl, sq, reduceIte, j3, j4, j5, j6, j7, j8, j9, y1, y3, S1]
    refine ⟨_, rfl, ?_⟩
    have : l.all S = false := by
      rw [Bool.eq_false_iff]; intro ha
      have := List.all_eq_true.1 ha y (List.mem_of_getElem? hy)
      rw [hs] at this; cases this
    rw [this]
    exact decide_eq_true (by omega)
  · simp -implicitDefEqProofs only [op, ef, cl, sq, reduceIte, j3, j4, j5, j6, j7, j8, j9, y1, y3, S1, g8, ws]
    exact ⟨i + 1, by omega, rfl, hlt, by rw [all_take hy, hm, hs]; rfl⟩
theorem has55 {H : Heap} {bf b h : Nat} {S : Nat → Bool} (hf : PV H bf b h S) (b1 : 1 ≤ b) (b2 : b ≤ 65536) (h2 : h ≤ 16) (t : ByteArray) (ht : t.size < 9223372036854775807) : W env (.call 55 [.ptr bf 0, .str t]) H (fun o H' => Ext H H' ∧ o = .val (.bool ((plcs t b h).all S))) := by
  refine W.fnI rfl rfl rfl ?_
  obtain ⟨k, hb⟩ := hf.hb
  have lb := glt hb
  obtain ⟨H1, hH1⟩ : ∃ H1, H1 = H ++ [B.cells [T.ptr bf 0]] := ⟨_, rfl⟩
  have hx1 : Ext H H1 := ⟨_, hH1⟩
  have c1 : H1[H.length]? = some (.cells [T.ptr bf 0]) := by rw [hH1]; exact g_tail rfl
  have b1' := hx1.get hb
  simp -implicitDefEqProofs only [ir55, op, ef, cl, sq, reduceIte, j3, j4, j5, j6, j7, j8, j9, y1, y3, S1, S2, S3, hb, lb]
  rw [← hH1]
  refine callB_of _ _ _ _ _ _ _ _ (places99 t b h b1 b2 h2 _ ht) ?_
  rintro u H2 ⟨hx2, k2, hu⟩
  cases hu
  have hx2 : Ext H1 H2 := hx2
  have c2 := hx2.get c1
  simp -implicitDefEqProofs only [op, ef, cl, sq, reduceIte, j3, j4, j5, j6, j7, j8, j9, y1, y3, S1, c1, c2, capsT, List.map_cons, List.map_nil]
  have hc104 : W env (.call 104 [.sl k2 ((plcs t b h).map eI), .fn 105 [.ptr H.length 0]]) H2 (Ret (.bool (!(plcs t b h).all S)) H2) := by
    refine W.fnI rfl rfl rfl ?_
    simp -implicitDefEqProofs only [ir104, op, ef, cl, sq, reduceIte, j3, j4, j5, j6, j7, j8, j9, y1, y3, S1]
    refine callB_of _ _ _ _ _ _ _ _ (idx138 c2 (hf.ext (hx1.trans hx2)) b2 k2 _ (fun p hp => plcs_lt b1 hp) (by rw [plcs_len]; exact h2)) ?_
    rintro u H3 ⟨rfl, n, hu, hn⟩
    cases hu
    simp -implicitDefEqProofs only [op, ef, cl, sq, reduceIte, j3, j4, j5, j6, j7, j8, j9, y1, y3, S1, ge_iff_le, hn]
  refine callB_of _ _ _ _ _ _ _ _ hc104 ?_
  rintro u H3 ⟨hu, rfl⟩
  cases hu
  simp -implicitDefEqProofs only [op, ef, cl, sq, reduceIte, j3, j4, j5, j6, j7, j8, j9, y1, y3, S1, Bool.not_not]
  exact hx1.trans hx2
end Go.Proofs.YtmgldhlcapjdkaaGreat.St
end

section
namespace Go.Proofs.YtmgldhlcapjdkaaGreat.St
open Go.Rmp Go.Proofs.YtmgldhlcapjdkaaGreat.Ir
set_option maxRecDepth 10000
def slimOk (s : Slm) : Bool := if s.id = 0 then decide (s.val = ⟨#[]⟩) && decide (s.fil.length = 0) else decide (65536 ≤ s.id) && rdOk s.fil && (plcs s.key (rdB s.fil) (rdH s.fil)).all (rdS s.fil)
def SlmB (s : Slm) : Prop := Bytes s.fil ∧ s.fil.length ≤ 1073741824 ∧ s.key.size < 9223372036854775807
def FilAt (H : Heap) (s : Slm) (t : T) : Prop := (s.id = 0 ∧ t = .nilp) ∨ (s.id ≠ 0 ∧ ∃ bf, t = .ptr bf 0 ∧ PV H bf (rdB s.fil) (rdH s.fil) (rdS s.fil))
theorem FilAt.ext {H H' : Heap} {s : Slm} {t : T} (h : FilAt H s t) (hx : Ext H H') : FilAt H' s t := by
  rcases h with h | ⟨h, bf, e, p⟩
  · exact .inl h
  · exact .inr ⟨h, bf, e, p.ext hx⟩
theorem FilAt.mv {H H' : Heap} {s : Slm} {t : T} (h : FilAt H s t) (hx : ∀ (b : Nat) cs, H[b]? = some (.cells cs) → H'[b]? = some (.cells cs)) : FilAt H' s t := by
  rcases h with h | ⟨h, bf, e, p⟩
  · exact .inl h
  · obtain ⟨k, hb⟩ := p.hb
    exact .inr ⟨h, bf, e, ⟨k, hx _ _ hb⟩⟩
theorem FilAt.erase {H : Heap} {s : Slm} {t : T} (h : FilAt H s t) : t.erase = t := by
  rcases h with ⟨_, rfl⟩ | ⟨_, bf, rfl, _⟩ <;> rfl
theorem FilAt.cell {H : Heap} {s : Slm} {t : T} (h : FilAt H s t) : t.cells? = some [t] := by
  rcases h with ⟨_, rfl⟩ | ⟨_, bf, rfl, _⟩ <;> rfl
theorem rdOk_sh {bs : List Nat} (h : rdOk bs = true) : 1 ≤ rdB bs ∧ rdB bs ≤ 65536 ∧ 1 ≤ rdH bs ∧ rdH bs ≤ 16 := by
  simp -implicitDefEqProofs only [rdOk, shOk, Bool.and_eq_true, decide_eq_true_eq] at h
  omega
theorem filter103 (kf : SK) (s : Slm) (hk : KOk kf s.fil) (hb : SlmB s) (H : Heap) : W env (.call 103 [.agg (eSl kf s)]) H (fun o H' => Ext H H' ∧ ((slimOk s = false ∧ ∃ t, o = .val (.tup [t, .bool false]) ∧ t = .nilp) ∨ (slimOk s = true ∧ ∃ t, FilAt H' s t ∧ o = .val (.tup [t, .bool true])))) := by
  refine W.fnI rfl rfl rfl ?_
  obtain ⟨H1, hH1⟩ : ∃ H1, H1 = H ++ [B.cells (eSl kf s)] := ⟨_, rfl⟩
  have hx1 : Ext H H1 := ⟨_, hH1⟩
  have c1 : H1[H.length]? = some (.cells (eSl kf s)) := by rw [hH1]; exact g_tail rfl
  unfold eSl at c1
  have hH1' := hH1
  unfold eSl at hH1'
  by_cases h0 : s.id = 0
  · by_cases hv : s.val = ⟨#[]⟩
    · by_cases hl : s.fil.length = 0
      · have e : slimOk s = true := by unfold slimOk; rw [if_pos h0, decide_eq_true hv, decide_eq_true hl]; rfl
        have e2 : FilAt H1 s .nilp := .inl ⟨h0, rfl⟩
        simp -implicitDefEqProofs only [ir103, eSl, op, ef, cl, sq, reduceIte, j3, j4, j5, j6, j7, j8, j9, y1, y3, S1, S2, h0, hv, hl, List.length_map]
        rw [h0, hv] at hH1'
        rw [← hH1']
        exact ⟨hx1, .inr ⟨e, _, e2, rfl⟩⟩
      · have e : slimOk s = false := by unfold slimOk; rw [if_pos h0, decide_eq_false hl, Bool.and_false]
        simp -implicitDefEqProofs only [ir103, eSl, op, ef, cl, sq, reduceIte, j3, j4, j5, j6, j7, j8, j9, y1, y3, S1, S2, h0, hv, hl, List.length_map, e]
        rw [h0, hv] at hH1'
        rw [← hH1']
        exact ⟨hx1, .inl ⟨_, rfl, rfl⟩⟩
    · have e : slimOk s = false := by unfold slimOk; rw [if_pos h0, decide_eq_false hv, Bool.false_and]
      simp -implicitDefEqProofs only [ir103, eSl, op, ef, cl, sq, reduceIte, j3, j4, j5, j6, j7, j8, j9, y1, y3, S1, S2, h0, hv, e]
      rw [h0] at hH1'
      rw [← hH1']
      exact ⟨hx1, .inl ⟨_, rfl, rfl⟩⟩
  have kk : kf ≠ .nil ∨ s.fil = [] := by
    by_cases e : kf = .nil
    · exact .inr (hk e)
    · exact .inl e
  simp -implicitDefEqProofs only [ir103, eSl, op, ef, cl, sq, reduceIte, j3, j4, j5, j6, j7, j8, j9, y1, y3, S1, S2, h0]
  rw [← hH1']
  refine callB_of _ _ _ _ _ _ _ _ (bread137 kf s.fil kk hb.1 hb.2.1 _) ?_
  rintro u H2 ⟨hx2, hu⟩
  have hx2 : Ext H1 H2 := hx2
  have c2 := hx2.get c1
  rcases hu with ⟨hno, hu⟩ | ⟨hyes, bf, hu, hpv⟩
  · cases hu
    have e : slimOk s = false := by unfold slimOk; rw [if_neg h0, hno, Bool.and_false, Bool.false_and]
    by_cases h6 : s.id < 65536 <;> (simp -implicitDefEqProofs only [op, ef, cl, sq, reduceIte, j3, j4, j5, j6, j7, j8, j9, y1, y3, S1, S2, c1, c2, h6, e]; exact ⟨hx1.trans hx2, .inl ⟨_, rfl, rfl⟩⟩)
  cases hu
  by_cases h6 : s.id < 65536
  · have h6' : ¬ 65536 ≤ s.id := by omega
    have e : slimOk s = false := by unfold slimOk; rw [if_neg h0, decide_eq_false h6', Bool.false_and, Bool.false_and]
    simp -implicitDefEqProofs only [op, ef, cl, sq, reduceIte, j3, j4, j5, j6, j7, j8, j9, y1, y3, S1, S2, c1, c2, h6, e]
    exact ⟨hx1.trans hx2, .inl ⟨_, rfl, rfl⟩⟩
  have h6' : 65536 ≤ s.id := by omega
  obtain ⟨b1, b2, j1, j2⟩ := rdOk_sh hyes
  simp -implicitDefEqProofs only [op, ef, cl, sq, reduceIte, j3, j4, j5, j6, j7, j8, j9, y1, y3, S1, S2, c1, c2, h6]
  refine callB_of _ _ _ _ _ _ _ _ (has55 hpv b1 b2 j2 s.key hb.2.2) ?_
  rintro u H3 ⟨hx3, hu⟩
  cases hu
  have hx3 : Ext H2 H3 := hx3
  have c3 := hx3.get c2
  have e : slimOk s = (plcs s.key (rdB s.fil) (rdH s.fil)).all (rdS s.fil) := by unfold slimOk; rw [if_neg h0, decide_eq_true h6', hyes]; rfl
  rw [e]
  cases hh : (plcs s.key (rdB s.fil) (rdH s.fil)).all (rdS s.fil)
  · simp -implicitDefEqProofs only [op, ef, cl, sq, reduceIte, j3, j4, j5, j6, j7, j8, j9, y1, y3, S1, c2, c3]
    exact ⟨hx1.trans (hx2.trans hx3), .inl ⟨_, rfl, rfl⟩⟩
  · simp -implicitDefEqProofs only [op, ef, cl, sq, reduceIte, j3, j4, j5, j6, j7, j8, j9, y1, y3, S1, c2, c3]
    exact ⟨hx1.trans (hx2.trans hx3), .inr ⟨_, .inr ⟨h0, bf, rfl, hpv.ext hx3⟩, rfl⟩⟩
def formed (l : List Slm) : Bool := decide (1 ≤ l.length) && decide (l.length ≤ 1024) && l.all slimOk && decide ((l.map Slm.key).Nodup)
theorem formed_bad {l : List Slm} {i : Nat} {s : Slm} (hs : l[i]? = some s) (h : slimOk s = false ∨ s.key ∈ (l.take i).map Slm.key) : formed l = false := by
  rcases h with h | h
  · have : l.all slimOk = false := by
      rw [Bool.eq_false_iff]; intro ha
      have := List.all_eq_true.1 ha s (List.mem_of_getElem? hs)
      rw [h] at this; cases this
    unfold formed; rw [this, Bool.and_false, Bool.false_and]
  · have : ¬ (l.map Slm.key).Nodup := fun hn => by
      have hi := (List.getElem?_eq_some_iff.1 hs).1
      have e : l.map Slm.key = (l.take i).map Slm.key ++ (l.drop i).map Slm.key := by rw [← List.map_append, List.take_append_drop]
      rw [e, List.nodup_append] at hn
      refine hn.2.2 s.key h s.key ?_ rfl
      refine List.mem_map_of_mem (List.mem_iff_getElem?.2 ⟨0, ?_⟩)
      rw [List.getElem?_drop]; simpa using hs
    unfold formed; rw [decide_eq_false this, Bool.and_false]
def Fils (H : Heap) (l : List Slm) (ps : List T) : Prop := ps.length = l.length ∧ ∀ (i : Nat) s t, l[i]? = some s → ps[i]? = some t → FilAt H s t
def eT (t : T) : List T := [t]
set_option maxHeartbeats 1000000 in
theorem filters54 (k : SK) (l : List Slm) (hb : ∀ s ∈ l, SlmB s) (hl : l.length ≤ 8000000) (H : Heap) : W env (.call 54 [.sl k (l.map (eSl .arg))]) H (fun o H' => Ext H H' ∧ ((formed l = false ∧ ∃ kp, o = .val (.tup [.sl kp [], .bool false])) ∨ (formed l = true ∧ ∃ kp ps, Fils H' l ps ∧ o = .val (.tup [.sl kp (ps.map eT), .bool true])))) := by
  refine W.fnI rfl rfl rfl ?_
  by_cases h1 : l.length < 1
  · have h1' : ¬ 1 ≤ l.length := by omega
    have e : formed l = false := by unfold formed; rw [decide_eq_false h1', Bool.false_and, Bool.false_and, Bool.false_and]
    simp -implicitDefEqProofs only [ir54, op, ef, cl, sq, reduceIte, j3, j4, j5, j6, j7, j8, j9, y1, y3, S1, List.length_map, h1, e]
    exact ⟨Ext.rfl', .inl ⟨_, rfl⟩⟩
  by_cases h2 : 1024 < l.length
  · have h2' : ¬ l.length ≤ 1024 := by omega
    have e : formed l = false := by unfold formed; rw [decide_eq_false h2', Bool.and_false, Bool.false_and, Bool.false_and]
    simp -implicitDefEqProofs only [ir54, op, ef, cl, sq, reduceIte, j3, j4, j5, j6, j7, j8, j9, y1, y3, S1, List.length_map, h1, h2, e]
    exact ⟨Ext.rfl', .inl ⟨_, rfl⟩⟩
  obtain ⟨H1, hH1⟩ : ∃ H1, H1 = H ++ [B.map []] := ⟨_, rfl⟩
  have hx1 : Ext H H1 := ⟨_, hH1⟩
  have c1 : H1[H.length]? = some (.map (encK T.str [])) := by rw [hH1]; exact g_tail rfl
  simp -implicitDefEqProofs only [ir54, op, ef, cl, sq, reduceIte, j3, j4, j5, j6, j7, j8, j9, y1, y3, S1, List.length_map, h1, h2]
  rw [← hH1]
  refine W.loopV [(4, _), (19, _), (20, _)] (fun (i : Nat) R H' => At H' (fun H' => ∃ kp ps es, R 5 = .sl kp (ps.map eT) ∧ Ext H H' ∧ Apd H1.length H' kp ∧ Fils H' (l.take i) ps ∧ H'[H.length]? = some (.map (encK T.str es)) ∧ ∀ key, (key ∈ (l.take i).map Slm.key → mlook es key = some (T.int .i64 1)) ∧ (key ∉ (l.take i).map Slm.key → mlook es key = none)) ∧ R 21 = .int .i64 i ∧ i ≤ l.length ∧ (l.take i).all slimOk = true ∧ ((l.take i).map Slm.key).Nodup) (fun i => l.length - i) 0 ⟨.i ⟨.nil, [], [], rfl, hx1, apd_nil _ _, ⟨rfl, fun i s t a b => by simp at b⟩, c1, fun key => ⟨fun h => by simp at h, fun _ => rfl⟩⟩, rfl, Nat.zero_le _, rfl, List.nodup_nil⟩ ?_
  rintro i R H2 ⟨⟨kp, ps, es, g5, hx2, hap, hfs, hm, hes⟩, g21, hi, hall, hnd⟩
  by_cases hlt : i < l.length
  rotate_left
  · have hie : i = l.length := by omega
    subst hie
    rw [List.take_length] at hall hnd hfs
    have e : formed l = true := by unfold formed; rw [decide_eq_true (by omega), decide_eq_true (by omega), hall, decide_eq_true hnd]; rfl
    simp -implicitDefEqProofs only [mkR_nil, mkR_cons, op, ef, cl, sq, reduceIte, j3, j4, j5, j6, j7, j8, j9, y1, y3, S1, List.length_map, g5, g21, hlt, e]
    exact ⟨hx2, .inr ⟨kp, ps, hfs, rfl⟩⟩
  obtain ⟨s, hs⟩ := getP hlt
  have ix := iadX (e := eSl .arg) (n := 4) (fun _ => rfl) (by decide) (k := k) hs
  have ws := wrap_succ (show i < 9223372036854775807 by omega)
  have hx2' : H1.length ≤ H2.length := by
    have := glt hm; rw [hH1]; simp; omega
  obtain ⟨H3, hH3⟩ : ∃ H3, H3 = H2 ++ [B.cells (eSl .arg s)] := ⟨_, rfl⟩
  have hx3 : Ext H2 H3 := ⟨_, hH3⟩
  have c3 : H3[H2.length]? = some (.cells (eSl .arg s)) := by rw [hH3]; exact g_tail rfl
  unfold eSl at c3
  have hH3' := hH3
  unfold eSl at hH3'
  have ld4 : ∀ Hx, ldc Hx 4 (.iptr (eSl .arg s)) = some [.str s.key, .int .u64 s.id, .str s.val, .sl .arg (s.fil.map eB)] := fun _ => rfl
  simp -implicitDefEqProofs only [mkR_nil, mkR_cons, op, ef, cl, sq, reduceIte, j3, j4, j5, j6, j7, j8, j9, y1, y3, S1, S2, S3, List.length_map, g21, hlt, natOf_nat, ix, ld4]
  rw [← hH3']
  refine callB_of _ _ _ _ _ _ _ _ (filter103 .arg s (fun h => by cases h) (hb s (List.mem_of_getElem? hs)) _) ?_
  rintro u H4 ⟨hx4, hu⟩
  have hx4 : Ext H3 H4 := hx4
  have c4 := hx4.get c3
  have hm4 := (hx3.trans hx4).get hm
  have hl4 := glt hm4
  have hl4c := glt c4
  have hlne : H.length ≠ H2.length := by have := glt hm; omega
  have hxx : Ext H (H4.set H.length (.map (encK T.str (mput es s.key (T.int .i64 1))))) := (hx2.trans (hx3.trans hx4)).set (Nat.le_refl _) _
  by_cases hk : s.key ∈ (l.take i).map Slm.key
  · have e := formed_bad hs (.inr hk)
    have hes1 : mlook es s.key = some (T.int .i64 1) := (hes _).1 hk
    have w2 : IntKind.i64.wrap (1 + 1) = 2 := rfl
    have hes2 : ∀ v, mlook (mput es s.key v) s.key = some v := fun v => by rw [mlook_put, if_pos rfl]
    have hxx2 : Ext H (H4.set H.length (.map (encK T.str (mput es s.key (T.int .i64 2))))) := (hx2.trans (hx3.trans hx4)).set (Nat.le_refl _) _
    rcases hu with ⟨hno, t, hu, rfl⟩ | ⟨hyes, t, hfa, hu⟩
    · cases hu
      simp -implicitDefEqProofs only [op, ef, cl, sq, reduceIte, j3, j4, j5, j6, j7, j8, j9, y1, y3, S1, S2, c3, c4, hm4, hl4, hl4c, hlne, hes1, w2, e]
      exact ⟨hxx2, .inl ⟨_, rfl⟩⟩
    · cases hu
      simp -implicitDefEqProofs only [op, ef, cl, sq, reduceIte, j3, j4, j5, j6, j7, j8, j9, y1, y3, S1, S2, c3, c4, hm4, hl4, hl4c, hlne, hes1, w2, hes2, e]
      exact ⟨hxx2, .inl ⟨_, rfl⟩⟩
  have hes1 : mlook es s.key = none := (hes _).2 hk
  have w1 : IntKind.i64.wrap (0 + 1) = 1 := rfl
  have hes2 : ∀ v, mlook (mput es s.key v) s.key = some v := fun v => by rw [mlook_put, if_pos rfl]
  rcases hu with ⟨hno, t, hu, rfl⟩ | ⟨hyes, t, hfa, hu⟩
  · cases hu
    have e := formed_bad hs (.inl hno)
    simp -implicitDefEqProofs only [op, ef, cl, sq, reduceIte, j3, j4, j5, j6, j7, j8, j9, y1, y3, S1, S2, c3, c4, hm4, hl4, hl4c, hlne, hes1, w1, e]
    exact ⟨hxx, .inl ⟨_, rfl⟩⟩
  cases hu
  have he := hfa.erase
  have hcl := hfa.cell
  obtain ⟨H5, hH5⟩ : ∃ H5, H5 = H4.set H.length (.map (encK T.str (mput es s.key (T.int .i64 1)))) := ⟨_, rfl⟩
  rw [← hH5] at hxx
  have hap5 : Apd H1.length H5 kp := by rw [hH5]; exact (hap.ext (hx3.trans hx4)).set hm4 (by simp) _
  have hallp := all_map (enc := eT) (n := 1) (fun _ => rfl) ps
  obtain ⟨kp', H6, ha, hap', hst'⟩ := app_ok (bytes := 8) (ps.map eT) [[t]] hap5 (by rw [hH5, List.length_set]; exact Nat.le_trans hx2' (hx3.trans hx4).len) (by simp) (roomT (by rw [List.length_map, hfs.1, List.length_take]; simp -implicitDefEqProofs only [List.length_cons, List.length_nil]; omega))
  have hst5 := hst'.ext H (by rw [hH1]; simp) hxx
  have m5 : H5[H.length]? = some (.map (encK T.str (mput es s.key (T.int .i64 1)))) := by rw [hH5]; exact g_eq hl4
  have m6 := hst'.cells hap5 m5 (by simp)
  simp -implicitDefEqProofs only [op, ef, cl, sq, reduceIte, j3, j4, j5, j6, j7, j8, j9, y1, y3, S1, he] at ha
  simp -implicitDefEqProofs only [op, ef, cl, sq, reduceIte, j3, j4, j5, j6, j7, j8, j9, y1, y3, S1, S2, c3, c4, hm4, hl4, hl4c, hlne, hes1, w1, hes2, he]
  rw [← hH5]
  simp -implicitDefEqProofs only [mkR_nil, mkR_cons, op, ef, cl, sq, reduceIte, j3, j4, j5, j6, j7, j8, j9, y1, y3, S1, S2, g5, g21, hcl, he, hallp, ha, ws]
  have mv5 : ∀ (b : Nat) cs, H4[b]? = some (.cells cs) → H5[b]? = some (.cells cs) := fun b cs hc => by
    have hne : H.length ≠ b := fun e => by subst e; rw [hc] at hm4; cases hm4
    rw [hH5, g_ne hne]; exact hc
  have mv6 : ∀ (b : Nat) cs, H5[b]? = some (.cells cs) → H6[b]? = some (.cells cs) := fun b cs hc => hst'.cells hap5 hc (by simp)
  have htk : l.take (i + 1) = l.take i ++ [s] := by rw [List.take_add_one, hs]; rfl
  refine ⟨i + 1, by omega, .i ⟨kp', ps ++ [t], _, by rw [List.map_append]; rfl, hst5, hap', ?_, m6, ?_⟩, rfl, hlt, ?_, ?_⟩
  · rw [htk]
    refine ⟨by simp [hfs.1], fun j s' t' hs' ht' => ?_⟩
    by_cases hj : j < ps.length
    · rw [List.getElem?_append_left (by rw [← hfs.1]; exact hj)] at hs'
      rw [List.getElem?_append_left hj] at ht'
      exact (((hfs.2 j s' t' hs' ht').ext (hx3.trans hx4)).mv mv5).mv mv6
    · have hjj : j = ps.length := by
        have := (List.getElem?_eq_some_iff.1 ht').1
        simp at this; omega
      subst hjj
      rw [hfs.1, List.getElem?_append_right (Nat.le_refl _)] at hs'
      rw [List.getElem?_append_right (Nat.le_refl _)] at ht'
      simp at hs' ht'
      subst hs'; subst ht'
      exact (hfa.mv mv5).mv mv6
  · intro key
    rw [htk, mlook_put, List.map_append]
    by_cases e : key = s.key
    · subst e
      exact ⟨fun _ => by simp, fun h => absurd (List.mem_append_right _ (by simp)) h⟩
    · rw [if_neg e]
      refine ⟨fun h => (hes key).1 ?_, fun h => (hes key).2 fun hh => h (List.mem_append_left _ hh)⟩
      rcases List.mem_append.1 h with h | h
      · exact h
      · simp at h; exact absurd h e
  · rw [htk, List.all_append, hall]; simp [hyes]
  · rw [htk, List.map_append]
    rw [List.nodup_append]
    refine ⟨hnd, by simp, fun a ha b hb e => ?_⟩
    simp at hb
    subst hb; subst e
    exact hk ha
end Go.Proofs.YtmgldhlcapjdkaaGreat.St
end

section
namespace Go.Proofs.YtmgldhlcapjdkaaGreat.St
open Go.Rmp Go.Proofs.YtmgldhlcapjdkaaGreat.Ir
set_option maxRecDepth 10000
def newAt (l : List Nat) (j : Nat) : Bool := decide (j = 0) || !decide (l.getD j 0 = l.getD (j - 1) 0)
def ddx (l : List Nat) (i : Nat) : List Nat := ((List.range i).filter (newAt l)).map fun j => l.getD j 0
theorem ddx_succ (l : List Nat) (i : Nat) : ddx l (i + 1) = ddx l i ++ if newAt l i then [l.getD i 0] else [] := by
  unfold ddx
  rw [List.range_succ, List.filter_append, List.map_append]
  congr 1
  cases h : newAt l i <;> simp [h]
theorem ddx_len (l : List Nat) (i : Nat) : (ddx l i).length ≤ i := by
  unfold ddx; rw [List.length_map]; have := List.length_filter_le (newAt l) (List.range i); simpa using this
theorem getD_of {l : List Nat} {i x : Nat} (h : l[i]? = some x) : l.getD i 0 = x := by rw [List.getD_eq_getElem?_getD, h]; rfl
theorem ddx_mem {l : List Nat} {x : Nat} : x ∈ ddx l l.length ↔ x ∈ l := by
  constructor
  · intro h
    unfold ddx at h
    obtain ⟨j, hj, rfl⟩ := List.mem_map.1 h
    have hj := List.mem_range.1 (List.mem_filter.1 hj).1
    rw [getD_of (List.getElem?_eq_getElem hj)]
    exact List.getElem_mem hj
  · intro h
    obtain ⟨j, hj, rfl⟩ := List.getElem_of_mem h
    have key : ∀ (j : Nat) (hj : j < l.length), l[j] ∈ ddx l (j + 1) := by
      intro j
      induction j with
      | zero => intro hj; rw [ddx_succ]; simp [newAt, hj]
      | succ j ih =>
        intro hj
        rw [ddx_succ]
        cases hn : newAt l (j + 1)
        · simp -implicitDefEqProofs only [newAt, Nat.add_sub_cancel, Bool.or_eq_false_iff, decide_eq_false_iff_not, Bool.not_eq_false', decide_eq_true_eq] at hn
          have e := hn.2
          rw [getD_of (List.getElem?_eq_getElem hj), getD_of (List.getElem?_eq_getElem (Nat.lt_of_succ_lt hj))] at e
          rw [e]
          exact List.mem_append_left _ (ih (by omega))
        · rw [getD_of (List.getElem?_eq_getElem hj)]; simp
    have mono : ∀ m, m ≤ l.length → j + 1 ≤ m → l[j] ∈ ddx l m := by
      intro m
      induction m with
      | zero => intro _ h; omega
      | succ m ih =>
        intro hm hjm
        by_cases e : j + 1 = m + 1
        · rw [← e]; exact key j hj
        · rw [ddx_succ]; exact List.mem_append_left _ (ih (by omega) (by omega))
    exact mono _ (Nat.le_refl _) hj
theorem frzE_take (cs : List T) (m : Nat) : frzE cs 0 m 1 = frzE (cs.take m) 0 m 1 := by
  unfold frzE
  refine List.map_congr_left fun i hi => ?_
  have hi := List.mem_range.1 hi
  rw [List.drop_take, List.take_take, Nat.min_eq_left (by omega)]
set_option maxHeartbeats 1000000 in
theorem compactM57 (b : Nat) (l : List Nat) (H : Heap) (hb : H[b]? = some (.cells (msC eU l))) (h1 : 1 ≤ l.length) (hl : l.length < 4611686018427387903) :
    W env (.call 57 [.msl b 0 l.length 1]) H (fun o H' => ∃ cs, o = .val (.msl b 0 (ddx l l.length).length 1) ∧ H'[b]? = some (.cells cs) ∧ cs.take (ddx l l.length).length = msC eU (ddx l l.length) ∧ Frm (fun c => c = b) H H') := by
  refine W.fnI rfl rfl rfl ?_
  have hml : (msC eU l).length = l.length := by rw [msC_len (enc := eU) (n := 1) (fun _ => rfl)]; omega
  have e1 : ddx l 1 = l.take 1 := by
    cases l with
    | nil => simp at h1
    | cons a l => simp [ddx, newAt, List.range_succ]
  by_cases h2 : l.length < 2
  · have hl1 : l.length = 1 := by omega
    have e : ddx l l.length = l := by rw [hl1, e1]; exact List.take_of_length_le (by omega)
    simp -implicitDefEqProofs only [ir57, op, ef, cl, sq, reduceIte, j3, j4, j5, j6, j7, j8, j9, y1, y3, S1, h2]
    refine ⟨_, by rw [e], hb, ?_, Frm.refl _ _⟩
    rw [e]; exact List.take_of_length_le (by omega)
  simp -implicitDefEqProofs only [ir57, op, ef, cl, sq, reduceIte, j3, j4, j5, j6, j7, j8, j9, y1, y3, S1, h2]
  refine W.loopV [(0, _)] (fun (i : Nat) R H' => H' = H ∧ R 3 = .int .i64 i ∧ 1 ≤ i ∧ i ≤ l.length ∧ ddx l i = l.take i) (fun i => l.length - i) 1 ⟨rfl, rfl, Nat.le_refl _, h1, e1⟩ ?_
  rintro i R H ⟨rfl, g3, i1, hi, hd⟩
  by_cases hlt : i < l.length
  rotate_left
  · have hie : i = l.length := by omega
    subst hie
    rw [List.take_length] at hd
    simp -implicitDefEqProofs only [mkR_nil, mkR_cons, op, ef, cl, sq, reduceIte, j3, j4, j5, j6, j7, j8, j9, y1, y3, S1, g3, hlt]
    exact ⟨_, by rw [hd], hb, by rw [hd]; exact List.take_of_length_le (by omega), Frm.refl _ _⟩
  obtain ⟨x, hx⟩ := getP hlt
  obtain ⟨y, hy⟩ := getP (l := l) (i := i - 1) (by omega)
  have ws := wrap_succ (show i < 9223372036854775807 by omega)
  have wp := wrap_pred (show i < 9223372036854775807 by omega) i1
  have ii := iadm1 (c := b) hlt
  have ip := iadm1 (c := b) (show i - 1 < l.length by omega)
  have gx := msC_get (enc := eU) (n := 1) (fun _ => rfl) hx 0 1 (by decide)
  have gy := msC_get (enc := eU) (n := 1) (fun _ => rfl) hy 0 1 (by decide)
  simp -implicitDefEqProofs only [Nat.add_zero, List.drop_zero, eU, List.take_succ_cons, List.take_zero] at gx gy
  by_cases he : x = y
  rotate_left
  · have hn : newAt l i = true := by
      simp -implicitDefEqProofs only [newAt, getD_of hx, getD_of hy, he, decide_false, Bool.not_false, Bool.or_true]
    simp -implicitDefEqProofs only [mkR_nil, mkR_cons, op, ef, cl, sq, reduceIte, j3, j4, j5, j6, j7, j8, j9, y1, y3, S1, g3, hlt, natOf_nat, ii, ip, wp, hb, eU, gx, gy, he, ws]
    exact ⟨i + 1, by omega, rfl, by omega, hlt, by rw [ddx_succ, hn, hd, List.take_add_one, hx, if_pos rfl, getD_of hx]; rfl⟩
  have hn : newAt l i = false := by
    have : ¬ i = 0 := by omega
    simp -implicitDefEqProofs only [newAt, getD_of hx, getD_of hy, he, decide_true, Bool.not_true, Bool.or_false, this, decide_false]
  have hile : i ≤ l.length := by omega
  have hine : ¬ i = l.length := by omega
  simp -implicitDefEqProofs only [mkR_nil, mkR_cons, op, ef, cl, sq, reduceIte, j3, j4, j5, j6, j7, j8, j9, y1, y3, S1, g3, hlt, natOf_nat, ii, ip, wp, hb, eU, gx, gy, he, hile, hine, and_self, Nat.le_refl]
  have hd1 : ddx l (i + 1) = l.take i := by rw [ddx_succ, hn, hd]; simp
  refine W.loopV [(0, _), (4, _)] (fun (j : Nat) R H' => At H' (fun H' => ∃ arr : List Nat, H'[b]? = some (.cells (msC eU arr)) ∧ arr.length = l.length ∧ arr.take (ddx l (i + j)).length = ddx l (i + j) ∧ (∀ p, (ddx l (i + j)).length ≤ p → arr[p]? = l[p]?) ∧ Frm (fun c => c = b) H H') ∧ R 5 = .int .i64 j ∧ R 3 = .int .i64 (ddx l (i + j)).length ∧ 1 ≤ j ∧ i + j ≤ l.length ∧ (ddx l (i + j)).length < i + j) (fun j => l.length - j) 1 ⟨.i ⟨l, hb, rfl, ?_, fun p _ => rfl, Frm.refl _ _⟩, rfl, ?_, Nat.le_refl _, hlt, ?_⟩ ?_
  · rw [hd1, List.length_take, Nat.min_eq_left hile]
  · rw [hd1, List.length_take, Nat.min_eq_left hile]; exact g3
  · rw [hd1, List.length_take, Nat.min_eq_left hile]; omega
  rintro j R H2 ⟨⟨arr, hb2, harr, htk, hrest, hfr⟩, g5, g3', j1, hj, hkl⟩
  obtain ⟨k, hk⟩ : ∃ k, k = (ddx l (i + j)).length := ⟨_, rfl⟩
  rw [← hk] at htk hrest g3' hkl
  have hal : (msC eU arr).length = l.length := by rw [msC_len (enc := eU) (n := 1) (fun _ => rfl)]; omega
  by_cases hjl : i + j < l.length
  rotate_left
  · have hje : i + j = l.length := by omega
    have hjlt : ¬ j < l.length - i := by omega
    rw [hje] at hk htk
    have hk1 : k ≤ l.length := by omega
    have hk2 : ¬ k = l.length := by omega
    have hk0 : 1 ≤ k := by
      rw [hk]
      have hm : l[0]'(by omega) ∈ ddx l l.length := ddx_mem.2 (List.getElem_mem (by omega))
      exact List.length_pos_of_mem hm
    have hk0' : ¬ 0 = k := by omega
    have hcl : k * 1 + (l.length - k) * 1 ≤ (msC eU arr).length := by rw [hal]; omega
    simp -implicitDefEqProofs only [mkR_nil, mkR_cons, op, ef, cl, sq, reduceIte, j3, j4, j5, j6, j7, j8, j9, y1, y3, S1, g5, g3', hjlt, natOf_nat, hk1, hk2, hk0', Nat.le_refl, Nat.zero_le, and_self, clrV_msl, hb2, clrB, hcl]
    refine ⟨_, by rw [← hk, Nat.zero_mul, Nat.sub_zero], g_eq (glt hb2), ?_, hfr.set (.inl rfl) _⟩
    rw [← hk, Nat.mul_one, List.append_assoc, List.take_append_of_le_length (by rw [List.length_take, hal]; omega), List.take_take, Nat.min_self]
    have := msC_take (enc := eU) (n := 1) (fun _ => rfl) arr k
    rw [Nat.mul_one] at this
    rw [this, htk]
  have hjlt : j < l.length - i := by omega
  obtain ⟨x2, hx2⟩ := getP hjl
  obtain ⟨y2, hy2⟩ := getP (l := l) (i := i + (j - 1)) (by omega)
  have hax : arr[i + j]? = some x2 := by rw [hrest _ (by omega)]; exact hx2
  have hay : arr[i + (j - 1)]? = some y2 := by rw [hrest _ (by omega)]; exact hy2
  have wsj := wrap_succ (show j < 9223372036854775807 by omega)
  have wpj := wrap_pred (show j < 9223372036854775807 by omega) j1
  have wsk := wrap_succ (show k < 9223372036854775807 by omega)
  have e7 : i * 1 + j * 1 = (i + j) * 1 := by omega
  have e8 : i * 1 + (j - 1) * 1 = (i + (j - 1)) * 1 := by omega
  have ij : iadT 1 j (.msl b (i * 1) (l.length - i) 1) = some (.ptr b ((i + j) * 1)) := by rw [iad_m, if_pos hjlt, if_neg (by decide), e7]
  have ijp : iadT 1 (j - 1) (.msl b (i * 1) (l.length - i) 1) = some (.ptr b ((i + (j - 1)) * 1)) := by rw [iad_m, if_pos (by omega), if_neg (by decide), e8]
  have ik := iadm1 (c := b) (show k < l.length by omega)
  have gx2 := msC_get (enc := eU) (n := 1) (fun _ => rfl) hax 0 1 (by decide)
  have gy2 := msC_get (enc := eU) (n := 1) (fun _ => rfl) hay 0 1 (by decide)
  obtain ⟨z, hz⟩ := getP (l := arr) (i := k) (by omega)
  have ss := fun Hx => msC_set (enc := eU) (n := 1) (y := x2) (fun _ => rfl) hz Hx b (eU x2) 0 (by simp [eU]) (by simp [eU])
  simp -implicitDefEqProofs only [Nat.add_zero, List.drop_zero, eU, List.take_succ_cons, List.take_zero] at gx2 gy2 ss
  have e9 : i + j - 1 = i + (j - 1) := by omega
  have ij0 : ¬ i + j = 0 := by omega
  by_cases he2 : x2 = y2
  · have hn2 : newAt l (i + j) = false := by
      simp -implicitDefEqProofs only [newAt, e9, getD_of hx2, getD_of hy2, he2, decide_true, Bool.not_true, Bool.or_false, ij0, decide_false]
    have hd2 : ddx l (i + (j + 1)) = ddx l (i + j) := by rw [show i + (j + 1) = i + j + 1 by omega, ddx_succ, hn2]; simp
    simp -implicitDefEqProofs only [mkR_nil, mkR_cons, op, ef, cl, sq, reduceIte, j3, j4, j5, j6, j7, j8, j9, y1, y3, S1, g5, g3', hjlt, natOf_nat, ij, ijp, wpj, hb2, eU, gx2, gy2, he2, wsj]
    refine ⟨j + 1, by omega, .i ⟨arr, hb2, harr, by rw [hd2, ← hk]; exact htk, by rw [hd2, ← hk]; exact hrest, hfr⟩, rfl, by rw [hd2, hk], by omega, by omega, by rw [hd2, ← hk]; omega⟩
  · have hn2 : newAt l (i + j) = true := by
      simp -implicitDefEqProofs only [newAt, e9, getD_of hx2, getD_of hy2, he2, decide_false, Bool.not_false, Bool.or_true]
    have hd2 : ddx l (i + (j + 1)) = ddx l (i + j) ++ [x2] := by rw [show i + (j + 1) = i + j + 1 by omega, ddx_succ, hn2, getD_of hx2]; simp
    have hdl : (ddx l (i + (j + 1))).length = k + 1 := by rw [hd2, List.length_append, ← hk]; rfl
    simp -implicitDefEqProofs only [mkR_nil, mkR_cons, op, ef, cl, sq, reduceIte, j3, j4, j5, j6, j7, j8, j9, y1, y3, S1, g5, g3', hjlt, natOf_nat, ij, ijp, ik, wpj, hb2, eU, gx2, gy2, he2, ss, wsj, wsk]
    refine ⟨j + 1, by omega, .i ⟨arr.set k x2, g_eq (glt hb2), by rw [List.length_set]; exact harr, ?_, ?_, hfr.set (.inl rfl) _⟩, rfl, by rw [hdl], by omega, by omega, by rw [hdl]; omega⟩
    · rw [hdl, hd2, List.take_add_one, List.getElem?_set_self (by omega), List.take_set_of_le (Nat.le_refl _), htk]; rfl
    · intro p hp
      rw [hdl] at hp
      rw [List.getElem?_set_ne (by omega)]
      exact hrest p (by omega)
theorem compact57 (b : Nat) (l : List Nat) (H : Heap) (hb : H[b]? = some (.cells (msC eU l))) (h1 : 1 ≤ l.length) (hl : l.length < 4611686018427387903) :
    W env (.call 57 [.msl b 0 l.length 1]) H (fun o H' => o = .val (.sl .arg ((ddx l l.length).map eU)) ∧ Frm (fun c => c = b) H H') := by
  refine .frz _ (compactM57 b l H hb h1 hl) ?_
  rintro o H' ⟨cs, ho, hc, ht, hfr⟩
  refine ⟨_, b, cs, ho, rfl, hc, ?_, hfr.set (.inl rfl) _⟩
  have hlen : (ddx l l.length).length ≤ cs.length := by
    have h3 := congrArg List.length ht
    rw [List.length_take, msC_len (enc := eU) (n := 1) (fun _ => rfl)] at h3
    omega
  have hc0 : 0 + (ddx l l.length).length * 1 ≤ cs.length := by omega
  simp -implicitDefEqProofs only [frzV, Go.Rmp.frz1, hc0, and_self, if_true]
  rw [frzE_take, ht, frzE_ms (enc := eU) (n := 1) (fun _ => rfl)]
end Go.Proofs.YtmgldhlcapjdkaaGreat.St
end

section
namespace Go.Proofs.YtmgldhlcapjdkaaGreat.St
open Go.Rmp Go.Proofs.YtmgldhlcapjdkaaGreat.Ir
set_option maxRecDepth 10000
def hasF (x : Slm) (t : ByteArray) : Bool := (plcs t (rdB x.fil) (rdH x.fil)).all (rdS x.fil)
def mayH (y x : Slm) : Bool := decide (y.id < x.id) && hasF x y.key
def idsOf (l : List Slm) (y : Slm) : List Nat := (l.filter (mayH y)).map Slm.id
def srtL (l : List Nat) : List Nat := (Go.Sort.sort Un.ltN l.toArray).toList
def riseL (l : List Nat) : List Nat := ddx (srtL l) (srtL l).length
theorem srtL_ok (l : List Nat) : (srtL l).Perm l ∧ (srtL l).Pairwise (· ≤ ·) := by
  obtain ⟨⟨hs, _, hp⟩, hsort⟩ := Go.Sort.sort_sorts Un.ltN Un.ltN_swo l.toArray
  have e1 : (Go.Sort.sort Un.ltN l.toArray).extract 0 l.toArray.size = Go.Sort.sort Un.ltN l.toArray := by
    conv => lhs; arg 3; rw [← hs]
    simp
  have hperm : (srtL l).Perm l := by
    rw [e1] at hp
    simpa [srtL] using hp
  refine ⟨hperm, ?_⟩
  rw [List.pairwise_iff_getElem]
  intro i j hi hj hij
  have h1 := hsort i j (Nat.zero_le _) hij (by rw [← hs]; simpa [srtL] using hj)
  have gi := arr_get (d := Go.Sort.sort Un.ltN l.toArray) (i := i) (by simpa [srtL] using hi)
  have gj := arr_get (d := Go.Sort.sort Un.ltN l.toArray) (i := j) (by simpa [srtL] using hj)
  unfold srtL at hi hj ⊢
  rw [List.getElem?_eq_getElem hi] at gi
  rw [List.getElem?_eq_getElem hj] at gj
  rw [Option.some.inj gi, Option.some.inj gj]
  simp -implicitDefEqProofs only [Un.ltN, decide_eq_false_iff_not] at h1
  omega
abbrev Ak := ByteArray × List Nat
def eA (a : Ak) : List T := [.str a.1, .sl .arg (a.2.map eU)]
def askOf (l : List Slm) (y : Slm) : List Ak := if idsOf l y = [] then [] else [(y.key, riseL (idsOf l y))]
def asksOf (l : List Slm) (m : List Slm) : List Ak := m.flatMap (askOf l)
theorem asksOf_len (l m : List Slm) : (asksOf l m).length ≤ m.length := by
  induction m with
  | nil => simp [asksOf]
  | cons y m ih =>
    simp -implicitDefEqProofs only [asksOf, List.flatMap_cons, List.length_append, List.length_cons] at ih ⊢
    have : (askOf l y).length ≤ 1 := by unfold askOf; split <;> simp
    omega
theorem asksOf_snoc (l m : List Slm) (y : Slm) : asksOf l (m ++ [y]) = asksOf l m ++ askOf l y := by simp [asksOf]
theorem formed_ok {l : List Slm} (h : formed l = true) : 1 ≤ l.length ∧ l.length ≤ 1024 ∧ (∀ s ∈ l, slimOk s = true) ∧ (l.map Slm.key).Nodup := by
  simp -implicitDefEqProofs only [formed, Bool.and_eq_true, decide_eq_true_eq, List.all_eq_true] at h
  exact ⟨h.1.1.1, h.1.1.2, h.1.2, h.2⟩
theorem slimOk_rd {s : Slm} (h : slimOk s = true) (h0 : s.id ≠ 0) : rdOk s.fil = true := by
  unfold slimOk at h
  rw [if_neg h0] at h
  simp -implicitDefEqProofs only [Bool.and_eq_true] at h
  exact h.1.2
theorem filter_snoc {α : Type} {p : α → Bool} {l : List α} {i : Nat} {x : α} (hx : l[i]? = some x) : (l.take (i + 1)).filter p = (l.take i).filter p ++ if p x then [x] else [] := by
  rw [List.take_add_one, hx, List.filter_append]
  congr 1
  cases h : p x <;> simp [h]
set_option maxHeartbeats 4000000 in
theorem needs17 (k : SK) (l : List Slm) (hb : ∀ s ∈ l, SlmB s) (hl : l.length ≤ 8000000) (H : Heap) : W env (.call 17 [.sl k (l.map (eSl .arg))]) H (fun o H' => Ext H H' ∧ ((formed l = false ∧ ∃ ka, o = .val (.tup [.sl ka [], .int .i64 1])) ∨ (formed l = true ∧ ∃ ka, o = .val (.tup [.sl ka ((asksOf l l).map eA), .int .i64 0])))) := by
  refine W.fnI rfl rfl rfl ?_
  simp -implicitDefEqProofs only [ir17, op, ef, cl, sq, reduceIte, j3, j4, j5, j6, j7, j8, j9, y1, y3, S1]
  refine callB_of _ _ _ _ _ _ _ _ (filters54 k l hb hl _) ?_
  rintro u H1 ⟨hx1, ⟨hno, kp, hu⟩ | ⟨hyes, kp, ps, hfs, hu⟩⟩
  · cases hu
    simp -implicitDefEqProofs only [op, ef, cl, sq, reduceIte, j3, j4, j5, j6, j7, j8, j9, y1, y3, S1, hno]
    exact ⟨hx1, .inl ⟨_, rfl⟩⟩
  cases hu
  have hx1 : Ext H H1 := hx1
  obtain ⟨l1, l2, hok, hnd⟩ := formed_ok hyes
  simp -implicitDefEqProofs only [op, ef, cl, sq, reduceIte, j3, j4, j5, j6, j7, j8, j9, y1, y3, S1, hyes, List.length_map]
  refine W.loopV [(0, _), (4, _), (19, _), (20, _)] (fun (i : Nat) R H' => At H' (fun H' => ∃ ka, R 6 = .sl ka ((asksOf l (l.take i)).map eA) ∧ Ext H1 H' ∧ Apd H1.length H' ka) ∧ R 21 = .int .i64 i ∧ i ≤ l.length) (fun i => l.length - i) 0 ⟨.i ⟨.nil, rfl, Ext.rfl', apd_nil _ _⟩, rfl, Nat.zero_le _⟩ ?_
  rintro i R H2 ⟨⟨ka, g6, hx2, hap⟩, g21, hi⟩
  by_cases hlt : i < l.length
  rotate_left
  · have hie : i = l.length := by omega
    subst hie
    rw [List.take_length] at g6
    simp -implicitDefEqProofs only [mkR_nil, mkR_cons, op, ef, cl, sq, reduceIte, j3, j4, j5, j6, j7, j8, j9, y1, y3, S1, List.length_map, g6, g21, hlt]
    exact ⟨hx1.trans hx2, .inr ⟨ka, rfl⟩⟩
  obtain ⟨y, hy⟩ := getP hlt
  have iy := iadX (e := eSl .arg) (n := 4) (fun _ => rfl) (by decide) (k := k) hy
  have ws := wrap_succ (show i < 9223372036854775807 by omega)
  obtain ⟨H3, hH3⟩ : ∃ H3, H3 = H2 ++ [B.cells (eSl .arg y)] := ⟨_, rfl⟩
  have hx3 : Ext H2 H3 := ⟨_, hH3⟩
  have c3 : H3[H2.length]? = some (.cells (eSl .arg y)) := by rw [hH3]; exact g_tail rfl
  unfold eSl at c3
  have hH3' := hH3
  unfold eSl at hH3'
  have ld4 : ∀ Hx, ldc Hx 4 (.iptr (eSl .arg y)) = some [.str y.key, .int .u64 y.id, .str y.val, .sl .arg (y.fil.map eB)] := fun _ => rfl
  simp -implicitDefEqProofs only [mkR_nil, mkR_cons, op, ef, cl, sq, reduceIte, j3, j4, j5, j6, j7, j8, j9, y1, y3, S1, S2, S3, List.length_map, g21, hlt, natOf_nat, iy, ld4]
  rw [← hH3']
  have hyb := hb y (List.mem_of_getElem? hy)
  refine W.loopX 2 [(0, _), (4, _), (6, _), (8, _), (19, _), (20, _), (21, _), (25, _), (26, _)] (fun (j : Nat) R H' => At H' (fun H' => Mut eU 1 H3.length H' (R 9) (idsOf (l.take j) y) ∧ Ext H3 H') ∧ R 27 = .int .i64 j ∧ j ≤ l.length) (fun j => l.length - j) 0
    (fun R H' => At H' (fun H' => Mut eU 1 H3.length H' (R 9) (idsOf l y) ∧ Ext H3 H')) ⟨.i ⟨mut_nil _ _ _ _, Ext.rfl'⟩, rfl, Nat.zero_le _⟩ ?_ ?_
  · rintro j R H4 ⟨⟨hm, hx4⟩, g27, hj⟩
    have c4 := hx4.get c3
    by_cases hjl : j < l.length
    rotate_left
    · have hje : j = l.length := by omega
      subst hje
      rw [List.take_length] at hm
      have hpl : ¬ l.length < ps.length := by rw [hfs.1]; omega
      simp -implicitDefEqProofs only [mkR_nil, mkR_cons, op, ef, cl, sq, reduceIte, j3, j4, j5, j6, j7, j8, j9, y1, y3, S1, List.length_map, g27, hfs.1, Nat.lt_irrefl, exitQ]
      exact .i ⟨hm, hx4⟩
    obtain ⟨x, hx⟩ := getP hjl
    obtain ⟨t, ht⟩ := getP (l := ps) (i := j) (by rw [hfs.1]; exact hjl)
    have it := iadX (e := eT) (n := 1) (fun _ => rfl) (by decide) (k := kp) ht
    have ixx := iadX (e := eSl .arg) (n := 4) (fun _ => rfl) (by decide) (k := k) hx
    have wsj := wrap_succ (show j < 9223372036854775807 by omega)
    have x1 : fadT 1 (.iptr (eSl .arg x)) = some (.iptr [.int .u64 x.id, .str x.val, .sl .arg (x.fil.map eB)]) := rfl
    have hfa := ((hfs.2 j x t hx ht).ext (hx2.trans hx3)).ext hx4
    have hfl := filter_snoc (p := mayH y) hx
    have skip : mayH y x = false → idsOf (l.take (j + 1)) y = idsOf (l.take j) y := fun e => by
      unfold idsOf; rw [hfl, e]; simp
    rcases hfa with ⟨hid, rfl⟩ | ⟨hid, bf, rfl, hpv⟩
    · have e : mayH y x = false := by unfold mayH; rw [decide_eq_false (by omega), Bool.false_and]
      simp -implicitDefEqProofs only [mkR_nil, mkR_cons, op, ef, cl, sq, reduceIte, j3, j4, j5, j6, j7, j8, j9, y1, y3, S1, List.length_map, hfs.1, g27, hjl, natOf_nat, it, eT, eqRef, nilOf, wsj]
      exact ⟨j + 1, by omega, .i ⟨by rw [skip e]; exact hm, hx4⟩, rfl, hjl⟩
    by_cases hgt : y.id < x.id
    rotate_left
    · have e : mayH y x = false := by unfold mayH; rw [decide_eq_false hgt, Bool.false_and]
      simp -implicitDefEqProofs only [mkR_nil, mkR_cons, op, ef, cl, sq, reduceIte, j3, j4, j5, j6, j7, j8, j9, y1, y3, S1, List.length_map, hfs.1, g27, hjl, natOf_nat, it, eT, eqRef, nilOf, ixx, x1, c4, hgt, wsj]
      exact ⟨j + 1, by omega, .i ⟨by rw [skip e]; exact hm, hx4⟩, rfl, hjl⟩
    obtain ⟨b1, b2, j1, j2⟩ := rdOk_sh (slimOk_rd (hok x (List.mem_of_getElem? hx)) hid)
    simp -implicitDefEqProofs only [mkR_nil, mkR_cons, op, ef, cl, sq, reduceIte, j3, j4, j5, j6, j7, j8, j9, y1, y3, S1, List.length_map, hfs.1, g27, hjl, natOf_nat, it, eT, eqRef, nilOf, ixx, x1, c4, hgt]
    refine callB_of _ _ _ _ _ _ _ _ (has55 hpv b1 b2 j2 y.key hyb.2.2) ?_
    rintro u H5 ⟨hx5, hu⟩
    cases hu
    have hx5 : Ext H4 H5 := hx5
    have c5 := hx5.get c4
    cases hh : (plcs y.key (rdB x.fil) (rdH x.fil)).all (rdS x.fil)
    · have e : mayH y x = false := by unfold mayH hasF; rw [hh, Bool.and_false]
      simp -implicitDefEqProofs only [op, ef, cl, sq, reduceIte, j3, j4, j5, j6, j7, j8, j9, y1, y3, S1, g27, c4, c5, wsj]
      exact ⟨j + 1, by omega, .i ⟨by rw [skip e]; exact hm.ext hx5, hx4.trans hx5⟩, rfl, hjl⟩
    have e : mayH y x = true := by unfold mayH hasF; rw [hh, decide_eq_true hgt]; rfl
    have hll : (idsOf (l.take j) y).length ≤ 1024 := by
      unfold idsOf; rw [List.length_map]
      have := List.length_filter_le (mayH y) (l.take j)
      rw [List.length_take] at this; omega
    obtain ⟨t', H6, ha, hm6, hst6⟩ := appM_ok (enc := eU) (n := 1) (fun _ => rfl) (bytes := 8) [x.id] (hm.ext hx5) (hx4.trans hx5).len (by simp) (roomT (by simp -implicitDefEqProofs only [List.length_cons, List.length_nil]; omega))
    have hfg := fgt_mut (hm.ext hx5)
    have ha2 : appM H5 1 8 (R 9) [[.int .u64 x.id]] = some (t', H6) := ha
    simp -implicitDefEqProofs only [op, ef, cl, sq, reduceIte, j3, j4, j5, j6, j7, j8, j9, y1, y3, S1, g27, c4, c5, natOf_nat, ixx, x1, hfg, ha2, wsj]
    refine ⟨j + 1, by omega, .i ⟨?_, hst6.ext H3 (Nat.le_refl _) (hx4.trans hx5)⟩, rfl, hjl⟩
    have e2 : idsOf (l.take (j + 1)) y = idsOf (l.take j) y ++ [x.id] := by unfold idsOf; rw [hfl, e]; simp
    rw [e2]
    exact hm6
  · rintro R H4 ⟨hm, hx4⟩
    have hx4 : Ext H3 H4 := hx4
    have c4 := hx4.get c3
    have hmlen := hm.len
    have hll : (idsOf l y).length ≤ 1024 := by
      unfold idsOf; rw [List.length_map]
      have := List.length_filter_le (mayH y) l
      omega
    have htk : asksOf l (l.take (i + 1)) = asksOf l (l.take i) ++ askOf l y := by
      rw [List.take_add_one, hy]; exact asksOf_snoc _ _ _
    by_cases h0 : idsOf l y = []
    · have e : asksOf l (l.take (i + 1)) = asksOf l (l.take i) := by rw [htk, askOf, if_pos h0, List.append_nil]
      have hz : lenT H4 .sl (R 9) = some 0 := by rw [hmlen, h0]; rfl
      have nlt : ¬ 0 < 0 := by omega
      simp -implicitDefEqProofs only [mkR_nil, mkR_cons, op, ef, cl, sq, reduceIte, j3, j4, j5, j6, j7, j8, j9, y1, y3, S1, g6, g21, hz, ws]
      exact ⟨i + 1, by omega, .i ⟨ka, by rw [e], (hx2.trans hx3).trans hx4, (hap.ext hx3).ext hx4⟩, rfl, hlt⟩
    have hpos : 0 < (idsOf l y).length := List.length_pos_iff.2 h0
    rcases hm with ⟨h, _⟩ | ⟨c, g9, hc, hcn⟩
    · exact absurd h h0
    simp -implicitDefEqProofs only [mkR_nil, mkR_cons, op, ef, cl, sq, reduceIte, j3, j4, j5, j6, j7, j8, j9, y1, y3, S1, g9, lenT, hpos]
    have harr : (idsOf l y).toArray.toList = idsOf l y := List.toList_toArray
    refine callB_of _ _ _ _ _ _ _ _ (Un.sortO55 c (idsOf l y).toArray H4 (by rw [harr]; exact hc) (by simp; omega)) ?_
    rintro u H5 ⟨hu, d', hd', hds, he, hfr5⟩
    cases hu
    subst he
    have hlen5 : (srtL (idsOf l y)).length = (idsOf l y).length := (srtL_ok _).1.length_eq
    have hd5 : H5[c]? = some (.cells (msC eU (srtL (idsOf l y)))) := hd'
    have hx5 : Ext H3 H5 := frm_extG hx4 hfr5 fun b hb => by subst hb; exact hcn
    have c5 := hx5.get c3
    simp -implicitDefEqProofs only [op, ef, cl, sq, reduceIte, j3, j4, j5, j6, j7, j8, j9, y1, y3, S1, g9, c5]
    rw [← hlen5]
    refine callB_of _ _ _ _ _ _ _ _ (compact57 c _ H5 hd5 (by omega) (by omega)) ?_
    rintro u H6 ⟨hu, hfr6⟩
    cases hu
    have hx6 : Ext H3 H6 := frm_extG hx5 hfr6 fun b hb => by subst hb; exact hcn
    have c6 := hx6.get c3
    have hall := all_map (enc := eA) (n := 2) (fun _ => rfl) (asksOf l (l.take i))
    have hal := asksOf_len l (l.take i)
    rw [List.length_take] at hal
    obtain ⟨k', H7, ha, hap', hst'⟩ := app_ok (bytes := 40) ((asksOf l (l.take i)).map eA) [[T.str y.key, .sl .arg ((riseL (idsOf l y)).map eU)]] ((hap.ext hx3).ext hx6) (Nat.le_trans hx2.len (hx3.trans hx6).len) (by simp) (roomT (by simp -implicitDefEqProofs only [List.length_map, List.length_cons, List.length_nil]; omega))
    simp -implicitDefEqProofs only [op, ef, cl, sq, reduceIte, j3, j4, j5, j6, j7, j8, j9, y1, y3, S1] at ha
    unfold riseL at ha
    simp -implicitDefEqProofs only [op, ef, cl, sq, reduceIte, j3, j4, j5, j6, j7, j8, j9, y1, y3, S1, g6, g21, c5, c6, hall, ha, ws]
    refine ⟨i + 1, by omega, .i ⟨k', ?_, hst'.ext H1 (Nat.le_refl _) ((hx2.trans hx3).trans hx6), hap'⟩, rfl, hlt⟩
    rw [htk, askOf, if_neg h0, List.map_append]; rfl
end Go.Proofs.YtmgldhlcapjdkaaGreat.St
end
