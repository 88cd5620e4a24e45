/- Part of a proof of a law of this seat: the machine of plain values, its simulation, and the contracts of the functions that the law reaches. Conditions: none beyond the given row. -/
import Derived.Test.YtmgldhlcapjdkaaGreatM5
import Derived.Test.YtmgldhlcapjdkaaGreatRows
import Derived.WalkKit
import Derived.ProofKit
import Derived.OpenShut
import Derived.JoinedCond
import Derived.ChangeBears
open Int renaming reduceLT → q1, reduceLE → q2, reduceBEq → q3, reduceBNe → q4, reduceEq → q5
open Nat renaming reduceAdd → q6, reduceLeDiff → q7, reduceLT → q8, reduceEqDiff → q9
set_option linter.unusedSimpArgs false
set_option linter.unusedVariables false
set_option linter.unnecessarySimpa false
set_option maxHeartbeats 4000000
section
namespace Go.Proofs.YtmgldhlcapjdkaaGreat.St
open Go.Rmp Go.Proofs.YtmgldhlcapjdkaaGreat.Ir
set_option maxRecDepth 10000
def slimOk (s : Slm) : Bool := if s.id = 0 then decide (s.val = ⟨#[]⟩) && decide (s.fil.length = 0) else decide (65536 ≤ s.id) && rdOk s.fil && (plcs s.key (rdB s.fil) (rdH s.fil)).all (rdS s.fil)
def SlmB (s : Slm) : Prop := Bytes s.fil ∧ s.fil.length ≤ 1073741824 ∧ s.key.size < 9223372036854775807
def FilAt (H : Heap) (s : Slm) (t : T) : Prop := (s.id = 0 ∧ t = .nilp) ∨ (s.id ≠ 0 ∧ ∃ bf, t = .ptr bf 0 ∧ PV H bf (rdB s.fil) (rdH s.fil) (rdS s.fil))
theorem FilAt.ext {H H' : Heap} {s : Slm} {t : T} (h : FilAt H s t) (hx : Ext H H') : FilAt H' s t := by
  rcases h with h | ⟨h, bf, e, p⟩
  · exact .inl h
  · exact .inr ⟨h, bf, e, p.ext hx⟩
theorem FilAt.mv {H H' : Heap} {s : Slm} {t : T} (h : FilAt H s t) (hx : ∀ (b : Nat) cs, H[b]? = some (.cells cs) → H'[b]? = some (.cells cs)) : FilAt H' s t := by
  rcases h with h | ⟨h, bf, e, p⟩
  · exact .inl h
  · obtain ⟨k, hb⟩ := p.hb
    exact .inr ⟨h, bf, e, ⟨k, hx _ _ hb⟩⟩
theorem FilAt.erase {H : Heap} {s : Slm} {t : T} (h : FilAt H s t) : t.erase = t := by
  rcases h with ⟨_, rfl⟩ | ⟨_, bf, rfl, _⟩ <;> rfl
theorem FilAt.cell {H : Heap} {s : Slm} {t : T} (h : FilAt H s t) : t.cells? = some [t] := by
  rcases h with ⟨_, rfl⟩ | ⟨_, bf, rfl, _⟩ <;> rfl
theorem rdOk_sh {bs : List Nat} (h : rdOk bs = true) : 1 ≤ rdB bs ∧ rdB bs ≤ 65536 ∧ 1 ≤ rdH bs ∧ rdH bs ≤ 16 := by
  simp -implicitDefEqProofs only [rdOk, shOk, Bool.and_eq_true, decide_eq_true_eq] at h
  omega
theorem filter103 (kf : SK) (s : Slm) (hk : KOk kf s.fil) (hb : SlmB s) (H : Heap) : W env (.call 103 [.agg (eSl kf s)]) H (fun o H' => Ext H H' ∧ ((slimOk s = false ∧ ∃ t, o = .val (.tup [t, .bool false]) ∧ t = .nilp) ∨ (slimOk s = true ∧ ∃ t, FilAt H' s t ∧ o = .val (.tup [t, .bool true])))) := by
  refine W.fnI rfl rfl rfl ?_
  obtain ⟨H1, hH1⟩ : ∃ H1, H1 = H ++ [B.cells (eSl kf s)] := ⟨_, rfl⟩
  have hx1 : Ext H H1 := ⟨_, hH1⟩
  have c1 : H1[H.length]? = some (.cells (eSl kf s)) := by rw [hH1]; exact g_tail rfl
  unfold eSl at c1
  have hH1' := hH1
  unfold eSl at hH1'
  by_cases h0 : s.id = 0
  · by_cases hv : s.val = ⟨#[]⟩
    · by_cases hl : s.fil.length = 0
      · have e : slimOk s = true := by unfold slimOk; rw [if_pos h0, decide_eq_true hv, decide_eq_true hl]; rfl
        have e2 : FilAt H1 s .nilp := .inl ⟨h0, rfl⟩
        simp -implicitDefEqProofs only [ir103, eSl, op, ef, cl, sq, reduceIte, q1, q2, q3, q4, q5, q6, q7, q8, q9, S1, S2, h0, hv, hl, List.length_map]
        rw [h0, hv] at hH1'
        rw [← hH1']
        exact ⟨hx1, .inr ⟨e, _, e2, rfl⟩⟩
      · have e : slimOk s = false := by unfold slimOk; rw [if_pos h0, decide_eq_false hl, Bool.and_false]
        simp -implicitDefEqProofs only [ir103, eSl, op, ef, cl, sq, reduceIte, q1, q2, q3, q4, q5, q6, q7, q8, q9, S1, S2, h0, hv, hl, List.length_map, e]
        rw [h0, hv] at hH1'
        rw [← hH1']
        exact ⟨hx1, .inl ⟨_, rfl, rfl⟩⟩
    · have e : slimOk s = false := by unfold slimOk; rw [if_pos h0, decide_eq_false hv, Bool.false_and]
      simp -implicitDefEqProofs only [ir103, eSl, op, ef, cl, sq, reduceIte, q1, q2, q3, q4, q5, q6, q7, q8, q9, S1, S2, h0, hv, e]
      rw [h0] at hH1'
      rw [← hH1']
      exact ⟨hx1, .inl ⟨_, rfl, rfl⟩⟩
  have kk : kf ≠ .nil ∨ s.fil = [] := by
    by_cases e : kf = .nil
    · exact .inr (hk e)
    · exact .inl e
  simp -implicitDefEqProofs only [ir103, eSl, op, ef, cl, sq, reduceIte, q1, q2, q3, q4, q5, q6, q7, q8, q9, S1, S2, h0]
  rw [← hH1']
  refine callB_of _ _ _ _ _ _ _ _ (bread137 kf s.fil kk hb.1 hb.2.1 _) ?_
  rintro u H2 ⟨hx2, hu⟩
  have hx2 : Ext H1 H2 := hx2
  have c2 := hx2.get c1
  rcases hu with ⟨hno, hu⟩ | ⟨hyes, bf, hu, hpv⟩
  · cases hu
    have e : slimOk s = false := by unfold slimOk; rw [if_neg h0, hno, Bool.and_false, Bool.false_and]
    by_cases h6 : s.id < 65536 <;> (simp -implicitDefEqProofs only [op, ef, cl, sq, reduceIte, q1, q2, q3, q4, q5, q6, q7, q8, q9, S1, S2, c1, c2, h6, e]; exact ⟨hx1.trans hx2, .inl ⟨_, rfl, rfl⟩⟩)
  cases hu
  by_cases h6 : s.id < 65536
  · have h6' : ¬ 65536 ≤ s.id := by omega
    have e : slimOk s = false := by unfold slimOk; rw [if_neg h0, decide_eq_false h6', Bool.false_and, Bool.false_and]
    simp -implicitDefEqProofs only [op, ef, cl, sq, reduceIte, q1, q2, q3, q4, q5, q6, q7, q8, q9, S1, S2, c1, c2, h6, e]
    exact ⟨hx1.trans hx2, .inl ⟨_, rfl, rfl⟩⟩
  have h6' : 65536 ≤ s.id := by omega
  obtain ⟨b1, b2, j1, j2⟩ := rdOk_sh hyes
  simp -implicitDefEqProofs only [op, ef, cl, sq, reduceIte, q1, q2, q3, q4, q5, q6, q7, q8, q9, S1, S2, c1, c2, h6]
  refine callB_of _ _ _ _ _ _ _ _ (has55 hpv b1 b2 j2 s.key hb.2.2) ?_
  rintro u H3 ⟨hx3, hu⟩
  cases hu
  have hx3 : Ext H2 H3 := hx3
  have c3 := hx3.get c2
  have e : slimOk s = (plcs s.key (rdB s.fil) (rdH s.fil)).all (rdS s.fil) := by unfold slimOk; rw [if_neg h0, decide_eq_true h6', hyes]; rfl
  rw [e]
  cases hh : (plcs s.key (rdB s.fil) (rdH s.fil)).all (rdS s.fil)
  · simp -implicitDefEqProofs only [op, ef, cl, sq, reduceIte, q1, q2, q3, q4, q5, q6, q7, q8, q9, S1, c2, c3]
    exact ⟨hx1.trans (hx2.trans hx3), .inl ⟨_, rfl, rfl⟩⟩
  · simp -implicitDefEqProofs only [op, ef, cl, sq, reduceIte, q1, q2, q3, q4, q5, q6, q7, q8, q9, S1, c2, c3]
    exact ⟨hx1.trans (hx2.trans hx3), .inr ⟨_, .inr ⟨h0, bf, rfl, hpv.ext hx3⟩, rfl⟩⟩
def formed (l : List Slm) : Bool := decide (1 ≤ l.length) && decide (l.length ≤ 1024) && l.all slimOk && decide ((l.map Slm.key).Nodup)
theorem formed_bad {l : List Slm} {i : Nat} {s : Slm} (hs : l[i]? = some s) (h : slimOk s = false ∨ s.key ∈ (l.take i).map Slm.key) : formed l = false := by
  rcases h with h | h
  · have : l.all slimOk = false := by
      rw [Bool.eq_false_iff]; intro ha
      have := List.all_eq_true.1 ha s (List.mem_of_getElem? hs)
      rw [h] at this; cases this
    unfold formed; rw [this, Bool.and_false, Bool.false_and]
  · have : ¬ (l.map Slm.key).Nodup := fun hn => by
      have hi := (List.getElem?_eq_some_iff.1 hs).1
      have e : l.map Slm.key = (l.take i).map Slm.key ++ (l.drop i).map Slm.key := by rw [← List.map_append, List.take_append_drop]
      rw [e, List.nodup_append] at hn
      refine hn.2.2 s.key h s.key ?_ rfl
      refine List.mem_map_of_mem (List.mem_iff_getElem?.2 ⟨0, ?_⟩)
      rw [List.getElem?_drop]; simpa using hs
    unfold formed; rw [decide_eq_false this, Bool.and_false]
def Fils (H : Heap) (l : List Slm) (ps : List T) : Prop := ps.length = l.length ∧ ∀ (i : Nat) s t, l[i]? = some s → ps[i]? = some t → FilAt H s t
def eT (t : T) : List T := [t]
set_option maxHeartbeats 1000000 in
theorem filters54 (k : SK) (l : List Slm) (hb : ∀ s ∈ l, SlmB s) (hl : l.length ≤ 8000000) (H : Heap) : W env (.call 54 [.sl k (l.map (eSl .arg))]) H (fun o H' => Ext H H' ∧ ((formed l = false ∧ ∃ kp, o = .val (.tup [.sl kp [], .bool false])) ∨ (formed l = true ∧ ∃ kp ps, Fils H' l ps ∧ o = .val (.tup [.sl kp (ps.map eT), .bool true])))) := by
  refine W.fnI rfl rfl rfl ?_
  by_cases h1 : l.length < 1
  · have h1' : ¬ 1 ≤ l.length := by omega
    have e : formed l = false := by unfold formed; rw [decide_eq_false h1', Bool.false_and, Bool.false_and, Bool.false_and]
    simp -implicitDefEqProofs only [ir54, op, ef, cl, sq, reduceIte, q1, q2, q3, q4, q5, q6, q7, q8, q9, S1, List.length_map, h1, e]
    exact ⟨Ext.rfl', .inl ⟨_, rfl⟩⟩
  by_cases h2 : 1024 < l.length
  · have h2' : ¬ l.length ≤ 1024 := by omega
    have e : formed l = false := by unfold formed; rw [decide_eq_false h2', Bool.and_false, Bool.false_and, Bool.false_and]
    simp -implicitDefEqProofs only [ir54, op, ef, cl, sq, reduceIte, q1, q2, q3, q4, q5, q6, q7, q8, q9, S1, List.length_map, h1, h2, e]
    exact ⟨Ext.rfl', .inl ⟨_, rfl⟩⟩
  obtain ⟨H1, hH1⟩ : ∃ H1, H1 = H ++ [B.map []] := ⟨_, rfl⟩
  have hx1 : Ext H H1 := ⟨_, hH1⟩
  have c1 : H1[H.length]? = some (.map (encK T.str [])) := by rw [hH1]; exact g_tail rfl
  simp -implicitDefEqProofs only [ir54, op, ef, cl, sq, reduceIte, q1, q2, q3, q4, q5, q6, q7, q8, q9, S1, List.length_map, h1, h2]
  rw [← hH1]
  refine W.loopV [(4, _), (19, _), (20, _)] (fun (i : Nat) R H' => At H' (fun H' => ∃ kp ps es, R 5 = .sl kp (ps.map eT) ∧ Ext H H' ∧ Apd H1.length H' kp ∧ Fils H' (l.take i) ps ∧ H'[H.length]? = some (.map (encK T.str es)) ∧ ∀ key, (key ∈ (l.take i).map Slm.key → mlook es key = some (T.int .i64 1)) ∧ (key ∉ (l.take i).map Slm.key → mlook es key = none)) ∧ R 21 = .int .i64 i ∧ i ≤ l.length ∧ (l.take i).all slimOk = true ∧ ((l.take i).map Slm.key).Nodup) (fun i => l.length - i) 0 ⟨.i ⟨.nil, [], [], rfl, hx1, apd_nil _ _, ⟨rfl, fun i s t a b => by simp at b⟩, c1, fun key => ⟨fun h => by simp at h, fun _ => rfl⟩⟩, rfl, Nat.zero_le _, rfl, List.nodup_nil⟩ ?_
  rintro i R H2 ⟨⟨kp, ps, es, g5, hx2, hap, hfs, hm, hes⟩, g21, hi, hall, hnd⟩
  by_cases hlt : i < l.length
  rotate_left
  · have hie : i = l.length := by omega
    subst hie
    rw [List.take_length] at hall hnd hfs
    have e : formed l = true := by unfold formed; rw [decide_eq_true (by omega), decide_eq_true (by omega), hall, decide_eq_true hnd]; rfl
    simp -implicitDefEqProofs only [mkR_nil, mkR_cons, op, ef, cl, sq, reduceIte, q1, q2, q3, q4, q5, q6, q7, q8, q9, S1, List.length_map, g5, g21, hlt, e]
    exact ⟨hx2, .inr ⟨kp, ps, hfs, rfl⟩⟩
  obtain ⟨s, hs⟩ := getP hlt
  have ix := iadX (e := eSl .arg) (n := 4) (fun _ => rfl) (by decide) (k := k) hs
  have ws := wrap_succ (show i < 9223372036854775807 by omega)
  have hx2' : H1.length ≤ H2.length := by
    have := glt hm; rw [hH1]; simp; omega
  obtain ⟨H3, hH3⟩ : ∃ H3, H3 = H2 ++ [B.cells (eSl .arg s)] := ⟨_, rfl⟩
  have hx3 : Ext H2 H3 := ⟨_, hH3⟩
  have c3 : H3[H2.length]? = some (.cells (eSl .arg s)) := by rw [hH3]; exact g_tail rfl
  unfold eSl at c3
  have hH3' := hH3
  unfold eSl at hH3'
  have ld4 : ∀ Hx, ldc Hx 4 (.iptr (eSl .arg s)) = some [.str s.key, .int .u64 s.id, .str s.val, .sl .arg (s.fil.map eB)] := fun _ => rfl
  simp -implicitDefEqProofs only [mkR_nil, mkR_cons, op, ef, cl, sq, reduceIte, q1, q2, q3, q4, q5, q6, q7, q8, q9, S1, S2, S3, List.length_map, g21, hlt, natOf_nat, ix, ld4]
  rw [← hH3']
  refine callB_of _ _ _ _ _ _ _ _ (filter103 .arg s (fun h => by cases h) (hb s (List.mem_of_getElem? hs)) _) ?_
  rintro u H4 ⟨hx4, hu⟩
  have hx4 : Ext H3 H4 := hx4
  have c4 := hx4.get c3
  have hm4 := (hx3.trans hx4).get hm
  have hl4 := glt hm4
  have hl4c := glt c4
  have hlne : H.length ≠ H2.length := by have := glt hm; omega
  have hxx : Ext H (H4.set H.length (.map (encK T.str (mput es s.key (T.int .i64 1))))) := (hx2.trans (hx3.trans hx4)).set (Nat.le_refl _) _
  by_cases hk : s.key ∈ (l.take i).map Slm.key
  · have e := formed_bad hs (.inr hk)
    have hes1 : mlook es s.key = some (T.int .i64 1) := (hes _).1 hk
    have w2 : IntKind.i64.wrap (1 + 1) = 2 := rfl
    have hes2 : ∀ v, mlook (mput es s.key v) s.key = some v := fun v => by rw [mlook_put, if_pos rfl]
    have hxx2 : Ext H (H4.set H.length (.map (encK T.str (mput es s.key (T.int .i64 2))))) := (hx2.trans (hx3.trans hx4)).set (Nat.le_refl _) _
    rcases hu with ⟨hno, t, hu, rfl⟩ | ⟨hyes, t, hfa, hu⟩
    · cases hu
      simp -implicitDefEqProofs only [op, ef, cl, sq, reduceIte, q1, q2, q3, q4, q5, q6, q7, q8, q9, S1, S2, c3, c4, hm4, hl4, hl4c, hlne, hes1, w2, e]
      exact ⟨hxx2, .inl ⟨_, rfl⟩⟩
    · cases hu
      simp -implicitDefEqProofs only [op, ef, cl, sq, reduceIte, q1, q2, q3, q4, q5, q6, q7, q8, q9, S1, S2, c3, c4, hm4, hl4, hl4c, hlne, hes1, w2, hes2, e]
      exact ⟨hxx2, .inl ⟨_, rfl⟩⟩
  have hes1 : mlook es s.key = none := (hes _).2 hk
  have w1 : IntKind.i64.wrap (0 + 1) = 1 := rfl
  have hes2 : ∀ v, mlook (mput es s.key v) s.key = some v := fun v => by rw [mlook_put, if_pos rfl]
  rcases hu with ⟨hno, t, hu, rfl⟩ | ⟨hyes, t, hfa, hu⟩
  · cases hu
    have e := formed_bad hs (.inl hno)
    simp -implicitDefEqProofs only [op, ef, cl, sq, reduceIte, q1, q2, q3, q4, q5, q6, q7, q8, q9, S1, S2, c3, c4, hm4, hl4, hl4c, hlne, hes1, w1, e]
    exact ⟨hxx, .inl ⟨_, rfl⟩⟩
  cases hu
  have he := hfa.erase
  have hcl := hfa.cell
  obtain ⟨H5, hH5⟩ : ∃ H5, H5 = H4.set H.length (.map (encK T.str (mput es s.key (T.int .i64 1)))) := ⟨_, rfl⟩
  rw [← hH5] at hxx
  have hap5 : Apd H1.length H5 kp := by rw [hH5]; exact (hap.ext (hx3.trans hx4)).set hm4 (by simp) _
  have hallp := all_map (enc := eT) (n := 1) (fun _ => rfl) ps
  obtain ⟨kp', H6, ha, hap', hst'⟩ := app_ok (bytes := 8) (ps.map eT) [[t]] hap5 (by rw [hH5, List.length_set]; exact Nat.le_trans hx2' (hx3.trans hx4).len) (by simp) (roomT (by rw [List.length_map, hfs.1, List.length_take]; simp -implicitDefEqProofs only [List.length_cons, List.length_nil]; omega))
  have hst5 := hst'.ext H (by rw [hH1]; simp) hxx
  have m5 : H5[H.length]? = some (.map (encK T.str (mput es s.key (T.int .i64 1)))) := by rw [hH5]; exact g_eq hl4
  have m6 := hst'.cells hap5 m5 (by simp)
  simp -implicitDefEqProofs only [op, ef, cl, sq, reduceIte, q1, q2, q3, q4, q5, q6, q7, q8, q9, S1, he] at ha
  simp -implicitDefEqProofs only [op, ef, cl, sq, reduceIte, q1, q2, q3, q4, q5, q6, q7, q8, q9, S1, S2, c3, c4, hm4, hl4, hl4c, hlne, hes1, w1, hes2, he]
  rw [← hH5]
  simp -implicitDefEqProofs only [mkR_nil, mkR_cons, op, ef, cl, sq, reduceIte, q1, q2, q3, q4, q5, q6, q7, q8, q9, S1, S2, g5, g21, hcl, he, hallp, ha, ws]
  have mv5 : ∀ (b : Nat) cs, H4[b]? = some (.cells cs) → H5[b]? = some (.cells cs) := fun b cs hc => by
    have hne : H.length ≠ b := fun e => by subst e; rw [hc] at hm4; cases hm4
    rw [hH5, g_ne hne]; exact hc
  have mv6 : ∀ (b : Nat) cs, H5[b]? = some (.cells cs) → H6[b]? = some (.cells cs) := fun b cs hc => hst'.cells hap5 hc (by simp)
  have htk : l.take (i + 1) = l.take i ++ [s] := by rw [List.take_add_one, hs]; rfl
  refine ⟨i + 1, by omega, .i ⟨kp', ps ++ [t], _, by rw [List.map_append]; rfl, hst5, hap', ?_, m6, ?_⟩, rfl, hlt, ?_, ?_⟩
  · rw [htk]
    refine ⟨by simp [hfs.1], fun j s' t' hs' ht' => ?_⟩
    by_cases hj : j < ps.length
    · rw [List.getElem?_append_left (by rw [← hfs.1]; exact hj)] at hs'
      rw [List.getElem?_append_left hj] at ht'
      exact (((hfs.2 j s' t' hs' ht').ext (hx3.trans hx4)).mv mv5).mv mv6
    · have hjj : j = ps.length := by
        have := (List.getElem?_eq_some_iff.1 ht').1
        simp at this; omega
      subst hjj
      rw [hfs.1, List.getElem?_append_right (Nat.le_refl _)] at hs'
      rw [List.getElem?_append_right (Nat.le_refl _)] at ht'
      simp at hs' ht'
      subst hs'; subst ht'
      exact (hfa.mv mv5).mv mv6
  · intro key
    rw [htk, mlook_put, List.map_append]
    by_cases e : key = s.key
    · subst e
      exact ⟨fun _ => by simp, fun h => absurd (List.mem_append_right _ (by simp)) h⟩
    · rw [if_neg e]
      refine ⟨fun h => (hes key).1 ?_, fun h => (hes key).2 fun hh => h (List.mem_append_left _ hh)⟩
      rcases List.mem_append.1 h with h | h
      · exact h
      · simp at h; exact absurd h e
  · rw [htk, List.all_append, hall]; simp [hyes]
  · rw [htk, List.map_append]
    rw [List.nodup_append]
    refine ⟨hnd, by simp, fun a ha b hb e => ?_⟩
    simp at hb
    subst hb; subst e
    exact hk ha
end Go.Proofs.YtmgldhlcapjdkaaGreat.St
end

section
namespace Go.Proofs.YtmgldhlcapjdkaaGreat.St
open Go.Rmp Go.Proofs.YtmgldhlcapjdkaaGreat.Ir
set_option maxRecDepth 10000
def newAt (l : List Nat) (j : Nat) : Bool := decide (j = 0) || !decide (l.getD j 0 = l.getD (j - 1) 0)
def ddx (l : List Nat) (i : Nat) : List Nat := ((List.range i).filter (newAt l)).map fun j => l.getD j 0
theorem ddx_succ (l : List Nat) (i : Nat) : ddx l (i + 1) = ddx l i ++ if newAt l i then [l.getD i 0] else [] := by
  unfold ddx
  rw [List.range_succ, List.filter_append, List.map_append]
  congr 1
  cases h : newAt l i <;> simp [h]
theorem ddx_len (l : List Nat) (i : Nat) : (ddx l i).length ≤ i := by
  unfold ddx; rw [List.length_map]; have := List.length_filter_le (newAt l) (List.range i); simpa using this
theorem getD_of {l : List Nat} {i x : Nat} (h : l[i]? = some x) : l.getD i 0 = x := by rw [List.getD_eq_getElem?_getD, h]; rfl
theorem ddx_mem {l : List Nat} {x : Nat} : x ∈ ddx l l.length ↔ x ∈ l := by
  constructor
  · intro h
    unfold ddx at h
    obtain ⟨j, hj, rfl⟩ := List.mem_map.1 h
    have hj := List.mem_range.1 (List.mem_filter.1 hj).1
    rw [getD_of (List.getElem?_eq_getElem hj)]
    exact List.getElem_mem hj
  · intro h
    obtain ⟨j, hj, rfl⟩ := List.getElem_of_mem h
    have key : ∀ (j : Nat) (hj : j < l.length), l[j] ∈ ddx l (j + 1) := by
      intro j
      induction j with
      | zero => intro hj; rw [ddx_succ]; simp [newAt, hj]
      | succ j ih =>
        intro hj
        rw [ddx_succ]
        cases hn : newAt l (j + 1)
        · simp -implicitDefEqProofs only [newAt, Nat.add_sub_cancel, Bool.or_eq_false_iff, decide_eq_false_iff_not, Bool.not_eq_false', decide_eq_true_eq] at hn
          have e := hn.2
          rw [getD_of (List.getElem?_eq_getElem hj), getD_of (List.getElem?_eq_getElem (Nat.lt_of_succ_lt hj))] at e
          rw [e]
          exact List.mem_append_left _ (ih (by omega))
        · rw [getD_of (List.getElem?_eq_getElem hj)]; simp
    have mono : ∀ m, m ≤ l.length → j + 1 ≤ m → l[j] ∈ ddx l m := by
      intro m
      induction m with
      | zero => intro _ h; omega
      | succ m ih =>
        intro hm hjm
        by_cases e : j + 1 = m + 1
        · rw [← e]; exact key j hj
        · rw [ddx_succ]; exact List.mem_append_left _ (ih (by omega) (by omega))
    exact mono _ (Nat.le_refl _) hj
theorem frzE_take (cs : List T) (m : Nat) : frzE cs 0 m 1 = frzE (cs.take m) 0 m 1 := by
  unfold frzE
  refine List.map_congr_left fun i hi => ?_
  have hi := List.mem_range.1 hi
  rw [List.drop_take, List.take_take, Nat.min_eq_left (by omega)]
set_option maxHeartbeats 1000000 in
theorem compactM57 (b : Nat) (l : List Nat) (H : Heap) (hb : H[b]? = some (.cells (msC eU l))) (h1 : 1 ≤ l.length) (hl : l.length < 4611686018427387903) :
    W env (.call 57 [.msl b 0 l.length 1]) H (fun o H' => ∃ cs, o = .val (.msl b 0 (ddx l l.length).length 1) ∧ H'[b]? = some (.cells cs) ∧ cs.take (ddx l l.length).length = msC eU (ddx l l.length) ∧ Frm (fun c => c = b) H H') := by
  refine W.fnI rfl rfl rfl ?_
  have hml : (msC eU l).length = l.length := by rw [msC_len (enc := eU) (n := 1) (fun _ => rfl)]; omega
  have e1 : ddx l 1 = l.take 1 := by
    cases l with
    | nil => simp at h1
    | cons a l => simp [ddx, newAt, List.range_succ]
  by_cases h2 : l.length < 2
  · have hl1 : l.length = 1 := by omega
    have e : ddx l l.length = l := by rw [hl1, e1]; exact List.take_of_length_le (by omega)
    simp -implicitDefEqProofs only [ir57, op, ef, cl, sq, reduceIte, q1, q2, q3, q4, q5, q6, q7, q8, q9, S1, h2]
    refine ⟨_, by rw [e], hb, ?_, Frm.refl _ _⟩
    rw [e]; exact List.take_of_length_le (by omega)
  simp -implicitDefEqProofs only [ir57, op, ef, cl, sq, reduceIte, q1, q2, q3, q4, q5, q6, q7, q8, q9, S1, h2]
  refine W.loopV [(0, _)] (fun (i : Nat) R H' => H' = H ∧ R 3 = .int .i64 i ∧ 1 ≤ i ∧ i ≤ l.length ∧ ddx l i = l.take i) (fun i => l.length - i) 1 ⟨rfl, rfl, Nat.le_refl _, h1, e1⟩ ?_
  rintro i R H ⟨rfl, g3, i1, hi, hd⟩
  by_cases hlt : i < l.length
  rotate_left
  · have hie : i = l.length := by omega
    subst hie
    rw [List.take_length] at hd
    simp -implicitDefEqProofs only [mkR_nil, mkR_cons, op, ef, cl, sq, reduceIte, q1, q2, q3, q4, q5, q6, q7, q8, q9, S1, g3, hlt]
    exact ⟨_, by rw [hd], hb, by rw [hd]; exact List.take_of_length_le (by omega), Frm.refl _ _⟩
  obtain ⟨x, hx⟩ := getP hlt
  obtain ⟨y, hy⟩ := getP (l := l) (i := i - 1) (by omega)
  have ws := wrap_succ (show i < 9223372036854775807 by omega)
  have wp := wrap_pred (show i < 9223372036854775807 by omega) i1
  have ii := iadm1 (c := b) hlt
  have ip := iadm1 (c := b) (show i - 1 < l.length by omega)
  have gx := msC_get (enc := eU) (n := 1) (fun _ => rfl) hx 0 1 (by decide)
  have gy := msC_get (enc := eU) (n := 1) (fun _ => rfl) hy 0 1 (by decide)
  simp -implicitDefEqProofs only [Nat.add_zero, List.drop_zero, eU, List.take_succ_cons, List.take_zero] at gx gy
  by_cases he : x = y
  rotate_left
  · have hn : newAt l i = true := by
      simp -implicitDefEqProofs only [newAt, getD_of hx, getD_of hy, he, decide_false, Bool.not_false, Bool.or_true]
    simp -implicitDefEqProofs only [mkR_nil, mkR_cons, op, ef, cl, sq, reduceIte, q1, q2, q3, q4, q5, q6, q7, q8, q9, S1, g3, hlt, natOf_nat, ii, ip, wp, hb, eU, gx, gy, he, ws]
    exact ⟨i + 1, by omega, rfl, by omega, hlt, by rw [ddx_succ, hn, hd, List.take_add_one, hx, if_pos rfl, getD_of hx]; rfl⟩
  have hn : newAt l i = false := by
    have : ¬ i = 0 := by omega
    simp -implicitDefEqProofs only [newAt, getD_of hx, getD_of hy, he, decide_true, Bool.not_true, Bool.or_false, this, decide_false]
  have hile : i ≤ l.length := by omega
  have hine : ¬ i = l.length := by omega
  simp -implicitDefEqProofs only [mkR_nil, mkR_cons, op, ef, cl, sq, reduceIte, q1, q2, q3, q4, q5, q6, q7, q8, q9, S1, g3, hlt, natOf_nat, ii, ip, wp, hb, eU, gx, gy, he, hile, hine, and_self, Nat.le_refl]
  have hd1 : ddx l (i + 1) = l.take i := by rw [ddx_succ, hn, hd]; simp
  refine W.loopV [(0, _), (4, _)] (fun (j : Nat) R H' => At H' (fun H' => ∃ arr : List Nat, H'[b]? = some (.cells (msC eU arr)) ∧ arr.length = l.length ∧ arr.take (ddx l (i + j)).length = ddx l (i + j) ∧ (∀ p, (ddx l (i + j)).length ≤ p → arr[p]? = l[p]?) ∧ Frm (fun c => c = b) H H') ∧ R 5 = .int .i64 j ∧ R 3 = .int .i64 (ddx l (i + j)).length ∧ 1 ≤ j ∧ i + j ≤ l.length ∧ (ddx l (i + j)).length < i + j) (fun j => l.length - j) 1 ⟨.i ⟨l, hb, rfl, ?_, fun p _ => rfl, Frm.refl _ _⟩, rfl, ?_, Nat.le_refl _, hlt, ?_⟩ ?_
  · rw [hd1, List.length_take, Nat.min_eq_left hile]
  · rw [hd1, List.length_take, Nat.min_eq_left hile]; exact g3
  · rw [hd1, List.length_take, Nat.min_eq_left hile]; omega
  rintro j R H2 ⟨⟨arr, hb2, harr, htk, hrest, hfr⟩, g5, g3', j1, hj, hkl⟩
  obtain ⟨k, hk⟩ : ∃ k, k = (ddx l (i + j)).length := ⟨_, rfl⟩
  rw [← hk] at htk hrest g3' hkl
  have hal : (msC eU arr).length = l.length := by rw [msC_len (enc := eU) (n := 1) (fun _ => rfl)]; omega
  by_cases hjl : i + j < l.length
  rotate_left
  · have hje : i + j = l.length := by omega
    have hjlt : ¬ j < l.length - i := by omega
    rw [hje] at hk htk
    have hk1 : k ≤ l.length := by omega
    have hk2 : ¬ k = l.length := by omega
    have hk0 : 1 ≤ k := by
      rw [hk]
      have hm : l[0]'(by omega) ∈ ddx l l.length := ddx_mem.2 (List.getElem_mem (by omega))
      exact List.length_pos_of_mem hm
    have hk0' : ¬ 0 = k := by omega
    have hcl : k * 1 + (l.length - k) * 1 ≤ (msC eU arr).length := by rw [hal]; omega
    simp -implicitDefEqProofs only [mkR_nil, mkR_cons, op, ef, cl, sq, reduceIte, q1, q2, q3, q4, q5, q6, q7, q8, q9, S1, g5, g3', hjlt, natOf_nat, hk1, hk2, hk0', Nat.le_refl, Nat.zero_le, and_self, clrV_msl, hb2, clrB, hcl]
    refine ⟨_, by rw [← hk, Nat.zero_mul, Nat.sub_zero], g_eq (glt hb2), ?_, hfr.set (.inl rfl) _⟩
    rw [← hk, Nat.mul_one, List.append_assoc, List.take_append_of_le_length (by rw [List.length_take, hal]; omega), List.take_take, Nat.min_self]
    have := msC_take (enc := eU) (n := 1) (fun _ => rfl) arr k
    rw [Nat.mul_one] at this
    rw [this, htk]
  have hjlt : j < l.length - i := by omega
  obtain ⟨x2, hx2⟩ := getP hjl
  obtain ⟨y2, hy2⟩ := getP (l := l) (i := i + (j - 1)) (by omega)
  have hax : arr[i + j]? = some x2 := by rw [hrest _ (by omega)]; exact hx2
  have hay : arr[i + (j - 1)]? = some y2 := by rw [hrest _ (by omega)]; exact hy2
  have wsj := wrap_succ (show j < 9223372036854775807 by omega)
  have wpj := wrap_pred (show j < 9223372036854775807 by omega) j1
  have wsk := wrap_succ (show k < 9223372036854775807 by omega)
  have e7 : i * 1 + j * 1 = (i + j) * 1 := by omega
  have e8 : i * 1 + (j - 1) * 1 = (i + (j - 1)) * 1 := by omega
  have ij : iadT 1 j (.msl b (i * 1) (l.length - i) 1) = some (.ptr b ((i + j) * 1)) := by rw [iad_m, if_pos hjlt, if_neg (by decide), e7]
  have ijp : iadT 1 (j - 1) (.msl b (i * 1) (l.length - i) 1) = some (.ptr b ((i + (j - 1)) * 1)) := by rw [iad_m, if_pos (by omega), if_neg (by decide), e8]
  have ik := iadm1 (c := b) (show k < l.length by omega)
  have gx2 := msC_get (enc := eU) (n := 1) (fun _ => rfl) hax 0 1 (by decide)
  have gy2 := msC_get (enc := eU) (n := 1) (fun _ => rfl) hay 0 1 (by decide)
  obtain ⟨z, hz⟩ := getP (l := arr) (i := k) (by omega)
  have ss := fun Hx => msC_set (enc := eU) (n := 1) (y := x2) (fun _ => rfl) hz Hx b (eU x2) 0 (by simp [eU]) (by simp [eU])
  simp -implicitDefEqProofs only [Nat.add_zero, List.drop_zero, eU, List.take_succ_cons, List.take_zero] at gx2 gy2 ss
  have e9 : i + j - 1 = i + (j - 1) := by omega
  have ij0 : ¬ i + j = 0 := by omega
  by_cases he2 : x2 = y2
  · have hn2 : newAt l (i + j) = false := by
      simp -implicitDefEqProofs only [newAt, e9, getD_of hx2, getD_of hy2, he2, decide_true, Bool.not_true, Bool.or_false, ij0, decide_false]
    have hd2 : ddx l (i + (j + 1)) = ddx l (i + j) := by rw [show i + (j + 1) = i + j + 1 by omega, ddx_succ, hn2]; simp
    simp -implicitDefEqProofs only [mkR_nil, mkR_cons, op, ef, cl, sq, reduceIte, q1, q2, q3, q4, q5, q6, q7, q8, q9, S1, g5, g3', hjlt, natOf_nat, ij, ijp, wpj, hb2, eU, gx2, gy2, he2, wsj]
    refine ⟨j + 1, by omega, .i ⟨arr, hb2, harr, by rw [hd2, ← hk]; exact htk, by rw [hd2, ← hk]; exact hrest, hfr⟩, rfl, by rw [hd2, hk], by omega, by omega, by rw [hd2, ← hk]; omega⟩
  · have hn2 : newAt l (i + j) = true := by
      simp -implicitDefEqProofs only [newAt, e9, getD_of hx2, getD_of hy2, he2, decide_false, Bool.not_false, Bool.or_true]
    have hd2 : ddx l (i + (j + 1)) = ddx l (i + j) ++ [x2] := by rw [show i + (j + 1) = i + j + 1 by omega, ddx_succ, hn2, getD_of hx2]; simp
    have hdl : (ddx l (i + (j + 1))).length = k + 1 := by rw [hd2, List.length_append, ← hk]; rfl
    simp -implicitDefEqProofs only [mkR_nil, mkR_cons, op, ef, cl, sq, reduceIte, q1, q2, q3, q4, q5, q6, q7, q8, q9, S1, g5, g3', hjlt, natOf_nat, ij, ijp, ik, wpj, hb2, eU, gx2, gy2, he2, ss, wsj, wsk]
    refine ⟨j + 1, by omega, .i ⟨arr.set k x2, g_eq (glt hb2), by rw [List.length_set]; exact harr, ?_, ?_, hfr.set (.inl rfl) _⟩, rfl, by rw [hdl], by omega, by omega, by rw [hdl]; omega⟩
    · rw [hdl, hd2, List.take_add_one, List.getElem?_set_self (by omega), List.take_set_of_le (Nat.le_refl _), htk]; rfl
    · intro p hp
      rw [hdl] at hp
      rw [List.getElem?_set_ne (by omega)]
      exact hrest p (by omega)
theorem compact57 (b : Nat) (l : List Nat) (H : Heap) (hb : H[b]? = some (.cells (msC eU l))) (h1 : 1 ≤ l.length) (hl : l.length < 4611686018427387903) :
    W env (.call 57 [.msl b 0 l.length 1]) H (fun o H' => o = .val (.sl .arg ((ddx l l.length).map eU)) ∧ Frm (fun c => c = b) H H') := by
  refine .frz _ (compactM57 b l H hb h1 hl) ?_
  rintro o H' ⟨cs, ho, hc, ht, hfr⟩
  refine ⟨_, b, cs, ho, rfl, hc, ?_, hfr.set (.inl rfl) _⟩
  have hlen : (ddx l l.length).length ≤ cs.length := by
    have h3 := congrArg List.length ht
    rw [List.length_take, msC_len (enc := eU) (n := 1) (fun _ => rfl)] at h3
    omega
  have hc0 : 0 + (ddx l l.length).length * 1 ≤ cs.length := by omega
  simp -implicitDefEqProofs only [frzV, Go.Rmp.frz1, hc0, and_self, if_true]
  rw [frzE_take, ht, frzE_ms (enc := eU) (n := 1) (fun _ => rfl)]
end Go.Proofs.YtmgldhlcapjdkaaGreat.St
end

section
namespace Go.Proofs.YtmgldhlcapjdkaaGreat.St
open Go.Rmp Go.Proofs.YtmgldhlcapjdkaaGreat.Ir
set_option maxRecDepth 10000
def hasF (x : Slm) (t : ByteArray) : Bool := (plcs t (rdB x.fil) (rdH x.fil)).all (rdS x.fil)
def mayH (y x : Slm) : Bool := decide (y.id < x.id) && hasF x y.key
def idsOf (l : List Slm) (y : Slm) : List Nat := (l.filter (mayH y)).map Slm.id
def srtL (l : List Nat) : List Nat := (Go.Sort.sort Un.ltN l.toArray).toList
def riseL (l : List Nat) : List Nat := ddx (srtL l) (srtL l).length
theorem srtL_ok (l : List Nat) : (srtL l).Perm l ∧ (srtL l).Pairwise (· ≤ ·) := by
  obtain ⟨⟨hs, _, hp⟩, hsort⟩ := Go.Sort.sort_sorts Un.ltN Un.ltN_swo l.toArray
  have e1 : (Go.Sort.sort Un.ltN l.toArray).extract 0 l.toArray.size = Go.Sort.sort Un.ltN l.toArray := by
    conv => lhs; arg 3; rw [← hs]
    simp
  have hperm : (srtL l).Perm l := by
    rw [e1] at hp
    simpa [srtL] using hp
  refine ⟨hperm, ?_⟩
  rw [List.pairwise_iff_getElem]
  intro i j hi hj hij
  have h1 := hsort i j (Nat.zero_le _) hij (by rw [← hs]; simpa [srtL] using hj)
  have gi := arr_get (d := Go.Sort.sort Un.ltN l.toArray) (i := i) (by simpa [srtL] using hi)
  have gj := arr_get (d := Go.Sort.sort Un.ltN l.toArray) (i := j) (by simpa [srtL] using hj)
  unfold srtL at hi hj ⊢
  rw [List.getElem?_eq_getElem hi] at gi
  rw [List.getElem?_eq_getElem hj] at gj
  rw [Option.some.inj gi, Option.some.inj gj]
  simp -implicitDefEqProofs only [Un.ltN, decide_eq_false_iff_not] at h1
  omega
abbrev Ak := ByteArray × List Nat
def eA (a : Ak) : List T := [.str a.1, .sl .arg (a.2.map eU)]
def askOf (l : List Slm) (y : Slm) : List Ak := if idsOf l y = [] then [] else [(y.key, riseL (idsOf l y))]
def asksOf (l : List Slm) (m : List Slm) : List Ak := m.flatMap (askOf l)
theorem asksOf_len (l m : List Slm) : (asksOf l m).length ≤ m.length := by
  induction m with
  | nil => simp [asksOf]
  | cons y m ih =>
    simp -implicitDefEqProofs only [asksOf, List.flatMap_cons, List.length_append, List.length_cons] at ih ⊢
    have : (askOf l y).length ≤ 1 := by unfold askOf; split <;> simp
    omega
theorem asksOf_snoc (l m : List Slm) (y : Slm) : asksOf l (m ++ [y]) = asksOf l m ++ askOf l y := by simp [asksOf]
theorem formed_ok {l : List Slm} (h : formed l = true) : 1 ≤ l.length ∧ l.length ≤ 1024 ∧ (∀ s ∈ l, slimOk s = true) ∧ (l.map Slm.key).Nodup := by
  simp -implicitDefEqProofs only [formed, Bool.and_eq_true, decide_eq_true_eq, List.all_eq_true] at h
  exact ⟨h.1.1.1, h.1.1.2, h.1.2, h.2⟩
theorem slimOk_rd {s : Slm} (h : slimOk s = true) (h0 : s.id ≠ 0) : rdOk s.fil = true := by
  unfold slimOk at h
  rw [if_neg h0] at h
  simp -implicitDefEqProofs only [Bool.and_eq_true] at h
  exact h.1.2
theorem filter_snoc {α : Type} {p : α → Bool} {l : List α} {i : Nat} {x : α} (hx : l[i]? = some x) : (l.take (i + 1)).filter p = (l.take i).filter p ++ if p x then [x] else [] := by
  rw [List.take_add_one, hx, List.filter_append]
  congr 1
  cases h : p x <;> simp [h]
set_option maxHeartbeats 4000000 in
theorem needs17 (k : SK) (l : List Slm) (hb : ∀ s ∈ l, SlmB s) (hl : l.length ≤ 8000000) (H : Heap) : W env (.call 17 [.sl k (l.map (eSl .arg))]) H (fun o H' => Ext H H' ∧ ((formed l = false ∧ ∃ ka, o = .val (.tup [.sl ka [], .int .i64 1])) ∨ (formed l = true ∧ ∃ ka, o = .val (.tup [.sl ka ((asksOf l l).map eA), .int .i64 0])))) := by
  refine W.fnI rfl rfl rfl ?_
  simp -implicitDefEqProofs only [ir17, op, ef, cl, sq, reduceIte, q1, q2, q3, q4, q5, q6, q7, q8, q9, S1]
  refine callB_of _ _ _ _ _ _ _ _ (filters54 k l hb hl _) ?_
  rintro u H1 ⟨hx1, ⟨hno, kp, hu⟩ | ⟨hyes, kp, ps, hfs, hu⟩⟩
  · cases hu
    simp -implicitDefEqProofs only [op, ef, cl, sq, reduceIte, q1, q2, q3, q4, q5, q6, q7, q8, q9, S1, hno]
    exact ⟨hx1, .inl ⟨_, rfl⟩⟩
  cases hu
  have hx1 : Ext H H1 := hx1
  obtain ⟨l1, l2, hok, hnd⟩ := formed_ok hyes
  simp -implicitDefEqProofs only [op, ef, cl, sq, reduceIte, q1, q2, q3, q4, q5, q6, q7, q8, q9, S1, hyes, List.length_map]
  refine W.loopV [(0, _), (4, _), (19, _), (20, _)] (fun (i : Nat) R H' => At H' (fun H' => ∃ ka, R 6 = .sl ka ((asksOf l (l.take i)).map eA) ∧ Ext H1 H' ∧ Apd H1.length H' ka) ∧ R 21 = .int .i64 i ∧ i ≤ l.length) (fun i => l.length - i) 0 ⟨.i ⟨.nil, rfl, Ext.rfl', apd_nil _ _⟩, rfl, Nat.zero_le _⟩ ?_
  rintro i R H2 ⟨⟨ka, g6, hx2, hap⟩, g21, hi⟩
  by_cases hlt : i < l.length
  rotate_left
  · have hie : i = l.length := by omega
    subst hie
    rw [List.take_length] at g6
    simp -implicitDefEqProofs only [mkR_nil, mkR_cons, op, ef, cl, sq, reduceIte, q1, q2, q3, q4, q5, q6, q7, q8, q9, S1, List.length_map, g6, g21, hlt]
    exact ⟨hx1.trans hx2, .inr ⟨ka, rfl⟩⟩
  obtain ⟨y, hy⟩ := getP hlt
  have iy := iadX (e := eSl .arg) (n := 4) (fun _ => rfl) (by decide) (k := k) hy
  have ws := wrap_succ (show i < 9223372036854775807 by omega)
  obtain ⟨H3, hH3⟩ : ∃ H3, H3 = H2 ++ [B.cells (eSl .arg y)] := ⟨_, rfl⟩
  have hx3 : Ext H2 H3 := ⟨_, hH3⟩
  have c3 : H3[H2.length]? = some (.cells (eSl .arg y)) := by rw [hH3]; exact g_tail rfl
  unfold eSl at c3
  have hH3' := hH3
  unfold eSl at hH3'
  have ld4 : ∀ Hx, ldc Hx 4 (.iptr (eSl .arg y)) = some [.str y.key, .int .u64 y.id, .str y.val, .sl .arg (y.fil.map eB)] := fun _ => rfl
  simp -implicitDefEqProofs only [mkR_nil, mkR_cons, op, ef, cl, sq, reduceIte, q1, q2, q3, q4, q5, q6, q7, q8, q9, S1, S2, S3, List.length_map, g21, hlt, natOf_nat, iy, ld4]
  rw [← hH3']
  have hyb := hb y (List.mem_of_getElem? hy)
  refine W.loopX 2 [(0, _), (4, _), (6, _), (8, _), (19, _), (20, _), (21, _), (25, _), (26, _)] (fun (j : Nat) R H' => At H' (fun H' => Mut eU 1 H3.length H' (R 9) (idsOf (l.take j) y) ∧ Ext H3 H') ∧ R 27 = .int .i64 j ∧ j ≤ l.length) (fun j => l.length - j) 0
    (fun R H' => At H' (fun H' => Mut eU 1 H3.length H' (R 9) (idsOf l y) ∧ Ext H3 H')) ⟨.i ⟨mut_nil _ _ _ _, Ext.rfl'⟩, rfl, Nat.zero_le _⟩ ?_ ?_
  · rintro j R H4 ⟨⟨hm, hx4⟩, g27, hj⟩
    have c4 := hx4.get c3
    by_cases hjl : j < l.length
    rotate_left
    · have hje : j = l.length := by omega
      subst hje
      rw [List.take_length] at hm
      have hpl : ¬ l.length < ps.length := by rw [hfs.1]; omega
      simp -implicitDefEqProofs only [mkR_nil, mkR_cons, op, ef, cl, sq, reduceIte, q1, q2, q3, q4, q5, q6, q7, q8, q9, S1, List.length_map, g27, hfs.1, Nat.lt_irrefl, exitQ]
      exact .i ⟨hm, hx4⟩
    obtain ⟨x, hx⟩ := getP hjl
    obtain ⟨t, ht⟩ := getP (l := ps) (i := j) (by rw [hfs.1]; exact hjl)
    have it := iadX (e := eT) (n := 1) (fun _ => rfl) (by decide) (k := kp) ht
    have ixx := iadX (e := eSl .arg) (n := 4) (fun _ => rfl) (by decide) (k := k) hx
    have wsj := wrap_succ (show j < 9223372036854775807 by omega)
    have x1 : fadT 1 (.iptr (eSl .arg x)) = some (.iptr [.int .u64 x.id, .str x.val, .sl .arg (x.fil.map eB)]) := rfl
    have hfa := ((hfs.2 j x t hx ht).ext (hx2.trans hx3)).ext hx4
    have hfl := filter_snoc (p := mayH y) hx
    have skip : mayH y x = false → idsOf (l.take (j + 1)) y = idsOf (l.take j) y := fun e => by
      unfold idsOf; rw [hfl, e]; simp
    rcases hfa with ⟨hid, rfl⟩ | ⟨hid, bf, rfl, hpv⟩
    · have e : mayH y x = false := by unfold mayH; rw [decide_eq_false (by omega), Bool.false_and]
      simp -implicitDefEqProofs only [mkR_nil, mkR_cons, op, ef, cl, sq, reduceIte, q1, q2, q3, q4, q5, q6, q7, q8, q9, S1, List.length_map, hfs.1, g27, hjl, natOf_nat, it, eT, eqRef, nilOf, wsj]
      exact ⟨j + 1, by omega, .i ⟨by rw [skip e]; exact hm, hx4⟩, rfl, hjl⟩
    by_cases hgt : y.id < x.id
    rotate_left
    · have e : mayH y x = false := by unfold mayH; rw [decide_eq_false hgt, Bool.false_and]
      simp -implicitDefEqProofs only [mkR_nil, mkR_cons, op, ef, cl, sq, reduceIte, q1, q2, q3, q4, q5, q6, q7, q8, q9, S1, List.length_map, hfs.1, g27, hjl, natOf_nat, it, eT, eqRef, nilOf, ixx, x1, c4, hgt, wsj]
      exact ⟨j + 1, by omega, .i ⟨by rw [skip e]; exact hm, hx4⟩, rfl, hjl⟩
    obtain ⟨b1, b2, j1, j2⟩ := rdOk_sh (slimOk_rd (hok x (List.mem_of_getElem? hx)) hid)
    simp -implicitDefEqProofs only [mkR_nil, mkR_cons, op, ef, cl, sq, reduceIte, q1, q2, q3, q4, q5, q6, q7, q8, q9, S1, List.length_map, hfs.1, g27, hjl, natOf_nat, it, eT, eqRef, nilOf, ixx, x1, c4, hgt]
    refine callB_of _ _ _ _ _ _ _ _ (has55 hpv b1 b2 j2 y.key hyb.2.2) ?_
    rintro u H5 ⟨hx5, hu⟩
    cases hu
    have hx5 : Ext H4 H5 := hx5
    have c5 := hx5.get c4
    cases hh : (plcs y.key (rdB x.fil) (rdH x.fil)).all (rdS x.fil)
    · have e : mayH y x = false := by unfold mayH hasF; rw [hh, Bool.and_false]
      simp -implicitDefEqProofs only [op, ef, cl, sq, reduceIte, q1, q2, q3, q4, q5, q6, q7, q8, q9, S1, g27, c4, c5, wsj]
      exact ⟨j + 1, by omega, .i ⟨by rw [skip e]; exact hm.ext hx5, hx4.trans hx5⟩, rfl, hjl⟩
    have e : mayH y x = true := by unfold mayH hasF; rw [hh, decide_eq_true hgt]; rfl
    have hll : (idsOf (l.take j) y).length ≤ 1024 := by
      unfold idsOf; rw [List.length_map]
      have := List.length_filter_le (mayH y) (l.take j)
      rw [List.length_take] at this; omega
    obtain ⟨t', H6, ha, hm6, hst6⟩ := appM_ok (enc := eU) (n := 1) (fun _ => rfl) (bytes := 8) [x.id] (hm.ext hx5) (hx4.trans hx5).len (by simp) (roomT (by simp -implicitDefEqProofs only [List.length_cons, List.length_nil]; omega))
    have hfg := fgt_mut (hm.ext hx5)
    have ha2 : appM H5 1 8 (R 9) [[.int .u64 x.id]] = some (t', H6) := ha
    simp -implicitDefEqProofs only [op, ef, cl, sq, reduceIte, q1, q2, q3, q4, q5, q6, q7, q8, q9, S1, g27, c4, c5, natOf_nat, ixx, x1, hfg, ha2, wsj]
    refine ⟨j + 1, by omega, .i ⟨?_, hst6.ext H3 (Nat.le_refl _) (hx4.trans hx5)⟩, rfl, hjl⟩
    have e2 : idsOf (l.take (j + 1)) y = idsOf (l.take j) y ++ [x.id] := by unfold idsOf; rw [hfl, e]; simp
    rw [e2]
    exact hm6
  · rintro R H4 ⟨hm, hx4⟩
    have hx4 : Ext H3 H4 := hx4
    have c4 := hx4.get c3
    have hmlen := hm.len
    have hll : (idsOf l y).length ≤ 1024 := by
      unfold idsOf; rw [List.length_map]
      have := List.length_filter_le (mayH y) l
      omega
    have htk : asksOf l (l.take (i + 1)) = asksOf l (l.take i) ++ askOf l y := by
      rw [List.take_add_one, hy]; exact asksOf_snoc _ _ _
    by_cases h0 : idsOf l y = []
    · have e : asksOf l (l.take (i + 1)) = asksOf l (l.take i) := by rw [htk, askOf, if_pos h0, List.append_nil]
      have hz : lenT H4 .sl (R 9) = some 0 := by rw [hmlen, h0]; rfl
      have nlt : ¬ 0 < 0 := by omega
      simp -implicitDefEqProofs only [mkR_nil, mkR_cons, op, ef, cl, sq, reduceIte, q1, q2, q3, q4, q5, q6, q7, q8, q9, S1, g6, g21, hz, ws]
      exact ⟨i + 1, by omega, .i ⟨ka, by rw [e], (hx2.trans hx3).trans hx4, (hap.ext hx3).ext hx4⟩, rfl, hlt⟩
    have hpos : 0 < (idsOf l y).length := List.length_pos_iff.2 h0
    rcases hm with ⟨h, _⟩ | ⟨c, g9, hc, hcn⟩
    · exact absurd h h0
    simp -implicitDefEqProofs only [mkR_nil, mkR_cons, op, ef, cl, sq, reduceIte, q1, q2, q3, q4, q5, q6, q7, q8, q9, S1, g9, lenT, hpos]
    have harr : (idsOf l y).toArray.toList = idsOf l y := List.toList_toArray
    refine callB_of _ _ _ _ _ _ _ _ (Un.sortO55 c (idsOf l y).toArray H4 (by rw [harr]; exact hc) (by simp; omega)) ?_
    rintro u H5 ⟨hu, d', hd', hds, he, hfr5⟩
    cases hu
    subst he
    have hlen5 : (srtL (idsOf l y)).length = (idsOf l y).length := (srtL_ok _).1.length_eq
    have hd5 : H5[c]? = some (.cells (msC eU (srtL (idsOf l y)))) := hd'
    have hx5 : Ext H3 H5 := frm_extG hx4 hfr5 fun b hb => by subst hb; exact hcn
    have c5 := hx5.get c3
    simp -implicitDefEqProofs only [op, ef, cl, sq, reduceIte, q1, q2, q3, q4, q5, q6, q7, q8, q9, S1, g9, c5]
    rw [← hlen5]
    refine callB_of _ _ _ _ _ _ _ _ (compact57 c _ H5 hd5 (by omega) (by omega)) ?_
    rintro u H6 ⟨hu, hfr6⟩
    cases hu
    have hx6 : Ext H3 H6 := frm_extG hx5 hfr6 fun b hb => by subst hb; exact hcn
    have c6 := hx6.get c3
    have hall := all_map (enc := eA) (n := 2) (fun _ => rfl) (asksOf l (l.take i))
    have hal := asksOf_len l (l.take i)
    rw [List.length_take] at hal
    obtain ⟨k', H7, ha, hap', hst'⟩ := app_ok (bytes := 40) ((asksOf l (l.take i)).map eA) [[T.str y.key, .sl .arg ((riseL (idsOf l y)).map eU)]] ((hap.ext hx3).ext hx6) (Nat.le_trans hx2.len (hx3.trans hx6).len) (by simp) (roomT (by simp -implicitDefEqProofs only [List.length_map, List.length_cons, List.length_nil]; omega))
    simp -implicitDefEqProofs only [op, ef, cl, sq, reduceIte, q1, q2, q3, q4, q5, q6, q7, q8, q9, S1] at ha
    unfold riseL at ha
    simp -implicitDefEqProofs only [op, ef, cl, sq, reduceIte, q1, q2, q3, q4, q5, q6, q7, q8, q9, S1, g6, g21, c5, c6, hall, ha, ws]
    refine ⟨i + 1, by omega, .i ⟨k', ?_, hst'.ext H1 (Nat.le_refl _) ((hx2.trans hx3).trans hx6), hap'⟩, rfl, hlt⟩
    rw [htk, askOf, if_neg h0, List.map_append]; rfl
end Go.Proofs.YtmgldhlcapjdkaaGreat.St
end

section
namespace Go.Proofs.YtmgldhlcapjdkaaGreat.St
open Go.Rmp Go.Proofs.YtmgldhlcapjdkaaGreat.Ir
set_option maxRecDepth 10000
theorem take_snoc {α : Type} {l : List α} {i : Nat} {x : α} (hx : l[i]? = some x) : l.take (i + 1) = l.take i ++ [x] := by rw [List.take_add_one, hx]; rfl
theorem vals153 {n : Nat} {R0 : Regs} {ps : List Nat} {asg body : C} (k : SK) (l : List ByteArray) (c b : Nat) (H : Heap) (I : List ByteArray → Heap → Prop) (hps : ps.length = 1) (hl : l.length ≤ 8000000) (h0 : I [] H) (hb : H[b]? = some (rdy n R0 ps asg body)) (hc : H[c]? = some (.cells [.sl k (l.map eS)]))
    (hstep : ∀ (i : Nat) (v : ByteArray) H', l[i]? = some v → I (l.take i) H' → H'[b]? = some (rdy n R0 ps asg body) → wpC env asg (setps R0 ps [.str v]) H' (fun o H1 => ∃ R1, o = .ex .normal R1 ∧ H1[b]? = some (rdy n R0 ps asg body) ∧
      wpC env body R1 (H1.set b (bsy n R0 ps asg body)) (fun o H2 => ∃ R2, o = .ex .normal R2 ∧ H2[b]? = some (bsy n R0 ps asg body) ∧ I (l.take (i + 1)) (H2.set b (rdy n R0 ps asg body))))) :
    W env (.call 153 [.yld b, .ptr c 0]) H (fun _ H' => I l H' ∧ H'[b]? = some (rdy n R0 ps asg body)) := by
  refine W.fnI rfl rfl rfl ?_
  simp -implicitDefEqProofs only [ir153, op, ef, cl, sq, reduceIte, q1, q2, q3, q4, q5, q6, q7, q8, q9, S1, hc, List.length_map]
  refine W.loopV [(0, _), (5, _), (6, _)] (fun (i : Nat) R H' => At H' (fun H' => I (l.take i) H' ∧ H'[b]? = some (rdy n R0 ps asg body)) ∧ R 7 = .int .i64 i ∧ i ≤ l.length) (fun i => l.length - i) 0 ⟨.i ⟨h0, hb⟩, rfl, Nat.zero_le _⟩ ?_
  rintro i R H1 ⟨⟨hI, hb1⟩, g7, hi⟩
  by_cases hlt : i < l.length
  rotate_left
  · have hie : i = l.length := by omega
    subst hie
    rw [List.take_length] at hI
    simp -implicitDefEqProofs only [mkR_nil, mkR_cons, op, ef, cl, sq, reduceIte, q1, q2, q3, q4, q5, q6, q7, q8, q9, S1, g7, hlt]
    exact ⟨hI, hb1⟩
  obtain ⟨v, hv⟩ := getP hlt
  have iv := iadX (e := eS) (n := 1) (fun _ => rfl) (by decide) (k := k) hv
  have ws := wrap_succ (show i < 9223372036854775807 by omega)
  simp -implicitDefEqProofs only [mkR_nil, mkR_cons, op, ef, cl, sq, reduceIte, q1, q2, q3, q4, q5, q6, q7, q8, q9, S1, g7, hlt, natOf_nat, iv, eS]
  refine b_yld (b := b) (n := n) (R0 := R0) (ps := ps) (asg := asg) (body := body) (by simp -implicitDefEqProofs only [op, ef, cl, sq, reduceIte, q1, q2, q3, q4, q5, q6, q7, q8, q9, S1]) hb1 (by rw [hps]; rfl) ?_
  simp -implicitDefEqProofs only [op, ef, cl, sq, reduceIte, q1, q2, q3, q4, q5, q6, q7, q8, q9, S1]
  refine wpC_mono _ _ _ (fun o H4 => ?_) (hstep i v H1 hv hI hb1)
  rintro ⟨R1, rfl, hr, hw⟩
  refine ⟨R1, rfl, hr, wpC_mono _ _ _ (fun o H5 => ?_) hw⟩
  rintro ⟨R2, rfl, hr2, hI3⟩
  have hb3 := glt hr2
  simp -implicitDefEqProofs only [op, ef, cl, sq, reduceIte, q1, q2, q3, q4, q5, q6, q7, q8, q9, S1, g7, ws]
  exact ⟨R2, rfl, hr2, i + 1, by omega, .i ⟨hI3, g_eq hb3⟩, rfl, hlt⟩
theorem seq180 (k : SK) (l : List ByteArray) (c : Nat) (H : Heap) (hl : l.length ≤ 8000000) (hc : H[c]? = some (.cells [.sl k (l.map eS)])) :
    W env (.call 180 [.sl .nil [], .fn 153 [.ptr c 0]]) H (fun o H' => Ext H H' ∧ ∃ t, o = .val t ∧ Mut eS 1 H.length H' t l) := by
  have lc := glt hc
  refine W.fnrI rfl rfl ?_
  simp -implicitDefEqProofs only [ir180, op, ef, cl, sq, reduceIte, q1, q2, q3, q4, q5, q6, q7, q8, q9, S1, S2]
  generalize hR : upd (upd (upd (regs0 [T.sl SK.nil [], T.fn 153 [T.ptr c 0]]) 2 (T.ptr H.length 0)) 4 (T.sl SK.nil [])) 6 (T.fn 153 [T.ptr c 0]) = R0
  have r2 : R0 2 = .ptr H.length 0 := by rw [← hR]; simp -implicitDefEqProofs only [op, ef, cl, sq, reduceIte, q1, q2, q3, q4, q5, q6, q7, q8, q9, S1]
  have r6 : R0 6 = .fn 153 [.ptr c 0] := by rw [← hR]; simp -implicitDefEqProofs only [op, ef, cl, sq, reduceIte, q1, q2, q3, q4, q5, q6, q7, q8, q9, S1]
  have r13 : R0 13 = .tup [] := by rw [← hR]; rfl
  refine W.rangeI (f := 153) (cs := [.ptr c 0]) (by simp -implicitDefEqProofs only [op, ef, cl, sq, reduceIte, q1, q2, q3, q4, q5, q6, q7, q8, q9, S1, r6]) ?_
  have a1 : (H ++ [B.cells [T.sl SK.nil []]]).length = H.length + 1 := by simp
  rw [a1, r13, push0]
  have e1 : H.length + 1 + 1 = H.length + 2 := rfl
  rw [e1]
  generalize hnn : H.length = f at *
  have n02 : ¬ (f = f + 2) := by omega
  have n12 : ¬ (f + 1 = f + 2) := by omega
  have hbl : ∀ x y : B, (H ++ [B.cells [T.sl SK.nil []]] ++ [y, x])[f + 2]? = some x := fun x y => by
    rw [List.getElem?_append_right (by omega), a1]
    have : f + 2 - (f + 1) = 1 := by omega
    rw [this]; rfl
  have hq0 : ∀ (x y : B) (a : Nat) z, H[a]? = some z → (H ++ [B.cells [T.sl SK.nil []]] ++ [y, x])[a]? = some z := fun x y a z hz => by
    have := glt hz
    rw [g_app (by omega), g_app (by omega)]; exact hz
  refine W.use (vals153 (hb := hbl _ _) k l c (f + 2) _ (fun vis H' => At H' fun H' => ∃ t, H'[f]? = some (.cells [t]) ∧ Mut eS 1 (f + 3) H' t vis ∧ H'[f + 1]? = some .dfr ∧ ∀ (a : Nat) y, H[a]? = some y → H'[a]? = some y) rfl hl ?_ (hq0 _ _ _ _ hc) ?_) ?_
  · refine .i ⟨.sl .nil [], ?_, mut_nil _ _ _ _, ?_, fun a y hy => hq0 _ _ _ _ hy⟩
    · rw [g_app (by omega), g_tail (by omega)]
    · rw [g_tail (by omega)]
  · rintro i v H' hv ⟨t, h1, h2, h3, h4⟩ hb
    have hvl : (l.take i).length ≤ 8000000 := by rw [List.length_take]; omega
    rw [take_snoc hv]
    generalize l.take i = vis at *
    have mf := glt h1
    have m1 := glt h3
    have m2 := glt hb
    have hne : ∀ a, a < f + 3 → ∀ off len m, t ≠ .msl a off len m := fun a ha off len m he => by
      rcases h2 with ⟨_, e⟩ | ⟨d, e, _, e3⟩
      · rw [e] at he; cases he
      · rw [e] at he; cases he; omega
    have hfg : fgt t = t := by rcases h2 with ⟨_, rfl⟩ | ⟨d, rfl, _⟩ <;> rfl
    have hL : ∀ y : B, (H'.set (f + 2) y).length = H'.length := fun y => by simp
    have hap : ∀ y : B, appM (H'.set (f + 2) y) 1 16 t [eS v] = some (.msl (H'.length) 0 (vis ++ [v]).length 1, deadT (H'.set (f + 2) y) t ++ [.cells (msC eS (vis ++ [v]))]) := fun y => by
      have := appM_fun (enc := eS) (n := 1) (bytes := 16) (n0 := f + 3) (H := H'.set (f + 2) y) (t := t) (l := vis) (fun _ => rfl) (by
        rcases h2 with h2 | ⟨d, e1, e2, e3⟩
        · exact .inl h2
        · refine .inr ⟨d, e1, ?_, e3⟩
          rw [g_ne (by omega)]; exact e2) v (roomS (by omega) (by omega))
      rw [hL] at this
      rw [this, List.length_append]; rfl
    simp -implicitDefEqProofs only [eS] at hap
    have hpre : ∀ (y : B) (a : Nat) z, H'[a]? = some z → a ≠ f + 2 → a < f + 3 → (deadT (H'.set (f + 2) y) t ++ [.cells (msC eS (vis ++ [v]))])[a]? = some z := fun y a z hz h2 h4 => by
      have := glt hz
      rw [g_app (by rw [dead_len]; simp; omega), dead_get (hne a h4)]
      rw [g_ne (Ne.symm h2)]; exact hz
    have n2H : ¬ (f + 2 = H'.length) := by omega
    have n2f : ¬ (f + 2 = f) := by omega
    have nHf : ¬ (H'.length = f) := by omega
    simp -implicitDefEqProofs only [op, ef, cl, sq, reduceIte, q1, q2, q3, q4, q5, q6, q7, q8, q9, S1, S2, setps]
    refine ⟨_, rfl, hb, ?_⟩
    have hpf := fun y => hpre y f _ h1 (by omega) (by omega)
    have hpb : ∀ y : B, (deadT (H'.set (f + 2) y) t ++ [.cells (msC eS (vis ++ [v]))])[f + 2]? = some y := fun y => by
      rw [g_app (by rw [dead_len]; simp; omega), dead_get (hne _ (by omega))]
      rw [g_eq m2]
    have hpt : ∀ y : B, (deadT (H'.set (f + 2) y) t ++ [.cells (msC eS (vis ++ [v]))])[H'.length]? = some (.cells (msC eS (vis ++ [v]))) := fun y => by
      rw [g_tail (by rw [dead_len, hL])]
    try simp -implicitDefEqProofs only [eS] at hpf
    try simp -implicitDefEqProofs only [eS] at hpb
    try simp -implicitDefEqProofs only [eS] at hpt
    try simp -implicitDefEqProofs only [eS] at hpre
    simp -implicitDefEqProofs only [op, ef, cl, sq, reduceIte, q1, q2, q3, q4, q5, q6, q7, q8, q9, S1, S2, List.length_set, r2, mf, m2, n2H, n2f, nHf, h1, hfg, hap, hpf]
    refine ⟨_, rfl, by rw [g_ne (by omega)]; exact hpb _, .i ⟨_, by rw [g_ne (by omega), g_eq (glt (hpf _))], .inr ⟨_, rfl, by rw [g_ne (by omega), g_ne (by omega)]; exact hpt _, by omega⟩, by rw [g_ne (by omega), g_ne (by omega)]; exact hpre _ _ _ h3 (by omega) (by omega), fun a y hy => ?_⟩⟩
    have := glt hy
    rw [g_ne (by omega), g_ne (by omega)]; exact hpre _ _ _ (h4 a y hy) (by omega) (by omega)
  · rintro o H' ⟨⟨t, h1, h2, h3, h4⟩, hb⟩
    refine ⟨hb, ?_⟩
    have k2 : ¬ (f + 2 = f + 1) := by omega
    have n20 : ¬ (f + 2 = f) := by omega
    simp -implicitDefEqProofs only [op, ef, cl, sq, reduceIte, q1, q2, q3, q4, q5, q6, q7, q8, q9, S1, S2, r2, n20, h1]
    refine endR_r (b := f + 1) (by simp -implicitDefEqProofs only [op, ef, cl, sq, reduceIte, q1, q2, q3, q4, q5, q6, q7, q8, q9, S1]) (by rw [g_ne (by omega)]; exact h3) ?_
    simp -implicitDefEqProofs only [op, ef, cl, sq, reduceIte, q1, q2, q3, q4, q5, q6, q7, q8, q9, S1]
    refine ⟨ext_of fun a y hy => ?_, t, rfl, ?_⟩
    · have := glt hy
      rw [g_ne (by omega), g_ne (by omega)]
      exact h4 a y hy
    · rcases h2 with h2 | ⟨d, e1, e2, e3⟩
      · exact .inl h2
      · exact .inr ⟨d, e1, by rw [g_ne (by omega), g_ne (by omega)]; exact e2, by omega⟩
def srtS (l : List ByteArray) : List ByteArray := (Go.Sort.sort strLt l.toArray).toList
theorem srtS_ok (l : List ByteArray) : (srtS l).Perm l ∧ ∀ (i j : Nat) a b, i < j → (srtS l)[i]? = some a → (srtS l)[j]? = some b → strLt b a = false := by
  obtain ⟨⟨hs, _, hp⟩, hsort⟩ := Go.Sort.sort_sorts strLt strLt_swo l.toArray
  have e1 : (Go.Sort.sort strLt l.toArray).extract 0 l.toArray.size = Go.Sort.sort strLt l.toArray := by
    conv => lhs; arg 3; rw [← hs]
    simp
  have hperm : (srtS l).Perm l := by
    rw [e1] at hp
    simpa [srtS] using hp
  refine ⟨hperm, fun i j a b hij ha hb => ?_⟩
  unfold srtS at ha hb
  have hi := (List.getElem?_eq_some_iff.1 ha).1
  have hj := (List.getElem?_eq_some_iff.1 hb).1
  have h1 := hsort i j (Nat.zero_le _) hij (by rw [← hs]; simpa using hj)
  have gi := arr_get (d := Go.Sort.sort strLt l.toArray) (i := i) (by simpa using hi)
  have gj := arr_get (d := Go.Sort.sort strLt l.toArray) (i := j) (by simpa using hj)
  rw [ha] at gi; rw [hb] at gj
  cases gi; cases gj
  exact h1
theorem srtS_rise (l : List ByteArray) : rises (srtS l) = decide l.Nodup := by
  obtain ⟨hp, hs⟩ := srtS_ok l
  by_cases hn : l.Nodup
  · rw [decide_eq_true hn, rises_iff]
    intro i a b ha hb
    have h1 := hs i (i + 1) a b (by omega) ha hb
    cases h : strLt a b with
    | true => rfl
    | false =>
      have e := lt_tri h h1
      subst e
      have hn2 := hp.nodup_iff.2 hn
      have := (List.getElem?_inj (List.getElem?_eq_some_iff.1 ha).1 hn2).1 (ha.trans hb.symm)
      omega
  · rw [decide_eq_false hn]
    cases h : rises (srtS l) with
    | false => rfl
    | true =>
      refine absurd (hp.nodup_iff.1 ?_) hn
      refine List.pairwise_iff_getElem.2 fun i j hi hj hij e => ?_
      have := rises_lt h j i _ _ hij (List.getElem?_eq_getElem hi) (List.getElem?_eq_getElem hj)
      rw [e, lt_irr] at this; cases this
def validK (l : List ByteArray) : Bool := decide (1 ≤ l.length) && decide (l.length ≤ 1024) && l.all (fun k => decide (k.size ≤ 65535)) && decide l.Nodup
theorem valid64 (k : SK) (l : List ByteArray) (H : Heap) (hl : l.length ≤ 8000000) : W env (.call 64 [.sl k (l.map eS)]) H (fun o H' => Ext H H' ∧ o = .val (.bool (validK l))) := by
  refine W.fnI rfl rfl rfl ?_
  by_cases h1 : l.length < 1
  · have h1' : ¬ 1 ≤ l.length := by omega
    have e : validK l = false := by unfold validK; rw [decide_eq_false h1', Bool.false_and, Bool.false_and, Bool.false_and]
    simp -implicitDefEqProofs only [ir64, op, ef, cl, sq, reduceIte, q1, q2, q3, q4, q5, q6, q7, q8, q9, S1, List.length_map, h1, e]
    exact Ext.rfl'
  by_cases h2 : 1024 < l.length
  · have h2' : ¬ l.length ≤ 1024 := by omega
    have e : validK l = false := by unfold validK; rw [decide_eq_false h2', Bool.and_false, Bool.false_and, Bool.false_and]
    simp -implicitDefEqProofs only [ir64, op, ef, cl, sq, reduceIte, q1, q2, q3, q4, q5, q6, q7, q8, q9, S1, List.length_map, h1, h2, e]
    exact Ext.rfl'
  simp -implicitDefEqProofs only [ir64, op, ef, cl, sq, reduceIte, q1, q2, q3, q4, q5, q6, q7, q8, q9, S1, List.length_map, h1, h2]
  refine W.loopV [(0, _), (13, _), (14, _)] (fun (i : Nat) R H' => H' = H ∧ R 15 = .int .i64 i ∧ i ≤ l.length ∧ (l.take i).all (fun k => decide (k.size ≤ 65535)) = true) (fun i => l.length - i) 0 ⟨rfl, rfl, Nat.zero_le _, rfl⟩ ?_
  rintro i R H ⟨rfl, g15, hi, hall⟩
  by_cases hlt : i < l.length
  · obtain ⟨v, hv⟩ := getP hlt
    have iv := iadX (e := eS) (n := 1) (fun _ => rfl) (by decide) (k := k) hv
    have ws := wrap_succ (show i < 9223372036854775807 by omega)
    by_cases hz : 65535 < v.size
    · have e : validK l = false := by
        have : l.all (fun k => decide (k.size ≤ 65535)) = false := by
          rw [Bool.eq_false_iff]; intro ha
          have := List.all_eq_true.1 ha v (List.mem_of_getElem? hv)
          simp at this; omega
        unfold validK; rw [this, Bool.and_false, Bool.false_and]
      simp -implicitDefEqProofs only [mkR_nil, mkR_cons, op, ef, cl, sq, reduceIte, q1, q2, q3, q4, q5, q6, q7, q8, q9, S1, g15, hlt, natOf_nat, iv, eS, hz, e]
      exact Ext.rfl'
    · simp -implicitDefEqProofs only [mkR_nil, mkR_cons, op, ef, cl, sq, reduceIte, q1, q2, q3, q4, q5, q6, q7, q8, q9, S1, g15, hlt, natOf_nat, iv, eS, hz, ws]
      refine ⟨i + 1, by omega, rfl, hlt, ?_⟩
      rw [take_snoc hv, List.all_append, hall]
      simp; omega
  have hie : i = l.length := by omega
  subst hie
  rw [List.take_length] at hall
  have e : validK l = decide l.Nodup := by unfold validK; rw [hall, decide_eq_true (by omega), decide_eq_true (by omega)]; rfl
  rw [e, ← srtS_rise l]
  simp -implicitDefEqProofs only [mkR_nil, mkR_cons, op, ef, cl, sq, reduceIte, q1, q2, q3, q4, q5, q6, q7, q8, q9, S1, g15, hlt]
  have h111 : W env (.call 111 [.sl k (l.map eS)]) H (fun o H1 => H1 = H ++ [B.cells [.sl k (l.map eS)]] ∧ o = .val (.fn 153 [.ptr H.length 0])) := by
    refine W.fnI rfl rfl rfl ?_
    simp -implicitDefEqProofs only [ir111, op, ef, cl, sq, reduceIte, q1, q2, q3, q4, q5, q6, q7, q8, q9, S1, capsT, List.map_cons, List.map_nil]
  refine callB_of _ _ _ _ _ _ _ _ h111 ?_
  rintro u H1 ⟨hH1, hu⟩
  cases hu
  have hx1 : Ext H H1 := ⟨_, hH1⟩
  have c1 : H1[H.length]? = some (.cells [.sl k (l.map eS)]) := by rw [hH1]; exact g_tail rfl
  simp -implicitDefEqProofs only [op, ef, cl, sq, reduceIte, q1, q2, q3, q4, q5, q6, q7, q8, q9, S1]
  have h110 : W env (.call 110 [.fn 153 [.ptr H.length 0]]) H1 (fun o H2 => o = .val (.sl .arg ((srtS l).map eS)) ∧ Ext H1 H2) := by
    have h151 : W env (.call 151 [.fn 153 [.ptr H.length 0]]) H1 (fun o H' => Ext H1 H' ∧ ∃ t, o = .val t ∧ Mut eS 1 H1.length H' t l) := by
      refine W.fnI rfl rfl rfl ?_
      simp -implicitDefEqProofs only [ir151, op, ef, cl, sq, reduceIte, q1, q2, q3, q4, q5, q6, q7, q8, q9, S1]
      refine callB_of _ _ _ _ _ _ _ _ (seq180 k l _ H1 hl c1) ?_
      rintro u H2 ⟨hx, t, hu, hm⟩
      cases hu
      simp -implicitDefEqProofs only [op, ef, cl, sq, reduceIte, q1, q2, q3, q4, q5, q6, q7, q8, q9, S1]
      exact ⟨hx, _, rfl, hm⟩
    refine W.frz1 (enc := eS) (n := 1) (l := srtS l) (fun _ => rfl) ?_
    refine W.fnI rfl rfl rfl ?_
    simp -implicitDefEqProofs only [ir110, op, ef, cl, sq, reduceIte, q1, q2, q3, q4, q5, q6, q7, q8, q9, S1]
    refine callB_of _ _ _ _ _ _ _ _ h151 ?_
    rintro u H2 ⟨hx, t, hu, hm⟩
    cases hu
    have hx : Ext H1 H2 := hx
    rcases hm with ⟨e, _⟩ | ⟨c, rfl, hc, hcn⟩
    · subst e; simp at h1
    simp -implicitDefEqProofs only [op, ef, cl, sq, reduceIte, q1, q2, q3, q4, q5, q6, q7, q8, q9, S1]
    have harr : l.toArray.toList = l := List.toList_toArray
    refine callB_of _ _ _ _ _ _ _ _ (sortO55 c l.toArray H2 (by rw [harr]; exact hc) (by simp; omega)) ?_
    rintro u H3 ⟨hu, d', hd', hds, he, hfr⟩
    cases hu
    subst he
    have hlen : (srtS l).length = l.length := (srtS_ok _).1.length_eq
    simp -implicitDefEqProofs only [op, ef, cl, sq, reduceIte, q1, q2, q3, q4, q5, q6, q7, q8, q9, S1]
    exact ⟨c, by rw [hlen], hd', (frm_extG hx hfr fun b hb => by subst hb; exact hcn).set hcn _⟩
  refine callB_of _ _ _ _ _ _ _ _ h110 ?_
  rintro u H2 ⟨hu, hx2⟩
  cases hu
  have hx2 : Ext H1 H2 := hx2
  simp -implicitDefEqProofs only [op, ef, cl, sq, reduceIte, q1, q2, q3, q4, q5, q6, q7, q8, q9, S1]
  refine callB_of _ _ _ _ _ _ _ _ (rise109 .arg (srtS l) _ (by rw [(srtS_ok l).1.length_eq]; omega)) ?_
  rintro u H3 ⟨hu, rfl⟩
  cases hu
  simp -implicitDefEqProofs only [op, ef, cl, sq, reduceIte, q1, q2, q3, q4, q5, q6, q7, q8, q9, S1]
  exact hx1.trans hx2
end Go.Proofs.YtmgldhlcapjdkaaGreat.St
end

section
namespace Go.Proofs.YtmgldhlcapjdkaaGreat.St
open Go.Rmp Go.Proofs.YtmgldhlcapjdkaaGreat.Ir
set_option maxRecDepth 10000
def eSt (o : Option Nat) : List T := [match o with | none => .nilp | some b => .ptr b 0]
def goodP (os : List (Option Nat)) : Bool := decide (1 ≤ os.length) && decide (os.length ≤ 64) && os.all Option.isSome
theorem idx150 (k : SK) (l : List (Option Nat)) (H : Heap) (hl : l.length < 4611686018427387903) : W env (.call 150 [.sl k (l.map eSt), .nilp]) H (fun o H' => H' = H ∧ ∃ n : Int, o = .val (.int .i64 n) ∧ (decide (0 ≤ n) = !l.all Option.isSome)) := by
  refine W.fnI rfl rfl rfl ?_
  simp -implicitDefEqProofs only [ir150, op, ef, cl, sq, reduceIte, q1, q2, q3, q4, q5, q6, q7, q8, q9, S1, List.length_map]
  refine W.loopV [(0, _), (1, _), (7, _)] (fun (i : Nat) R H' => H' = H ∧ R 8 = .int .i64 i ∧ i ≤ l.length ∧ (l.take i).all Option.isSome = true) (fun i => l.length - i) 0 ⟨rfl, rfl, Nat.zero_le _, rfl⟩ ?_
  rintro i R H ⟨rfl, g8, hi, hm⟩
  by_cases hlt : i < l.length
  rotate_left
  · have hie : i = l.length := by omega
    subst hie
    rw [List.take_length] at hm
    simp -implicitDefEqProofs only [mkR_nil, mkR_cons, op, ef, cl, sq, reduceIte, q1, q2, q3, q4, q5, q6, q7, q8, q9, S1, List.length_map, g8, hlt, hm]
    exact ⟨_, rfl, by decide⟩
  obtain ⟨y, hy⟩ := getP hlt
  have ws := wrap_succ (show i < 9223372036854775807 by omega)
  have iy := iadX (e := eSt) (n := 1) (fun _ => rfl) (by decide) (k := k) hy
  cases y with
  | none =>
    simp -implicitDefEqProofs only [mkR_nil, mkR_cons, op, ef, cl, sq, reduceIte, q1, q2, q3, q4, q5, q6, q7, q8, q9, S1, List.length_map, g8, hlt, natOf_nat, iy, eSt, eqRef, nilOf]
    refine ⟨_, rfl, ?_⟩
    have : l.all Option.isSome = false := by
      rw [Bool.eq_false_iff]; intro ha
      have := List.all_eq_true.1 ha none (List.mem_of_getElem? hy)
      cases this
    rw [this]
    exact decide_eq_true (by omega)
  | some b =>
    simp -implicitDefEqProofs only [mkR_nil, mkR_cons, op, ef, cl, sq, reduceIte, q1, q2, q3, q4, q5, q6, q7, q8, q9, S1, List.length_map, g8, hlt, natOf_nat, iy, eSt, eqRef, nilOf, ws]
    exact ⟨i + 1, by omega, rfl, hlt, by rw [take_snoc hy, List.all_append, hm]; rfl⟩
theorem good62 (k : SK) (l : List (Option Nat)) (H : Heap) (hl : l.length < 4611686018427387903) : W env (.call 62 [.sl k (l.map eSt)]) H (Ret (.bool (goodP l)) H) := by
  refine W.fnI rfl rfl rfl ?_
  unfold goodP
  by_cases h1 : 1 ≤ l.length
  rotate_left
  · simp -implicitDefEqProofs only [ir62, op, ef, cl, sq, reduceIte, q1, q2, q3, q4, q5, q6, q7, q8, q9, S1, List.length_map, h1, Bool.false_and]
  by_cases h2 : l.length ≤ 64
  rotate_left
  · simp -implicitDefEqProofs only [ir62, op, ef, cl, sq, reduceIte, q1, q2, q3, q4, q5, q6, q7, q8, q9, S1, List.length_map, h1, h2, Bool.false_and]
  have h108 : W env (.call 108 [.sl k (l.map eSt), .nilp]) H (Ret (.bool (!l.all Option.isSome)) H) := by
    refine W.fnI rfl rfl rfl ?_
    simp -implicitDefEqProofs only [ir108, op, ef, cl, sq, reduceIte, q1, q2, q3, q4, q5, q6, q7, q8, q9, S1]
    refine callB_of _ _ _ _ _ _ _ _ (idx150 k l _ hl) ?_
    rintro u H1 ⟨rfl, n, hu, hn⟩
    cases hu
    simp -implicitDefEqProofs only [op, ef, cl, sq, reduceIte, q1, q2, q3, q4, q5, q6, q7, q8, q9, S1, ge_iff_le, hn]
  simp -implicitDefEqProofs only [ir62, op, ef, cl, sq, reduceIte, q1, q2, q3, q4, q5, q6, q7, q8, q9, S1, List.length_map, h1, h2]
  refine callB_of _ _ _ _ _ _ _ _ h108 ?_
  rintro u H1 ⟨hu, rfl⟩
  cases hu
  simp -implicitDefEqProofs only [op, ef, cl, sq, reduceIte, q1, q2, q3, q4, q5, q6, q7, q8, q9, S1, Bool.not_not]
theorem shape63 (b h : Int) (H : Heap) : W env (.call 63 [.agg [.int .i64 b, .int .i64 h]]) H (fun o H' => Ext H H' ∧ o = .val (.bool (shOk b h))) := by
  refine W.fnI rfl rfl rfl ?_
  obtain ⟨H1, hH1⟩ : ∃ H1, H1 = H ++ [B.cells [T.int .i64 b, T.int .i64 h]] := ⟨_, rfl⟩
  have hx1 : Ext H H1 := ⟨_, hH1⟩
  have c1 : H1[H.length]? = some (.cells [T.int .i64 b, T.int .i64 h]) := by rw [hH1]; exact g_tail rfl
  simp -implicitDefEqProofs only [ir63, op, ef, cl, sq, reduceIte, q1, q2, q3, q4, q5, q6, q7, q8, q9, S1, S2]
  rw [← hH1]
  refine callB_of _ _ _ _ _ _ _ _ (bnew44 b h _) ?_
  rintro u H2 ⟨hx2, ⟨hsh, hu⟩ | ⟨hsh, bf, w, hu, _⟩⟩
  · cases hu
    have hx2 : Ext H1 H2 := hx2
    have c2 := hx2.get c1
    simp -implicitDefEqProofs only [op, ef, cl, sq, reduceIte, q1, q2, q3, q4, q5, q6, q7, q8, q9, S1, c1, c2, hsh]
    exact hx1.trans hx2
  · cases hu
    have hx2 : Ext H1 H2 := hx2
    have c2 := hx2.get c1
    simp -implicitDefEqProofs only [op, ef, cl, sq, reduceIte, q1, q2, q3, q4, q5, q6, q7, q8, q9, S1, c1, c2, hsh]
    exact hx1.trans hx2
structure Wst where
  b : Bk
  a : Ab
  F : Nat → Prop
  m : Nat
def Wsts (H : Heap) (ws : List Wst) : Prop := ∀ w ∈ ws, AtS H w.b w.a w.F w.m
theorem Wsts.ext {H H' : Heap} {ws : List Wst} (h : Wsts H ws) (hx : Ext H H') : Wsts H' ws := fun w hw => (h w hw).ext hx
def stP (ws : List Wst) : List (Option Nat) := ws.map fun w => some w.b.s
theorem stP_len (ws : List Wst) : (stP ws).length = ws.length := by simp [stP]
theorem stP_at {ws : List Wst} {i : Nat} {w : Wst} (h : ws[i]? = some w) : (stP ws)[i]? = some (some w.b.s) := by rw [stP, List.getElem?_map, h]; rfl
theorem goodP_ws {ws : List Wst} (h1 : 1 ≤ ws.length) (h2 : ws.length ≤ 64) : goodP (stP ws) = true := by
  unfold goodP
  rw [stP_len, decide_eq_true h1, decide_eq_true h2]
  simp [stP]
def abAt (ws : List Wst) (k : ByteArray) : Ab := match ws[ofN k ws.length]? with
  | some w => w.a
  | none => Ab.emp
theorem ws_at {ws : List Wst} (h1 : 1 ≤ ws.length) (k : ByteArray) : ∃ w, ws[ofN k ws.length]? = some w ∧ abAt ws k = w.a ∧ w ∈ ws := by
  obtain ⟨w, hw⟩ := getP (l := ws) (i := ofN k ws.length) (ofN_lt k (by omega))
  exact ⟨w, hw, by unfold abAt; rw [hw], List.mem_of_getElem? hw⟩
theorem home65 (kk : SK) (ws : List Wst) (k : ByteArray) (H : Heap) (h1 : 1 ≤ ws.length) (h2 : ws.length ≤ 64) (hk : k.size < 9223372036854775807) : W env (.call 65 [.sl kk ((stP ws).map eSt), .str k]) H (fun o H' => H' = H ∧ ∃ w, w ∈ ws ∧ abAt ws k = w.a ∧ o = .val (.ptr w.b.s 0)) := by
  obtain ⟨w, hw, ha, hm⟩ := ws_at h1 k
  refine W.fnI rfl rfl rfl ?_
  simp -implicitDefEqProofs only [ir65, op, ef, cl, sq, reduceIte, q1, q2, q3, q4, q5, q6, q7, q8, q9, S1, List.length_map, stP_len]
  refine callB_of _ _ _ _ _ _ _ _ (of25 k ws.length _ hk) ?_
  rintro u H1 ⟨hu, rfl⟩
  have hok : okP (ws.length : Int) = true := by simp [okP]; omega
  have hu : u = .tup [.int .i64 (ofN k ws.length : Nat), .int .i64 0] := by
    cases hu
    simp -implicitDefEqProofs only [ofV, hok, if_true, Int.toNat_natCast]
  subst hu
  have iw := iadX (e := eSt) (n := 1) (fun _ => rfl) (by decide) (k := kk) (stP_at hw)
  simp -implicitDefEqProofs only [op, ef, cl, sq, reduceIte, q1, q2, q3, q4, q5, q6, q7, q8, q9, S1, natOf_nat, iw, eSt]
  exact ⟨w, hm, ha, rfl⟩
def amg (a : Ab) (k : ByteArray) (ids : List Nat) : Nat := ids.foldl (fun best id => if id ≤ best then best else if a.has (k, id) then id else best) 0
theorem amg_snoc (a : Ab) (k : ByteArray) (ids : List Nat) (id : Nat) : amg a k (ids ++ [id]) = if id ≤ amg a k ids then amg a k ids else if a.has (k, id) then id else amg a k ids := by
  unfold amg; rw [List.foldl_append]; rfl
def amgV (a : Ab) (k : ByteArray) (n : Nat) : Vd := if n = 0 then ⟨⟨#[]⟩, [], 0⟩ else vdOf (a.v (k, n))
theorem among68 {b : Bk} {a : Ab} {F : Nat → Prop} {m : Nat} (k : ByteArray) (kk : SK) (ids : List Nat) {H : Heap} (h : AtS H b a F m) (hl : ids.length ≤ 8000000) : W env (.call 68 [.ptr b.s 0, .str k, .sl kk (ids.map eU)]) H (fun o H' => Ext H H' ∧ ∃ kv, KOk kv (amgV a k (amg a k ids)).keys ∧ o = .val (.tup [.agg (eVer k (amg a k ids) (amgV a k (amg a k ids)).value kv (amgV a k (amg a k ids)).keys), .int .i64 0])) := by
  refine W.fnI rfl rfl rfl ?_
  obtain ⟨H1, hH1⟩ : ∃ H1, H1 = H ++ [B.cells [T.str ⟨#[]⟩, .int .u64 0, .str ⟨#[]⟩, .sl .nil []]] ++ [B.cells [T.str k, .int .u64 0, .str ⟨#[]⟩, .sl .nil []]] := ⟨_, rfl⟩
  have hx1 : Ext H H1 := by rw [hH1]; exact ((Ext.rfl'.app _).app _)
  have c1 : H1[H.length]? = some (.cells [T.str ⟨#[]⟩, .int .u64 0, .str ⟨#[]⟩, .sl .nil []]) := by rw [hH1, g_app (by simp), g_tail rfl]
  have d1 : H1[H.length + 1]? = some (.cells [T.str k, .int .u64 0, .str ⟨#[]⟩, .sl .nil []]) := by rw [hH1, g_tail (by simp)]
  have e0 : eqRef .ptr (.ptr b.s 0) .nilp = some false := rfl
  simp -implicitDefEqProofs only [ir68, op, ef, cl, sq, reduceIte, q1, q2, q3, q4, q5, q6, q7, q8, q9, S1, S2, S3, List.length_map, e0]
  rw [← hH1]
  refine W.loopV [(0, _), (1, _), (6, _), (8, _), (18, _), (19, _)] (fun (i : Nat) R H' => At H' (fun H' => Ext H H' ∧ H'[H.length]? = some (.cells [T.str ⟨#[]⟩, .int .u64 0, .str ⟨#[]⟩, .sl .nil []]) ∧ ∃ kv, KOk kv (amgV a k (amg a k (ids.take i))).keys ∧ H'[H.length + 1]? = some (.cells (eVer k (amg a k (ids.take i)) (amgV a k (amg a k (ids.take i))).value kv (amgV a k (amg a k (ids.take i))).keys))) ∧ R 20 = .int .i64 i ∧ i ≤ ids.length) (fun i => ids.length - i) 0 ⟨.i ⟨hx1, c1, .nil, fun _ => rfl, d1⟩, rfl, Nat.zero_le _⟩ ?_
  rintro i R H2 ⟨⟨hx2, c2, kv, hkv, d2⟩, g20, hi⟩
  unfold eVer at d2
  have lc2 := glt c2
  have ld2 := glt d2
  by_cases hlt : i < ids.length
  rotate_left
  · have hie : i = ids.length := by omega
    subst hie
    rw [List.take_length] at d2 hkv
    simp -implicitDefEqProofs only [mkR_nil, mkR_cons, op, ef, cl, sq, reduceIte, q1, q2, q3, q4, q5, q6, q7, q8, q9, S1, S2, g20, hlt, d2, c2, lc2]
    exact ⟨hx2.set (Nat.le_refl _) _, kv, hkv, rfl⟩
  obtain ⟨id, hid⟩ := getP hlt
  have iid := iadX (e := eU) (n := 1) (fun _ => rfl) (by decide) (k := kk) hid
  have ws := wrap_succ (show i < 9223372036854775807 by omega)
  have hsn := amg_snoc a k (ids.take i) id
  rw [← take_snoc hid] at hsn
  by_cases hle : id ≤ amg a k (ids.take i)
  · rw [if_pos hle] at hsn
    simp -implicitDefEqProofs only [mkR_nil, mkR_cons, op, ef, cl, sq, reduceIte, q1, q2, q3, q4, q5, q6, q7, q8, q9, S1, S2, g20, hlt, natOf_nat, iid, eU, d2, hle, ws]
    refine ⟨i + 1, by omega, .i ⟨hx2, c2, kv, by rw [hsn]; exact hkv, by rw [hsn]; exact d2⟩, rfl, hlt⟩
  rw [if_neg hle] at hsn
  simp -implicitDefEqProofs only [mkR_nil, mkR_cons, op, ef, cl, sq, reduceIte, q1, q2, q3, q4, q5, q6, q7, q8, q9, S1, S2, g20, hlt, natOf_nat, iid, eU, d2, hle]
  refine callB_of _ _ _ _ _ _ _ _ (byIDA k id (h.ext hx2)) ?_
  rintro u H4 ⟨hx4, hu⟩
  have hx4 : Ext H2 H4 := hx4
  have c4 := hx4.get c2
  have d4 := hx4.get d2
  have lt4 := glt c4
  have ld4 := glt d4
  have hne : ¬ H4.length = H.length + 1 := by omega
  have hne2 : ¬ H4.length = H.length := by omega
  rcases hu with ⟨hno, hu⟩ | ⟨v, kv2, hv, hkv2, hu⟩
  · cases hu
    have hh : a.has (k, id) = false := by unfold Ab.has; rw [hno]; rfl
    rw [hh] at hsn
    simp -implicitDefEqProofs only [Bool.false_eq_true, if_false] at hsn
    simp -implicitDefEqProofs only [op, ef, cl, sq, reduceIte, q1, q2, q3, q4, q5, q6, q7, q8, q9, S1, S2, g20, ws]
    refine ⟨i + 1, by omega, .i ⟨(hx2.trans hx4).app _, by rw [g_app lt4]; exact c4, kv, by rw [hsn]; exact hkv, by rw [g_app ld4, hsn]; exact d4⟩, rfl, hlt⟩
  · cases hu
    have hh : a.has (k, id) = true := by unfold Ab.has; rw [hv]; rfl
    rw [hh] at hsn
    simp -implicitDefEqProofs only [if_true] at hsn
    have hne3 : ¬ H.length + 1 = H.length := by omega
    have hid0 : ¬ id = 0 := by omega
    have hav : amgV a k id = v := by unfold amgV; rw [if_neg hid0, hv]; rfl
    simp -implicitDefEqProofs only [op, ef, cl, sq, reduceIte, q1, q2, q3, q4, q5, q6, q7, q8, q9, S1, S2, g20, lt4, d4, ld4, hne, eVer, ws]
    refine ⟨i + 1, by omega, .i ⟨((hx2.trans hx4).set (by omega) _).app _, by rw [g_app (by rw [List.length_set]; exact lt4), g_ne hne3]; exact c4, kv2, by rw [hsn, hav]; exact hkv2, by rw [g_app (by rw [List.length_set]; exact ld4), g_eq ld4, hsn, hav]⟩, rfl, hlt⟩
end Go.Proofs.YtmgldhlcapjdkaaGreat.St
end

section
namespace Go.Proofs.YtmgldhlcapjdkaaGreat.St
open Go.Rmp Go.Proofs.YtmgldhlcapjdkaaGreat.Ir
set_option maxRecDepth 10000
def firstS (ws : List Wst) (b h : Int) (k : ByteArray) : Slm × Nat := ofS k ((abAt ws k).last k) ((abAt ws k).latest k).value ((abAt ws k).latest k).keys b h
def Sizes (ws : List Wst) : Prop := ∀ w ∈ ws, ∀ m v, w.a.v m = some v → ∀ x ∈ v.keys, x.size < 9223372036854775807
theorem AtS.lkeys {H : Heap} {b : Bk} {a : Ab} {F : Nat → Prop} {n : Nat} (h : AtS H b a F n) (k : ByteArray) : (a.latest k).keys.length ≤ 1024 := by
  unfold Ab.latest
  cases a.l k with
  | none => simp [vdOf]
  | some n => exact h.keys (k, n)
theorem vd_sizes {a : Ab} (h : ∀ m v, a.v m = some v → ∀ x ∈ v.keys, x.size < 9223372036854775807) (m : Nm) : ∀ x ∈ (vdOf (a.v m)).keys, x.size < 9223372036854775807 := by
  cases e : a.v m with
  | none => intro x hx; simp [vdOf] at hx
  | some v => exact h m v e
set_option maxHeartbeats 2000000 in
theorem first23 (k1 k2 : SK) (ws : List Wst) (ks : List ByteArray) (b h : Int) {H : Heap} (hw : Wsts H ws) (h1 : 1 ≤ ws.length) (h2 : ws.length ≤ 64) (hsz : Sizes ws) (hsh : shOk b h = true) (hks : ∀ k ∈ ks, k.size < 9223372036854775807) (hl : ks.length ≤ 8000000)
    (hok : ∀ k ∈ ks, (firstS ws b h k).2 = 0) :
    W env (.call 23 [.sl k1 ((stP ws).map eSt), .sl k2 (ks.map eS), .agg [.int .i64 b, .int .i64 h]]) H (fun o H' => Ext H H' ∧ ((validK ks = false ∧ o = .val (.tup [.sl .nil [], .int .i64 40])) ∨ (validK ks = true ∧ ∃ kk, o = .val (.tup [.sl kk ((ks.map fun k => (firstS ws b h k).1).map (eSl .arg)), .int .i64 0])))) := by
  refine W.fnI rfl rfl rfl ?_
  obtain ⟨H1, hH1⟩ : ∃ H1, H1 = H ++ [B.cells [T.int .i64 b, T.int .i64 h]] := ⟨_, rfl⟩
  have hx1 : Ext H H1 := ⟨_, hH1⟩
  have c1 : H1[H.length]? = some (.cells [T.int .i64 b, T.int .i64 h]) := by rw [hH1]; exact g_tail rfl
  simp -implicitDefEqProofs only [ir23, op, ef, cl, sq, reduceIte, q1, q2, q3, q4, q5, q6, q7, q8, q9, S1]
  rw [← hH1]
  refine callB_of _ _ _ _ _ _ _ _ (good62 k1 (stP ws) _ (by rw [stP_len]; omega)) ?_
  rintro u H1 ⟨hu, rfl⟩
  cases hu
  rw [goodP_ws h1 h2]
  simp -implicitDefEqProofs only [op, ef, cl, sq, reduceIte, q1, q2, q3, q4, q5, q6, q7, q8, q9, S1, c1]
  refine callB_of _ _ _ _ _ _ _ _ (shape63 b h _) ?_
  rintro u H3 ⟨hx3, hu⟩
  cases hu
  have hx3 : Ext H1 H3 := hx3
  have c3 := hx3.get c1
  simp -implicitDefEqProofs only [op, ef, cl, sq, reduceIte, q1, q2, q3, q4, q5, q6, q7, q8, q9, S1, c1, c3, hsh]
  refine callB_of _ _ _ _ _ _ _ _ (valid64 k2 ks _ hl) ?_
  rintro u H4 ⟨hx4, hu⟩
  cases hu
  have hx4 : Ext H3 H4 := hx4
  have hx14 := hx1.trans (hx3.trans hx4)
  have c4 := hx4.get c3
  cases hv : validK ks
  · simp -implicitDefEqProofs only [op, ef, cl, sq, reduceIte, q1, q2, q3, q4, q5, q6, q7, q8, q9, S1]
    exact ⟨hx14, .inl trivial⟩
  have hl2 : ks.length ≤ 1024 := by
    simp -implicitDefEqProofs only [validK, Bool.and_eq_true, decide_eq_true_eq] at hv; exact hv.1.1.2
  simp -implicitDefEqProofs only [op, ef, cl, sq, reduceIte, q1, q2, q3, q4, q5, q6, q7, q8, q9, S1, List.length_map]
  refine W.loopV [(0, _), (5, _), (24, _), (25, _)] (fun (i : Nat) R H' => At H' (fun H' => ∃ kk, R 8 = .sl kk (((ks.take i).map fun k => (firstS ws b h k).1).map (eSl .arg)) ∧ Ext H4 H' ∧ Apd H4.length H' kk) ∧ R 26 = .int .i64 i ∧ i ≤ ks.length) (fun i => ks.length - i) 0 ⟨.i ⟨.nil, rfl, Ext.rfl', apd_nil _ _⟩, rfl, Nat.zero_le _⟩ ?_
  rintro i R H5 ⟨⟨kk, g8, hx5, hap⟩, g26, hi⟩
  have c5 := hx5.get c4
  by_cases hlt : i < ks.length
  rotate_left
  · have hie : i = ks.length := by omega
    subst hie
    rw [List.take_length] at g8
    simp -implicitDefEqProofs only [mkR_nil, mkR_cons, op, ef, cl, sq, reduceIte, q1, q2, q3, q4, q5, q6, q7, q8, q9, S1, g8, g26, hlt]
    exact ⟨hx14.trans hx5, .inr ⟨kk, rfl⟩⟩
  obtain ⟨k, hk⟩ := getP hlt
  have hkm := List.mem_of_getElem? hk
  have ik := iadX (e := eS) (n := 1) (fun _ => rfl) (by decide) (k := k2) hk
  have wsi := wrap_succ (show i < 9223372036854775807 by omega)
  obtain ⟨H6, hH6⟩ : ∃ H6, H6 = H5 ++ [B.cells [T.str ⟨#[]⟩, .int .u64 0, .str ⟨#[]⟩, .sl .nil []]] := ⟨_, rfl⟩
  have hx6 : Ext H5 H6 := ⟨_, hH6⟩
  have c6 := hx6.get c5
  have d6 : H6[H5.length]? = some (.cells [T.str ⟨#[]⟩, .int .u64 0, .str ⟨#[]⟩, .sl .nil []]) := by rw [hH6]; exact g_tail rfl
  simp -implicitDefEqProofs only [mkR_nil, mkR_cons, op, ef, cl, sq, reduceIte, q1, q2, q3, q4, q5, q6, q7, q8, q9, S1, S2, g26, hlt, natOf_nat, ik, eS, c5]
  rw [← hH6]
  refine callB_of _ _ _ _ _ _ _ _ (home65 k1 ws k _ h1 h2 (hks k hkm)) ?_
  rintro u H6 ⟨rfl, w, hwm, haw, hu⟩
  cases hu
  have hx06 : Ext H H6 := (hx14.trans hx5).trans hx6
  have haw6 := (hw w hwm).ext hx06
  simp -implicitDefEqProofs only [op, ef, cl, sq, reduceIte, q1, q2, q3, q4, q5, q6, q7, q8, q9, S1, c5, c6]
  refine callB_of _ _ _ _ _ _ _ _ (latestA k haw6) ?_
  rintro u H7 ⟨hx7, kv, hkv, hu⟩
  cases hu
  have hx7 : Ext H6 H7 := hx7
  have c7 := hx7.get c6
  have d7 := hx7.get d6
  have hszl : ∀ x ∈ (w.a.latest k).keys, x.size < 9223372036854775807 := by
    unfold Ab.latest
    cases w.a.l k with
    | none => intro x hx; simp [vdOf] at hx
    | some n => exact vd_sizes (hsz w hwm) (k, n)
  simp -implicitDefEqProofs only [op, ef, cl, sq, reduceIte, q1, q2, q3, q4, q5, q6, q7, q8, q9, S1, c5, c6, c7]
  refine callB_of _ _ _ _ _ _ _ _ (of11 k (w.a.last k) (w.a.latest k).value kv (w.a.latest k).keys b h _ (by have := haw6.lkeys k; omega) hszl) ?_
  rintro u H8 ⟨hx8, kf, hkf, hu⟩
  have hx8 : Ext H7 H8 := hx8
  have efs : ofS k (w.a.last k) (w.a.latest k).value (w.a.latest k).keys b h = firstS ws b h k := by unfold firstS; rw [haw]
  rw [efs] at hu
  have h0 := hok k hkm
  obtain ⟨s, hs⟩ : ∃ s, s = (firstS ws b h k).1 := ⟨_, rfl⟩
  rw [h0, ← hs] at hu
  cases hu
  have c8 := hx8.get c7
  have d8 := hx8.get d7
  have ld8 := glt d8
  obtain ⟨H9, hH9⟩ : ∃ H9, H9 = H8.set H5.length (.cells (eSl kf s)) := ⟨_, rfl⟩
  have hx9 : Ext H5 H9 := by rw [hH9]; exact ((hx6.trans hx7).trans hx8).set (Nat.le_refl _) _
  have d9 : H9[H5.length]? = some (.cells (eSl kf s)) := by rw [hH9]; exact g_eq ld8
  have hH9' := hH9
  unfold eSl at d9 hH9'
  have hall := all_map (enc := eSl .arg) (n := 4) (fun _ => rfl) ((ks.take i).map fun k => (firstS ws b h k).1)
  obtain ⟨k', H10, ha, hap', hst'⟩ := app_ok (bytes := 64) (((ks.take i).map fun k => (firstS ws b h k).1).map (eSl .arg)) [eSl .arg s] (hap.ext hx9) (Nat.le_trans hx5.len hx9.len) (by simp) (roomT (by simp -implicitDefEqProofs only [List.length_map, List.length_take, List.length_cons, List.length_nil]; omega))
  have ha2 : appT H9 64 kk (((ks.take i).map fun k => (firstS ws b h k).1).map (eSl .arg)) [[.str s.key, .int .u64 s.id, .str s.val, .sl .arg (s.fil.map eB)]] = some (.sl k' (((ks.take i).map fun k => (firstS ws b h k).1).map (eSl .arg) ++ [eSl .arg s]), H10) := ha
  simp -implicitDefEqProofs only [eSl, op, ef, cl, sq, reduceIte, q1, q2, q3, q4, q5, q6, q7, q8, q9, S1, S2, c5, c6, c7, c8, d8, ld8, S3]
  rw [← hH9']
  simp -implicitDefEqProofs only [op, ef, cl, sq, reduceIte, q1, q2, q3, q4, q5, q6, q7, q8, q9, S1, g8, g26, d9, hall, ha2, wsi]
  refine ⟨i + 1, by omega, .i ⟨k', ?_, hst'.ext H4 (Nat.le_refl _) (hx5.trans hx9), hap'⟩, rfl, hlt⟩
  rw [take_snoc hk, List.map_append, List.map_append, hs]; rfl
end Go.Proofs.YtmgldhlcapjdkaaGreat.St
end

section
namespace Go.Proofs.YtmgldhlcapjdkaaGreat.St
open Go.Rmp Go.Proofs.YtmgldhlcapjdkaaGreat.Ir
set_option maxRecDepth 10000
def needN (ws : List Wst) (l : List Slm) (y : Slm) : Nat := if idsOf l y = [] then 0 else amg (abAt ws y.key) y.key (riseL (idsOf l y))
def needS (ws : List Wst) (b h : Int) (y : Slm) (n : Nat) : Slm × Nat := ofS y.key n (amgV (abAt ws y.key) y.key n).value (amgV (abAt ws y.key) y.key n).keys b h
def secondS (ws : List Wst) (b h : Int) (l : List Slm) (y : Slm) : Slm := if needN ws l y = 0 then y else (needS ws b h y (needN ws l y)).1
theorem drop_cons {α : Type} {l : List α} {i : Nat} {x : α} (h : l[i]? = some x) : l.drop i = x :: l.drop (i + 1) := by
  obtain ⟨hi, e⟩ := List.getElem?_eq_some_iff.1 h
  rw [List.drop_eq_getElem_cons hi, e]
theorem asks_cons {l : List Slm} {i : Nat} {y : Slm} (h : l[i]? = some y) : asksOf l (l.drop i) = askOf l y ++ asksOf l (l.drop (i + 1)) := by
  rw [drop_cons h]; simp [asksOf]
theorem asks_key {l m : List Slm} {a : Ak} (h : a ∈ asksOf l m) : ∃ y ∈ m, y.key = a.1 := by
  simp -implicitDefEqProofs only [asksOf, List.mem_flatMap] at h
  obtain ⟨y, hy, ha⟩ := h
  refine ⟨y, hy, ?_⟩
  unfold askOf at ha
  split at ha
  · cases ha
  · simp at ha; rw [ha]
theorem amgV_sizes {a : Ab} (h : ∀ m v, a.v m = some v → ∀ x ∈ v.keys, x.size < 9223372036854775807) (k : ByteArray) (n : Nat) : ∀ x ∈ (amgV a k n).keys, x.size < 9223372036854775807 := by
  unfold amgV
  split
  · intro x hx; simp at hx
  · exact vd_sizes h (k, n)
theorem amgV_len {H : Heap} {b : Bk} {a : Ab} {F : Nat → Prop} {m : Nat} (h : AtS H b a F m) (k : ByteArray) (n : Nat) : (amgV a k n).keys.length ≤ 1024 := by
  unfold amgV
  split
  · simp
  · exact h.keys (k, n)
set_option maxHeartbeats 4000000 in
theorem second24 (k1 k2 : SK) (ws : List Wst) (l : List Slm) (b h : Int) {H : Heap} (hw : Wsts H ws) (h1 : 1 ≤ ws.length) (h2 : ws.length ≤ 64) (hsz : Sizes ws) (hsh : shOk b h = true) (hb : ∀ s ∈ l, SlmB s) (hl : l.length ≤ 8000000)
    (hok : ∀ y ∈ l, needN ws l y ≠ 0 → (needS ws b h y (needN ws l y)).2 = 0) :
    W env (.call 24 [.sl k1 ((stP ws).map eSt), .sl k2 (l.map (eSl .arg)), .agg [.int .i64 b, .int .i64 h]]) H (fun o H' => Ext H H' ∧ ((formed l = false ∧ o = .val (.tup [.sl .nil [], .int .i64 1])) ∨ (formed l = true ∧ ∃ kk, o = .val (.tup [.sl kk ((l.map (secondS ws b h l)).map (eSl .arg)), .int .i64 0])))) := by
  refine W.fnI rfl rfl rfl ?_
  obtain ⟨H1, hH1⟩ : ∃ H1, H1 = H ++ [B.cells [T.int .i64 b, T.int .i64 h]] := ⟨_, rfl⟩
  have hx1 : Ext H H1 := ⟨_, hH1⟩
  have c1 : H1[H.length]? = some (.cells [T.int .i64 b, T.int .i64 h]) := by rw [hH1]; exact g_tail rfl
  simp -implicitDefEqProofs only [ir24, op, ef, cl, sq, reduceIte, q1, q2, q3, q4, q5, q6, q7, q8, q9, S1]
  rw [← hH1]
  refine callB_of _ _ _ _ _ _ _ _ (good62 k1 (stP ws) _ (by rw [stP_len]; omega)) ?_
  rintro u H1 ⟨hu, rfl⟩
  cases hu
  rw [goodP_ws h1 h2]
  simp -implicitDefEqProofs only [op, ef, cl, sq, reduceIte, q1, q2, q3, q4, q5, q6, q7, q8, q9, S1, c1]
  refine callB_of _ _ _ _ _ _ _ _ (shape63 b h _) ?_
  rintro u H3 ⟨hx3, hu⟩
  cases hu
  have hx3 : Ext H1 H3 := hx3
  have c3 := hx3.get c1
  simp -implicitDefEqProofs only [op, ef, cl, sq, reduceIte, q1, q2, q3, q4, q5, q6, q7, q8, q9, S1, c1, c3, hsh]
  refine callB_of _ _ _ _ _ _ _ _ (needs17 k2 l hb hl _) ?_
  rintro u H4 ⟨hx4, ⟨hno, ka, hu⟩ | ⟨hyes, ka, hu⟩⟩
  · cases hu
    simp -implicitDefEqProofs only [op, ef, cl, sq, reduceIte, q1, q2, q3, q4, q5, q6, q7, q8, q9, S1, hno]
    exact ⟨hx1.trans (hx3.trans hx4), .inl trivial⟩
  cases hu
  have hx4 : Ext H3 H4 := hx4
  have hx14 := hx1.trans (hx3.trans hx4)
  have c4 := hx4.get c3
  obtain ⟨l1, l2, hsl, hnd⟩ := formed_ok hyes
  simp -implicitDefEqProofs only [op, ef, cl, sq, reduceIte, q1, q2, q3, q4, q5, q6, q7, q8, q9, S1, List.length_map, hyes]
  refine W.loopV [(0, _), (5, _), (31, _), (32, _)] (fun (i : Nat) R H' => At H' (fun H' => ∃ kk ka, R 10 = .sl kk (((l.take i).map (secondS ws b h l)).map (eSl .arg)) ∧ R 8 = .sl ka ((asksOf l (l.drop i)).map eA) ∧ Ext H4 H' ∧ Apd H4.length H' kk) ∧ R 33 = .int .i64 i ∧ i ≤ l.length) (fun i => l.length - i) 0 ⟨.i ⟨.nil, ka, rfl, rfl, Ext.rfl', apd_nil _ _⟩, rfl, Nat.zero_le _⟩ ?_
  rintro i R H5 ⟨⟨kk, ka, g10, g8, hx5, hap⟩, g33, hi⟩
  have c5 := hx5.get c4
  by_cases hlt : i < l.length
  rotate_left
  · have hie : i = l.length := by omega
    subst hie
    rw [List.take_length] at g10
    simp -implicitDefEqProofs only [mkR_nil, mkR_cons, op, ef, cl, sq, reduceIte, q1, q2, q3, q4, q5, q6, q7, q8, q9, S1, g10, g33, hlt]
    exact ⟨hx14.trans hx5, .inr ⟨kk, rfl⟩⟩
  obtain ⟨y, hy⟩ := getP hlt
  have hym := List.mem_of_getElem? hy
  have hyb := hb y hym
  have iy := iadX (e := eSl .arg) (n := 4) (fun _ => rfl) (by decide) (k := k2) hy
  have ld4 : ∀ Hx, ldc Hx 4 (.iptr (eSl .arg y)) = some [.str y.key, .int .u64 y.id, .str y.val, .sl .arg (y.fil.map eB)] := fun _ => rfl
  have wsi := wrap_succ (show i < 9223372036854775807 by omega)
  obtain ⟨H6, hH6⟩ : ∃ H6, H6 = H5 ++ [B.cells (eSl .arg y)] := ⟨_, rfl⟩
  have hx6 : Ext H5 H6 := ⟨_, hH6⟩
  have d6 : H6[H5.length]? = some (.cells (eSl .arg y)) := by rw [hH6]; exact g_tail rfl
  have hH6' := hH6
  unfold eSl at d6 hH6'
  simp -implicitDefEqProofs only [mkR_nil, mkR_cons, op, ef, cl, sq, reduceIte, q1, q2, q3, q4, q5, q6, q7, q8, q9, S1, S2, S3, g33, hlt, natOf_nat, iy, ld4]
  rw [← hH6']
  refine callB_of _ _ _ _ _ _ _ _ (cloneB67 .arg y.fil (by simp) hyb.2.1 _) ?_
  rintro u H7 ⟨hx7, kf, hkf, hu⟩
  cases hu
  have hx7 : Ext H6 H7 := hx7
  have d7 := hx7.get d6
  have ld7 := glt d7
  obtain ⟨H8, hH8⟩ : ∃ H8, H8 = H7.set H5.length (.cells (eSl kf y)) := ⟨_, rfl⟩
  have hx8 : Ext H5 H8 := by rw [hH8]; exact (hx6.trans hx7).set (Nat.le_refl _) _
  have d8 : H8[H5.length]? = some (.cells (eSl kf y)) := by rw [hH8]; exact g_eq ld7
  have ld8 := glt d8
  have c8 := hx8.get c5
  have hH8' := hH8
  unfold eSl at d8 hH8'
  have hac := asks_cons hy
  have fin : ∀ (s : Slm) (kf : SK) (Hx : Heap), secondS ws b h l y = s → Ext H5 Hx → Hx[H5.length]? = some (.cells [.str s.key, .int .u64 s.id, .str s.val, .sl kf (s.fil.map eB)]) →
      ∃ k' Hy, appT Hx 64 kk (((l.take i).map (secondS ws b h l)).map (eSl .arg)) [[.str s.key, .int .u64 s.id, .str s.val, .sl .arg (s.fil.map eB)]] = some (.sl k' (((l.take (i + 1)).map (secondS ws b h l)).map (eSl .arg)), Hy) ∧ Ext H4 Hy ∧ Apd H4.length Hy k' := fun s kf Hx hs hxx hd => by
    obtain ⟨k', Hy, ha, hap', hst'⟩ := app_ok (bytes := 64) (((l.take i).map (secondS ws b h l)).map (eSl .arg)) [eSl .arg s] (hap.ext hxx) (Nat.le_trans hx5.len hxx.len) (by simp) (roomT (by simp -implicitDefEqProofs only [List.length_map, List.length_take, List.length_cons, List.length_nil]; omega))
    refine ⟨k', Hy, ?_, hst'.ext H4 (Nat.le_refl _) (hx5.trans hxx), hap'⟩
    rw [take_snoc hy, List.map_append, List.map_append, List.map_cons, List.map_cons, hs]
    exact ha
  have hall := all_map (enc := eSl .arg) (n := 4) (fun _ => rfl) ((l.take i).map (secondS ws b h l))
  have hallA := fun m : List Ak => all_map (enc := eA) (n := 2) (fun _ => rfl) m
  by_cases h0 : idsOf l y = []
  · -- nothing is asked for
    have hs : secondS ws b h l y = y := by unfold secondS needN; rw [if_pos h0]; rfl
    have hao : askOf l y = [] := by unfold askOf; rw [if_pos h0]
    rw [hao, List.nil_append] at hac
    obtain ⟨k', Hy, ha, hxy, hapy⟩ := fin y kf H8 hs hx8 d8
    by_cases hz : asksOf l (l.drop i) = []
    · simp -implicitDefEqProofs only [op, ef, cl, sq, reduceIte, q1, q2, q3, q4, q5, q6, q7, q8, q9, S1, S2, d7, ld7]
      rw [← hH8']
      simp -implicitDefEqProofs only [op, ef, cl, sq, reduceIte, q1, q2, q3, q4, q5, q6, q7, q8, q9, S1, g8, hz, List.map_nil, Nat.lt_irrefl, d8, g10, g33, hall, ha, wsi]
      exact ⟨i + 1, by omega, .i ⟨k', ka, rfl, by rw [← hac, hz]; rfl, hxy, hapy⟩, rfl, hlt⟩
    · obtain ⟨a, m, ham⟩ := List.exists_cons_of_ne_nil hz
      have hne : ¬ a.1 = y.key := fun e => by
        have hma : a ∈ asksOf l (l.drop (i + 1)) := by rw [← hac, ham]; simp
        obtain ⟨z, hz1, hz2⟩ := asks_key hma
        have e3 : l.map Slm.key = (l.take (i + 1)).map Slm.key ++ (l.drop (i + 1)).map Slm.key := by rw [← List.map_append, List.take_append_drop]
        rw [e3, List.nodup_append] at hnd
        exact hnd.2.2 y.key (List.mem_map_of_mem (by rw [take_snoc hy]; simp)) z.key (List.mem_map_of_mem hz1) (by rw [hz2, e])
      have ia : iadT 2 0 (.sl ka ((asksOf l (l.drop i)).map eA)) = some (.iptr (eA a)) := iadX (e := eA) (n := 2) (fun _ => rfl) (by decide) (by rw [ham]; rfl)
      have hpos : 0 < (asksOf l (l.drop i)).length := by rw [ham]; simp
      have n0 : natOf (.int .i64 0) = some 0 := rfl
      have f0 : fadT 0 (.iptr (eA a)) = some (.iptr (eA a)) := rfl
      have l0 : ∀ Hx, ldc Hx 1 (.iptr (eA a)) = some [.str a.1] := fun _ => rfl
      simp -implicitDefEqProofs only [op, ef, cl, sq, reduceIte, q1, q2, q3, q4, q5, q6, q7, q8, q9, S1, S2, d7, ld7]
      rw [← hH8']
      simp -implicitDefEqProofs only [op, ef, cl, sq, reduceIte, q1, q2, q3, q4, q5, q6, q7, q8, q9, S1, g8, List.length_map, hpos, n0, ia, f0, l0, hne, d8, g10, g33, hall, ha, wsi]
      exact ⟨i + 1, by omega, .i ⟨k', ka, rfl, by rw [← hac], hxy, hapy⟩, rfl, hlt⟩
  have hao : askOf l y = [(y.key, riseL (idsOf l y))] := by unfold askOf; rw [if_neg h0]
  rw [hao, List.singleton_append] at hac
  have ia : iadT 2 0 (.sl ka ((asksOf l (l.drop i)).map eA)) = some (.iptr (eA (y.key, riseL (idsOf l y)))) := iadX (e := eA) (n := 2) (fun _ => rfl) (by decide) (by rw [hac]; rfl)
  have hpos : 0 < (asksOf l (l.drop i)).length := by rw [hac]; simp
  have hle1 : 1 ≤ (asksOf l (l.drop i)).length := hpos
  have n0 : natOf (.int .i64 0) = some 0 := rfl
  have n1 : natOf (.int .i64 1) = some 1 := rfl
  have f0 : fadT 0 (.iptr (eA (y.key, riseL (idsOf l y)))) = some (.iptr (eA (y.key, riseL (idsOf l y)))) := rfl
  have f1 : fadT 1 (.iptr (eA (y.key, riseL (idsOf l y)))) = some (.iptr [.sl .arg ((riseL (idsOf l y)).map eU)]) := rfl
  have l0 : ∀ Hx, ldc Hx 1 (.iptr (eA (y.key, riseL (idsOf l y)))) = some [.str y.key] := fun _ => rfl
  have hdrop : (((asksOf l (l.drop i)).map eA).take (asksOf l (l.drop i)).length).drop 1 = (asksOf l (l.drop (i + 1))).map eA := by
    rw [List.take_of_length_le (by simp), hac]; rfl
  have hnn : needN ws l y = amg (abAt ws y.key) y.key (riseL (idsOf l y)) := by unfold needN; rw [if_neg h0]
  simp -implicitDefEqProofs only [op, ef, cl, sq, reduceIte, q1, q2, q3, q4, q5, q6, q7, q8, q9, S1, S2, d7, ld7]
  rw [← hH8']
  obtain ⟨H9, hH9⟩ : ∃ H9, H9 = H8 ++ [B.cells [T.str ⟨#[]⟩, .int .u64 0, .str ⟨#[]⟩, .sl .nil []]] := ⟨_, rfl⟩
  have hx9 : Ext H8 H9 := ⟨_, hH9⟩
  have d9 := hx9.get d8
  have c9 := hx9.get c8
  have t9 : H9[H8.length]? = some (.cells [T.str ⟨#[]⟩, .int .u64 0, .str ⟨#[]⟩, .sl .nil []]) := by rw [hH9]; exact g_tail rfl
  simp -implicitDefEqProofs only [op, ef, cl, sq, reduceIte, q1, q2, q3, q4, q5, q6, q7, q8, q9, S1, g8, List.length_map, hpos, n0, ia, f0, f1, l0, d8]
  rw [← hH9]
  refine callB_of _ _ _ _ _ _ _ _ (home65 k1 ws y.key _ h1 h2 hyb.2.2) ?_
  rintro u H9 ⟨rfl, w, hwm, haw, hu⟩
  cases hu
  have hx09 : Ext H H9 := ((hx14.trans hx5).trans hx8).trans hx9
  have haw9 := (hw w hwm).ext hx09
  simp -implicitDefEqProofs only [op, ef, cl, sq, reduceIte, q1, q2, q3, q4, q5, q6, q7, q8, q9, S1, d8, d9, n0, ia, f0, f1, l0]
  refine callB_of _ _ _ _ _ _ _ _ (among68 y.key .arg (riseL (idsOf l y)) haw9 (by
    have h5 : (riseL (idsOf l y)).length ≤ (idsOf l y).length := by
      have h6 := ddx_len (srtL (idsOf l y)) (srtL (idsOf l y)).length
      have h7 := (srtL_ok (idsOf l y)).1.length_eq
      unfold riseL; omega
    have h6 : (idsOf l y).length ≤ l.length := by unfold idsOf; rw [List.length_map]; exact List.length_filter_le _ _
    omega)) ?_
  rintro u H10 ⟨hx10, kv, hkv, hu⟩
  rw [← haw, ← hnn] at hu hkv
  cases hu
  have hx10 : Ext H9 H10 := hx10
  have d10 := hx10.get d9
  have c10 := hx10.get c9
  have t10 := hx10.get t9
  have lt10 := glt t10
  have ld10 := glt d10
  obtain ⟨n, hn⟩ : ∃ n, n = needN ws l y := ⟨_, rfl⟩
  rw [← hn] at hkv ⊢
  obtain ⟨H11, hH11⟩ : ∃ H11, H11 = H10.set H8.length (.cells (eVer y.key n (amgV (abAt ws y.key) y.key n).value kv (amgV (abAt ws y.key) y.key n).keys)) := ⟨_, rfl⟩
  have hne85 : ¬ H8.length = H5.length := by omega
  have t11 : H11[H8.length]? = some (.cells (eVer y.key n (amgV (abAt ws y.key) y.key n).value kv (amgV (abAt ws y.key) y.key n).keys)) := by rw [hH11]; exact g_eq lt10
  have d11 : H11[H5.length]? = some (.cells [.str y.key, .int .u64 y.id, .str y.val, .sl kf (y.fil.map eB)]) := by rw [hH11, g_ne hne85]; exact d10
  have hx11 : Ext H8 H11 := by rw [hH11]; exact (hx9.trans hx10).set (Nat.le_refl _) _
  have c11 := hx11.get c8
  have lt11 := glt t11
  have ld11 := glt d11
  have hH11' := hH11
  unfold eVer at t11 hH11'
  by_cases hz : n = 0
  · have hs : secondS ws b h l y = y := by unfold secondS; rw [if_pos (by rw [← hn]; exact hz)]
    obtain ⟨k', Hy, ha, hxy, hapy⟩ := fin y kf H11 hs (hx8.trans hx11) d11
    subst hz
    simp -implicitDefEqProofs only [op, ef, cl, sq, reduceIte, q1, q2, q3, q4, q5, q6, q7, q8, q9, S1, S2, eVer, g33, t10, lt10]
    rw [← hH11']
    simp -implicitDefEqProofs only [op, ef, cl, sq, reduceIte, q1, q2, q3, q4, q5, q6, q7, q8, q9, S1, S2, g8, g10, g33, t11, d11, n0, n1, hle1, List.length_map, hallA, hdrop, hall, ha, wsi, Nat.le_refl]
    exact ⟨i + 1, by omega, .i ⟨k', _, rfl, rfl, hxy, hapy⟩, rfl, hlt⟩
  have hnz : needN ws l y ≠ 0 := by rw [← hn]; exact hz
  have hs : secondS ws b h l y = (needS ws b h y n).1 := by unfold secondS; rw [if_neg hnz, hn]
  have he := hok y hym hnz
  rw [← hn] at he
  simp -implicitDefEqProofs only [op, ef, cl, sq, reduceIte, q1, q2, q3, q4, q5, q6, q7, q8, q9, S1, S2, eVer, g33, t10, lt10]
  rw [← hH11']
  simp -implicitDefEqProofs only [op, ef, cl, sq, reduceIte, q1, q2, q3, q4, q5, q6, q7, q8, q9, S1, S2, t11, d11, hz, c11]
  refine callB_of _ _ _ _ _ _ _ _ (of11 y.key n (amgV (abAt ws y.key) y.key n).value kv (amgV (abAt ws y.key) y.key n).keys b h H11 (by have := amgV_len haw9 y.key n; rw [haw]; omega) (by rw [haw]; exact amgV_sizes (hsz w hwm) y.key n)) ?_
  rintro u H12 ⟨hx12, kf2, hkf2, hu⟩
  have hx12 : Ext H11 H12 := hx12
  obtain ⟨s, hss⟩ : ∃ s, s = (needS ws b h y n).1 := ⟨_, rfl⟩
  have efs : ofS y.key n (amgV (abAt ws y.key) y.key n).value (amgV (abAt ws y.key) y.key n).keys b h = needS ws b h y n := rfl
  rw [efs, he, ← hss] at hu
  rw [efs, ← hss] at hkf2
  rw [← hss] at hs
  cases hu
  have d12 := hx12.get d11
  have t12 := hx12.get t11
  have c12 := hx12.get c11
  have ld12 := glt d12
  obtain ⟨H13, hH13⟩ : ∃ H13, H13 = H12.set H5.length (.cells (eSl kf2 s)) := ⟨_, rfl⟩
  have d13 : H13[H5.length]? = some (.cells (eSl kf2 s)) := by rw [hH13]; exact g_eq ld12
  have hx13 : Ext H5 H13 := by rw [hH13]; exact ((hx8.trans hx11).trans hx12).set (Nat.le_refl _) _
  have hH13' := hH13
  unfold eSl at d13 hH13'
  obtain ⟨k', Hy, ha, hxy, hapy⟩ := fin s kf2 H13 hs hx13 d13
  simp -implicitDefEqProofs only [op, ef, cl, sq, reduceIte, q1, q2, q3, q4, q5, q6, q7, q8, q9, S1, S2, eSl, t11, t12, c11, c12, d12, ld12]
  rw [← hH13']
  simp -implicitDefEqProofs only [op, ef, cl, sq, reduceIte, q1, q2, q3, q4, q5, q6, q7, q8, q9, S1, S2, g8, g10, g33, d13, n0, n1, hle1, List.length_map, hallA, hdrop, hall, ha, wsi, Nat.le_refl]
  exact ⟨i + 1, by omega, .i ⟨k', _, rfl, rfl, hxy, hapy⟩, rfl, hlt⟩
end Go.Proofs.YtmgldhlcapjdkaaGreat.St
end

section
namespace Go.Proofs.YtmgldhlcapjdkaaGreat.St
open Go.Rmp Go.Proofs.YtmgldhlcapjdkaaGreat.Ir
set_option maxRecDepth 10000
theorem filB_bytes {b h : Nat} {S : Nat → Bool} : Bytes (filB b h S) := fun x hx => by
  unfold filB at hx
  rcases List.mem_append.1 hx with hx | hx
  · simp -implicitDefEqProofs only [hdr, List.mem_cons, List.not_mem_nil, or_false] at hx
    omega
  · exact bytS_lt hx
theorem filB_len (b h : Nat) (S : Nat → Bool) : (filB b h S).length = 5 + (b + 7) / 8 := by
  unfold filB; rw [List.length_append, bytS_len]; rfl
theorem filB_at (b h : Nat) (S : Nat → Bool) (j : Nat) : bAt (filB b h S) (5 + j) = if j < (b + 7) / 8 then byteS S j else 0 := by
  unfold bAt filB
  rw [List.getD_eq_getElem?_getD, List.getElem?_append_right (by simp [hdr])]
  have e : 5 + j - (hdr b h).length = j := by simp [hdr]
  rw [e]
  split
  · rename_i hj; rw [bytS_at S hj]; rfl
  · rename_i hj; rw [List.getElem?_eq_none (by rw [bytS_len]; omega)]; rfl
theorem filB_B {b h : Nat} (S : Nat → Bool) (hb : b ≤ 65536) : rdB (filB b h S) = b := by
  rw [rdB_eq filB_bytes]
  have e0 : bAt (filB b h S) 0 = b / 16777216 % 256 := rfl
  have e1 : bAt (filB b h S) 1 = b / 65536 % 256 := rfl
  have e2 : bAt (filB b h S) 2 = b / 256 % 256 := rfl
  have e3 : bAt (filB b h S) 3 = b % 256 := rfl
  rw [e0, e1, e2, e3]; omega
theorem filB_H {b h : Nat} (S : Nat → Bool) (hh : h ≤ 16) : rdH (filB b h S) = h := by
  have e : rdH (filB b h S) = h % 256 := rfl
  rw [e]; omega
theorem filB_S {b h : Nat} {S : Nat → Bool} (hs : ∀ q, S q = true → q < b) : rdS (filB b h S) = S := by
  funext q
  unfold rdS
  rw [filB_at]
  split
  · exact byteS_bit S q
  · rename_i hq
    cases e : S q with
    | false => simp
    | true => have := hs q e; omega
theorem filB_ok {b h : Nat} {S : Nat → Bool} (hs : ∀ q, S q = true → q < b) (b1 : 1 ≤ b) (b2 : b ≤ 65536) (h1 : 1 ≤ h) (h2 : h ≤ 16) : rdOk (filB b h S) = true := by
  have hB := filB_B (h := h) S b2
  have hH := filB_H (b := b) S h2
  have hl := filB_len b h S
  have ht := topZ_of (bs := filB b h S) filB_bytes (by rw [hB]; exact hl) (by omega) (by rw [hB, filB_S hs]; exact hs)
  have hsh : shOk (b : Int) (h : Int) = true := by simp [shOk]; omega
  unfold rdOk
  rw [ht, hB, hH, hsh, decide_eq_true (by omega), decide_eq_true hl]; rfl
theorem mk_hasF {b h : Nat} (k : ByteArray) (n : Nat) (v : ByteArray) (ks : List ByteArray) (t : ByteArray) (b1 : 1 ≤ b) (b2 : b ≤ 65536) (h2 : h ≤ 16) : hasF (mkSlm k n v ks b h) t = (plcs t b h).all (keyP ks b h) := by
  unfold hasF
  show (plcs t (rdB (filB b h (keyP ks b h))) (rdH (filB b h (keyP ks b h)))).all (rdS (filB b h (keyP ks b h))) = _
  rw [filB_B _ b2, filB_H _ h2, filB_S (keyP_lt b1)]
theorem keyP_has {ks : List ByteArray} {t : ByteArray} (h : t ∈ ks) (b hh : Nat) : (plcs t b hh).all (keyP ks b hh) = true := by
  rw [List.all_eq_true]
  intro p hp
  simp -implicitDefEqProofs only [keyP, List.any_eq_true, List.contains_iff_mem]
  exact ⟨t, h, hp⟩
theorem mk_slim {b h : Nat} {k : ByteArray} {n : Nat} {v : ByteArray} {ks : List ByteArray} (b1 : 1 ≤ b) (b2 : b ≤ 65536) (h1 : 1 ≤ h) (h2 : h ≤ 16) (hn : 65536 ≤ n) (hk : k ∈ ks) : slimOk (mkSlm k n v ks b h) = true := by
  have e1 : hasF (mkSlm k n v ks b h) k = true := by rw [mk_hasF _ _ _ _ _ b1 b2 h2]; exact keyP_has hk b h
  have e2 : rdOk (mkSlm k n v ks b h).fil = true := filB_ok (keyP_lt b1) b1 b2 h1 h2
  have e3 : ¬ (mkSlm k n v ks b h).id = 0 := by show ¬ n = 0; omega
  unfold slimOk
  rw [if_neg e3, e2]
  show (decide (65536 ≤ n) && true && hasF (mkSlm k n v ks b h) k) = true
  rw [e1, decide_eq_true hn]; rfl
theorem mk_SlmB {b h : Nat} {k : ByteArray} {n : Nat} {v : ByteArray} {ks : List ByteArray} (b2 : b ≤ 65536) (hk : k.size < 9223372036854775807) : SlmB (mkSlm k n v ks b h) := ⟨filB_bytes, by show (filB b h _).length ≤ _; rw [filB_len]; omega, hk⟩
theorem ofS_mk {k : ByteArray} {n : Nat} {v : ByteArray} {ks : List ByteArray} {b h : Nat} (hs : shOk b h = true) (ho : ofOk k n ks = true) : ofS k n v ks b h = (mkSlm k n v ks b h, 0) := by
  have hn : ¬ n = 0 := by
    rintro rfl
    simp [ofOk] at ho
  unfold ofS
  rw [if_neg (by rw [hs]; simp), if_neg hn, ho]; rfl
end Go.Proofs.YtmgldhlcapjdkaaGreat.St
end

section
namespace Go.Proofs.YtmgldhlcapjdkaaGreat.St
open Go.Rmp Go.Proofs.YtmgldhlcapjdkaaGreat.Ir
set_option maxRecDepth 10000
def t1 : ByteArray := ⟨#[49]⟩
def slA : Slm := mkSlm tA 65536 t1 [tA] 8 2
theorem formed16 (k : SK) (l : List Slm) (hb : ∀ s ∈ l, SlmB s) (hl : l.length ≤ 8000000) (H : Heap) : W env (.call 16 [.sl k (l.map (eSl .arg))]) H (fun o H' => Ext H H' ∧ o = .val (.bool (formed l))) := by
  refine W.fnI rfl rfl rfl ?_
  simp -implicitDefEqProofs only [ir16, op, ef, cl, sq, reduceIte, q1, q2, q3, q4, q5, q6, q7, q8, q9, S1]
  refine callB_of _ _ _ _ _ _ _ _ (filters54 k l hb hl _) ?_
  rintro u H1 ⟨hx1, ⟨hno, kp, hu⟩ | ⟨hyes, kp, ps, hfs, hu⟩⟩
  · cases hu
    simp -implicitDefEqProofs only [op, ef, cl, sq, reduceIte, q1, q2, q3, q4, q5, q6, q7, q8, q9, S1, hno]
    exact hx1
  · cases hu
    simp -implicitDefEqProofs only [op, ef, cl, sq, reduceIte, q1, q2, q3, q4, q5, q6, q7, q8, q9, S1, hyes]
    exact hx1
theorem aMay : MayP 65536 [(tA, t1)] [tA] := by
  refine ⟨by decide, ⟨fun i hi x hx => ?_, by decide, by decide⟩, by decide, fun i hi => ?_⟩
  · have : i = 0 := by simp at hi; omega
    subst this
    simp at hx; subst hx
    exact ⟨by decide, fun h => absurd h (by decide)⟩
  · have : i = 0 := by simp at hi; omega
    subst this
    intro p hp
    simp at hp; subst hp
    exact ⟨fun h => absurd h (by decide), by simp, by decide⟩
def aA : Ab := (Ab.emp.put 65536 [(tA, t1)] [tA] 0).com 65536 0
theorem aA_l : aA.l tA = some 65536 := by
  simp [aA, Ab.com, Ab.put, Ab.has, Ab.last, Ab.emp, mlook_cons]
theorem aA_v : ∃ st, aA.v (tA, 65536) = some ⟨t1, [tA], st⟩ := by
  simp [aA, Ab.com, Ab.put, Ab.has, Ab.last, Ab.emp, mlook_cons]
theorem com_vv {a : Ab} {n : Nat} {now : Int} {m : Nm} {v : Vd} (h : (a.com n now).v m = some v) : ∃ w, a.v m = some w ∧ v.keys = w.keys ∧ v.value = w.value := by
  simp -implicitDefEqProofs only [Ab.com, Option.map_eq_some_iff] at h
  obtain ⟨w, hw, rfl⟩ := h
  refine ⟨w, hw, ?_⟩
  split <;> exact ⟨rfl, rfl⟩
theorem put_vv {a : Ab} {n : Nat} {l : List (ByteArray × ByteArray)} {ks : List ByteArray} {now : Int} {m : Nm} {v : Vd} (h : (a.put n l ks now).v m = some v) : a.v m = some v ∨ (a.v m = none ∧ m.2 = n ∧ v.keys = ks ∧ mlook l m.1 = some v.value) := by
  rw [put_v] at h
  cases e : a.v m with
  | some w => rw [e] at h; exact .inl h
  | none =>
    rw [e, Option.none_or] at h
    split at h
    · rename_i e2
      simp -implicitDefEqProofs only [Option.map_eq_some_iff] at h
      obtain ⟨x, hx, rfl⟩ := h
      exact .inr ⟨rfl, e2, rfl, hx⟩
    · cases h
theorem aA_keys (m : Nm) (v : Vd) (h : aA.v m = some v) : v.keys = [tA] := by
  obtain ⟨w, hw, e, _⟩ := com_vv h
  rw [e]
  rcases put_vv hw with h | ⟨_, _, h, _⟩
  · cases h
  · exact h
theorem slA_ok : slimOk slA = true := mk_slim (by decide) (by decide) (by decide) (by decide) (by decide) (by simp)
theorem slA_formed : formed [slA] = true := by
  unfold formed
  simp [slA_ok]
theorem alive10 (H : Heap) : W env (.call 10 []) H (fun o H' => Ext H H' ∧ o = .val (.bool true)) := by
  refine W.fnI rfl rfl rfl ?_
  simp -implicitDefEqProofs only [ir10, op, ef, cl, sq, reduceIte, q1, q2, q3, q4, q5, q6, q7, q8, q9, S1]
  refine callB_of _ _ _ _ _ _ _ _ (newA _) ?_
  rintro u H1 ⟨hx1, b, F, hu, hat, hF⟩
  cases hu
  have hx1 : Ext H H1 := hx1
  have e0 : eqRef .ptr (.ptr b.s 0) .nilp = some false := rfl
  simp -implicitDefEqProofs only [op, ef, cl, sq, reduceIte, q1, q2, q3, q4, q5, q6, q7, q8, q9, S1, e0]
  refine callB_of _ _ _ _ _ _ _ _ (putA 65536 .full .full [(tA, t1)] [tA] 0 hat (by decide) (fun h => by cases h) aMay ⟨by decide, by decide⟩) ?_
  rintro u H2 ⟨F2, hu, hat2, hf2, hg2⟩
  cases hu
  simp -implicitDefEqProofs only [op, ef, cl, sq, reduceIte, q1, q2, q3, q4, q5, q6, q7, q8, q9, S1]
  refine callB_of _ _ _ _ _ _ _ _ (comA 65536 0 hat2 (by decide) (by decide) ⟨by decide, by decide⟩) ?_
  rintro u H3 ⟨D, _, _, hu, hat3, hf3⟩
  cases hu
  have hx2 : Ext H H2 := frm_extG hx1 hf2 fun c hc => (hF c hc).1
  have hx3 : Ext H H3 := frm_extG hx2 hf3 fun c hc => by
    rcases hg2 c hc with h | h
    · exact (hF c h).1
    · have := hx1.len; omega
  have hat3 : AtS H3 b aA F2 1 := hat3
  obtain ⟨ws, hws⟩ : ∃ ws, ws = [(⟨b, aA, F2, 1⟩ : Wst)] := ⟨_, rfl⟩
  have hW : Wsts H3 ws := fun w hw => by rw [hws] at hw; simp at hw; subst hw; exact hat3
  have hab : ∀ k, abAt ws k = aA := fun k => by
    unfold abAt
    have : ofN k ws.length = 0 := by rw [hws]; exact Nat.mod_one _
    rw [this, hws]; rfl
  have hsz : Sizes ws := fun w hw m v hv x hx => by
    rw [hws] at hw; simp at hw; subst hw
    rw [aA_keys m v hv] at hx
    simp at hx; subst hx; decide
  have hl1 : ws.length = 1 := by rw [hws]; rfl
  have hlast : aA.last tA = 65536 := by unfold Ab.last; rw [aA_l]; rfl
  have hlat : (aA.latest tA).value = t1 ∧ (aA.latest tA).keys = [tA] := by
    obtain ⟨st, hst⟩ := aA_v
    unfold Ab.latest
    rw [aA_l]
    simp -implicitDefEqProofs only [hst, vdOf, Option.getD_some, and_self]
  have hof : ofOk tA 65536 [tA] = true := by
    have : memB [tA] tA = true := memB_iff.2 (by simp)
    unfold ofOk; rw [this]; rfl
  have hfs : firstS ws 8 2 tA = (slA, 0) := by
    unfold firstS
    rw [hab, hlast, hlat.1, hlat.2]
    exact ofS_mk (b := 8) (h := 2) rfl hof
  have hvk : validK [tA] = true := by
    unfold validK
    simp; decide
  simp -implicitDefEqProofs only [op, ef, cl, sq, reduceIte, q1, q2, q3, q4, q5, q6, q7, q8, q9, S1]
  have h23 := first23 .full .full ws [tA] 8 2 hW (by omega) (by omega) hsz rfl (fun k hk => by simp at hk; subst hk; decide) (by decide) (fun k hk => by simp at hk; subst hk; rw [hfs])
  rw [hws] at h23
  refine callB_of _ _ _ _ _ _ _ _ h23 ?_
  rintro u H4 ⟨hx4, ⟨h, _⟩ | ⟨_, kk, hu⟩⟩
  · rw [hvk] at h; cases h
  have hx4 : Ext H3 H4 := hx4
  have hu : u = .tup [.sl kk ([slA].map (eSl .arg)), .int .i64 0] := by
    cases hu
    rw [← hws]
    simp -implicitDefEqProofs only [List.map_cons, List.map_nil, hfs]
  subst hu
  have hid : idsOf [slA] slA = [] := by
    unfold idsOf mayH
    simp
  have hnn : needN ws [slA] slA = 0 := by unfold needN; rw [if_pos hid]
  have hss : secondS ws 8 2 [slA] slA = slA := by unfold secondS; rw [if_pos hnn]
  have hsb : ∀ s ∈ [slA], SlmB s := fun s hs => by simp at hs; subst hs; exact mk_SlmB (by decide) (by decide)
  have h24 := second24 .full kk ws [slA] 8 2 (hW.ext hx4) (by omega) (by omega) hsz rfl hsb (by decide) (fun y hy h => by simp at hy; subst hy; exact absurd hnn h)
  rw [hws] at h24
  simp -implicitDefEqProofs only [op, ef, cl, sq, reduceIte, q1, q2, q3, q4, q5, q6, q7, q8, q9, S1]
  refine callB_of _ _ _ _ _ _ _ _ h24 ?_
  rintro u H5 ⟨hx5, ⟨h, _⟩ | ⟨_, kk2, hu⟩⟩
  · rw [slA_formed] at h; cases h
  have hx5 : Ext H4 H5 := hx5
  have hu : u = .tup [.sl kk2 ([slA].map (eSl .arg)), .int .i64 0] := by
    cases hu
    rw [← hws]
    simp -implicitDefEqProofs only [List.map_cons, List.map_nil, hss]
  subst hu
  have n0 : natOf (.int .i64 0) = some 0 := rfl
  have i1 : iadT 4 0 (.sl kk [eSl .arg slA]) = some (.iptr (eSl .arg slA)) := iadX (e := eSl .arg) (n := 4) (l := [slA]) (i := 0) (x := slA) (fun _ => rfl) (by decide) rfl
  have i2 : iadT 4 0 (.sl kk2 [eSl .arg slA]) = some (.iptr (eSl .arg slA)) := iadX (e := eSl .arg) (n := 4) (l := [slA]) (i := 0) (x := slA) (fun _ => rfl) (by decide) rfl
  have f1 : fadT 1 (.iptr (eSl .arg slA)) = some (.iptr [.int .u64 65536, .str t1, .sl .arg (slA.fil.map eB)]) := rfl
  have f2 : fadT 2 (.iptr (eSl .arg slA)) = some (.iptr [.str t1, .sl .arg (slA.fil.map eB)]) := rfl
  have f3 : fadT 3 (.iptr (eSl .arg slA)) = some (.iptr [.sl .arg (slA.fil.map eB)]) := rfl
  have l1 : lenT H5 .sl (.sl kk [eSl .arg slA]) = some 1 := rfl
  have l2 : lenT H5 .sl (.sl kk2 [eSl .arg slA]) = some 1 := rfl
  have l3 : slA.fil.length = 6 := by show (filB 8 2 _).length = 6; rw [filB_len]
  have e1 : (t1 == ⟨#[49]⟩) = true := by decide
  have lc : ((1 : Nat) : Int) = 1 := rfl
  have l6 : ((6 : Nat) : Int) = 6 := rfl
  simp -implicitDefEqProofs only [op, ef, cl, sq, reduceIte, q1, q2, q3, q4, q5, q6, q7, q8, q9, S1, n0, i1, i2, f1, f2, f3, l1, l2, lc, l3, l6, List.length_map, t1]
  have h16 := fun Hx => formed16 kk [slA] hsb (by decide) Hx
  simp -implicitDefEqProofs only [List.map_cons, List.map_nil] at h16
  refine callB_of _ _ _ _ _ _ _ _ (h16 _) ?_
  rintro u H6 ⟨hx6, hu⟩
  cases hu
  have hx6 : Ext H5 H6 := hx6
  rw [slA_formed]
  simp -implicitDefEqProofs only [op, ef, cl, sq, reduceIte, q1, q2, q3, q4, q5, q6, q7, q8, q9, S1, n0, i1, i2, f1, f2, f3]
  exact ((hx3.trans hx4).trans hx5).trans hx6
end Go.Proofs.YtmgldhlcapjdkaaGreat.St
end

section
namespace Go.Proofs.YtmgldhlcapjdkaaGreat.St
open Go.Rmp Go.Proofs.YtmgldhlcapjdkaaGreat.Ir
set_option maxRecDepth 10000
theorem bytesOf_eB : ∀ l : List Nat, bytesOf (l.map eB) = some (l.map UInt8.ofNat)
  | [] => rfl
  | n :: l => by
    show bytesOf ([.int .u8 n] :: l.map eB) = _
    simp -implicitDefEqProofs only [bytesOf, bytesOf_eB l, Option.map_some, Int.toNat_natCast, List.map_cons]
def strB (l : List Nat) : ByteArray := ⟨(l.map UInt8.ofNat).toArray⟩
theorem same30 (k k' : SK) (l l' : List Nat) (H : Heap) : W env (.call 30 [.sl k (l.map eB), .sl k' (l'.map eB)]) H (Ret (.bool (decide (strB l = strB l'))) H) := by
  refine W.fnI rfl rfl rfl ?_
  have h1 := all_map (enc := eB) (n := 1) (fun _ => rfl) l
  have h2 := all_map (enc := eB) (n := 1) (fun _ => rfl) l'
  simp -implicitDefEqProofs only [ir30, op, ef, cl, sq, reduceIte, q1, q2, q3, q4, q5, q6, q7, q8, q9, S1, h1, h2, bytesOf_eB, strB]
  exact decide_eq_decide.2 Iff.rfl
theorem sameX13 (k k' : SK) (s s' : Slm) (H : Heap) : W env (.call 13 [.agg (eSl k s), .agg (eSl k' s')]) H (fun o H' => Ext H H' ∧ ∃ b, o = .val (.bool b) ∧ (b = true ↔ s.key = s'.key ∧ s.id = s'.id ∧ s.val = s'.val ∧ strB s.fil = strB s'.fil)) := by
  refine W.fnI rfl rfl rfl ?_
  by_cases h1 : s.key = s'.key
  rotate_left
  · simp -implicitDefEqProofs only [ir13, eSl, op, ef, cl, sq, reduceIte, q1, q2, q3, q4, q5, q6, q7, q8, q9, S1, S2, S3, h1]
    exact ⟨(Ext.rfl'.app _).app _, _, rfl, by simp⟩
  by_cases h2 : s.id = s'.id
  rotate_left
  · simp -implicitDefEqProofs only [ir13, eSl, op, ef, cl, sq, reduceIte, q1, q2, q3, q4, q5, q6, q7, q8, q9, S1, S2, S3, h1, h2]
    exact ⟨(Ext.rfl'.app _).app _, _, rfl, by simp⟩
  by_cases h3 : s.val = s'.val
  rotate_left
  · simp -implicitDefEqProofs only [ir13, eSl, op, ef, cl, sq, reduceIte, q1, q2, q3, q4, q5, q6, q7, q8, q9, S1, S2, S3, h1, h2, h3]
    exact ⟨(Ext.rfl'.app _).app _, _, rfl, by simp⟩
  simp -implicitDefEqProofs only [ir13, eSl, op, ef, cl, sq, reduceIte, q1, q2, q3, q4, q5, q6, q7, q8, q9, S1, S2, S3, h1, h2, h3]
  refine callB_of _ _ _ _ _ _ _ _ (same30 k k' s.fil s'.fil _) ?_
  rintro u H1 ⟨hu, rfl⟩
  cases hu
  simp -implicitDefEqProofs only [op, ef, cl, sq, reduceIte, q1, q2, q3, q4, q5, q6, q7, q8, q9, S1, S2, S3]
  exact ⟨(Ext.rfl'.app _).app _, _, rfl, by simp⟩
set_option maxHeartbeats 2000000 in
theorem makes3 (k : ByteArray) (n : Nat) (v : ByteArray) (kk : SK) (ks : List ByteArray) (b h : Int) (hl : ks.length ≤ 1048576) (hks : ∀ x ∈ ks, x.size < 9223372036854775807) (H : Heap) :
    W env (.call 3 [.agg (eVer k n v kk ks), .int .i64 b, .int .i64 h]) H (fun o _ => o = .val (.bool true)) := by
  refine W.fnI rfl rfl rfl ?_
  obtain ⟨H1, hH1⟩ : ∃ H1, H1 = H ++ [B.cells (eVer k n v kk ks)] := ⟨_, rfl⟩
  have hx1 : Ext H H1 := ⟨_, hH1⟩
  have c1 : H1[H.length]? = some (.cells (eVer k n v kk ks)) := by rw [hH1]; exact g_tail rfl
  unfold eVer at c1
  have hH1' := hH1
  unfold eVer at hH1'
  simp -implicitDefEqProofs only [ir3, eVer, op, ef, cl, sq, reduceIte, q1, q2, q3, q4, q5, q6, q7, q8, q9, S1]
  rw [← hH1']
  refine callB_of _ _ _ _ _ _ _ _ (alive10 _) ?_
  rintro u H2 ⟨hx2, hu⟩
  cases hu
  have hx2 : Ext H1 H2 := hx2
  have c2 := hx2.get c1
  have lc2 := glt c2
  have hall := all_map (enc := eS) (n := 1) (fun _ => rfl) ks
  have hks1 : ∀ c ∈ ks.map eS, c.map T.erase = c := fun c hc => by obtain ⟨x, _, rfl⟩ := List.mem_map.1 hc; rfl
  have hk1 : ∃ k1 H3, appT H2 16 .nil [] (ks.map eS) = some (.sl k1 (ks.map eS), H3) ∧ Apd H2.length H3 k1 ∧ Ext H2 H3 := by
    by_cases he : ks = []
    · subst he
      exact ⟨.nil, H2, rfl, apd_nil _ _, Ext.rfl'⟩
    · obtain ⟨k1, H3, ha, hap, hst⟩ := app_ok (n0 := H2.length) (bytes := 16) [] (ks.map eS) (apd_nil H2.length H2) (Nat.le_refl _) (by simpa using he) (roomT (by simp -implicitDefEqProofs only [List.length_map, List.length_nil]; omega))
      refine ⟨k1, H3, ?_, hap, hst.ext H2 (Nat.le_refl _) Ext.rfl'⟩
      rw [ha, List.nil_append, (List.map_congr_left hks1).trans (List.map_id _)]
  obtain ⟨k1, H3, ha1, hap1, hx3⟩ := hk1
  obtain ⟨k2, H4, ha2, hap2, hst2⟩ := app_ok (bytes := 16) (ks.map eS) [eS ⟨#[115, 112, 97, 114, 101]⟩] hap1 hx3.len (by simp) (roomT (by simp -implicitDefEqProofs only [List.length_map, List.length_cons, List.length_nil]; omega))
  have hx4 : Ext H2 H4 := hst2.ext H2 (Nat.le_refl _) hx3
  have c3 := hx3.get c2
  have c4 := hx4.get c2
  obtain ⟨full, hfull⟩ : ∃ full, full = ks ++ [(⟨#[115, 112, 97, 114, 101]⟩ : ByteArray)] := ⟨_, rfl⟩
  have ha2' : appT H3 16 k1 (ks.map eS) [[.str ⟨#[115, 112, 97, 114, 101]⟩]] = some (.sl k2 (full.map eS), H4) := by rw [hfull, List.map_append]; exact ha2
  have hfl : full.length = ks.length + 1 := by rw [hfull]; simp
  have hallf := all_map (enc := eS) (n := 1) (fun _ => rfl) full
  have hcut : ((full.map eS).take ks.length).drop 0 = ks.map eS := by rw [List.drop_zero, ← List.map_take, hfull, List.take_left]
  have hle : ks.length ≤ full.length := by omega
  obtain ⟨H5, hH5⟩ : ∃ H5, H5 = H4 ++ [B.cells [.str k, .int .u64 n, .str v, .sl kk (ks.map eS)]] := ⟨_, rfl⟩
  have hx5 : Ext H4 H5 := ⟨_, hH5⟩
  have c5 := hx5.get c4
  have d5 : H5[H4.length]? = some (.cells [.str k, .int .u64 n, .str v, .sl kk (ks.map eS)]) := by rw [hH5]; exact g_tail rfl
  have ld5 := glt d5
  obtain ⟨kw, hkw⟩ : ∃ kw, kw = SK.cut k2 full.length 0 ks.length := ⟨_, rfl⟩
  obtain ⟨H6, hH6⟩ : ∃ H6, H6 = H5.set H4.length (.cells [.str k, .int .u64 n, .str v, .sl kw (ks.map eS)]) := ⟨_, rfl⟩
  have d6 : H6[H4.length]? = some (.cells [.str k, .int .u64 n, .str v, .sl kw (ks.map eS)]) := by rw [hH6]; exact g_eq ld5
  have hx6 : Ext H4 H6 := by rw [hH6]; exact hx5.set (Nat.le_refl _) _
  have c6 := hx6.get c4
  simp -implicitDefEqProofs only [op, ef, cl, sq, reduceIte, q1, q2, q3, q4, q5, q6, q7, q8, q9, S1, S2, S3, c2, c3, c4, hall, ha1, ha2']
  rw [← hH5]
  simp -implicitDefEqProofs only [op, ef, cl, sq, reduceIte, q1, q2, q3, q4, q5, q6, q7, q8, q9, S1, S2, S3, List.length_map, c5, d5, ld5, natOf_nat, Nat.zero_le, hle, hallf, hcut, and_self, S2, S3]
  rw [← hkw, ← hH6]
  refine callB_of _ _ _ _ _ _ _ _ (of11 k n v kw ks b h H6 (by omega) hks) ?_
  rintro u H7 ⟨hx7, kf, hkf, hu⟩
  cases hu
  have hx7 : Ext H6 H7 := hx7
  have c7 := hx7.get c6
  have d7 := hx7.get d6
  obtain ⟨r, hr⟩ : ∃ r, r = ofS k n v ks b h := ⟨_, rfl⟩
  rw [← hr] at hkf ⊢
  obtain ⟨H8, hH8⟩ : ∃ H8, H8 = H7 ++ [B.cells (eSl kf r.1)] := ⟨_, rfl⟩
  have hx8 : Ext H7 H8 := ⟨_, hH8⟩
  have c8 := hx8.get c7
  have d8 := hx8.get d7
  have e8 : H8[H7.length]? = some (.cells (eSl kf r.1)) := by rw [hH8]; exact g_tail rfl
  unfold eSl at e8
  have hH8' := hH8
  unfold eSl at hH8'
  simp -implicitDefEqProofs only [eSl, op, ef, cl, sq, reduceIte, q1, q2, q3, q4, q5, q6, q7, q8, q9, S1, S2, S3]
  rw [← hH8']
  simp -implicitDefEqProofs only [op, ef, cl, sq, reduceIte, q1, q2, q3, q4, q5, q6, q7, q8, q9, S1, c8]
  refine callB_of _ _ _ _ _ _ _ _ (rof12 k n v kk ks b h H8 (by omega) hks) ?_
  rintro u H9 ⟨hx9, kf2, hkf2, hu⟩
  cases hu
  have hx9 : Ext H8 H9 := hx9
  have c9 := hx9.get c8
  have d9 := hx9.get d8
  have e9 := hx9.get e8
  rw [← hr] at hkf2 ⊢
  obtain ⟨H10, hH10⟩ : ∃ H10, H10 = H9 ++ [B.cells (eSl kf2 r.1)] := ⟨_, rfl⟩
  have hx10 : Ext H9 H10 := ⟨_, hH10⟩
  have c10 := hx10.get c9
  have d10 := hx10.get d9
  have e10 := hx10.get e9
  have f10 : H10[H9.length]? = some (.cells (eSl kf2 r.1)) := by rw [hH10]; exact g_tail rfl
  unfold eSl at f10
  have hH10' := hH10
  unfold eSl at hH10'
  simp -implicitDefEqProofs only [eSl, op, ef, cl, sq, reduceIte, q1, q2, q3, q4, q5, q6, q7, q8, q9, S1, S2, S3, c8]
  rw [← hH10']
  simp -implicitDefEqProofs only [op, ef, cl, sq, reduceIte, q1, q2, q3, q4, q5, q6, q7, q8, q9, S1, e10, f10]
  refine callB_of _ _ _ _ _ _ _ _ (sameX13 kf kf2 r.1 r.1 H10) ?_
  rintro u H11 ⟨hx11, b', hu, hb'⟩
  cases hu
  have hb' : b' = true := hb'.2 ⟨rfl, rfl, rfl, rfl⟩
  subst hb'
  have hx11 : Ext H10 H11 := hx11
  have c11 := hx11.get c10
  have d11 := hx11.get d10
  have e11 := hx11.get e10
  have f11 := hx11.get f10
  simp -implicitDefEqProofs only [op, ef, cl, sq, reduceIte, q1, q2, q3, q4, q5, q6, q7, q8, q9, S1, c11, d11, e10, e11, f10, f11]
  refine callB_of _ _ _ _ _ _ _ _ (texts37 kw kk ks _ (by omega)) ?_
  rintro u H12 ⟨hu, rfl⟩
  cases hu
  have isp := iadX (e := eS) (n := 1) (fun _ => rfl) (by decide) (k := k2) (l := full) (i := ks.length) (x := ⟨#[115, 112, 97, 114, 101]⟩) (by rw [hfull]; simp)
  simp -implicitDefEqProofs only [op, ef, cl, sq, reduceIte, q1, q2, q3, q4, q5, q6, q7, q8, q9, S1, c11, d11, e10, e11, f10, f11, List.length_map, natOf_nat, isp, eS]
end Go.Proofs.YtmgldhlcapjdkaaGreat.St
end

section
namespace Go.Proofs.YtmgldhlcapjdkaaGreat
open Go.ChangeShapes Go.WideShapes Go.ChangeAt Go.RowKit
namespace Law
theorem own : ownKnob Tryz.prog.godebug = none := by kernel_rfl
theorem kids : Kids Tryz.prog (· < Tryz.prog.types.size) := kids_rows (by kernel_rfl) (by kernel_rfl)
noncomputable def hzB : Bool := (List.range Tryz.prog.types.size).all fun t => match Tryz.prog.underlying t with
  | some (.slice e) => decide (0 < Tryz.prog.cellsOf e)
  | _ => true
theorem hzB_ok : hzB = true := by kernel_rfl
theorem hz : ∀ t e, t < Tryz.prog.types.size → Tryz.prog.underlying t = some (.slice e) → 0 < Tryz.prog.cellsOf e := fun t e ht h => by
  have := (List.all_eq_true.1 hzB_ok) t (List.mem_range.2 ht)
  rw [h] at this
  simpa using this
mutual
theorem bulk_eq {H : Type} : ∀ d : DataW H, Go.Rmp.bulkW d = Rows.uptoBulk d
  | .lit l => by cases l <;> simp [Go.Rmp.bulkW, Rows.uptoBulk]
  | .nil => by simp [Go.Rmp.bulkW, Rows.uptoBulk]
  | .ptr d => by simp [Go.Rmp.bulkW, Rows.uptoBulk, bulk_eq d]
  | .slice elems spare => by simp [Go.Rmp.bulkW, Rows.uptoBulk, bulks_eq elems, bulks_eq spare]
  | .agg parts => by simp [Go.Rmp.bulkW, Rows.uptoBulk, bulks_eq parts]
  | .iface _ d => by simp [Go.Rmp.bulkW, Rows.uptoBulk, bulk_eq d]
  | .map entries => by simp [Go.Rmp.bulkW, Rows.uptoBulk, bulkE_eq entries]
  | .held _ => by simp [Go.Rmp.bulkW, Rows.uptoBulk]
theorem bulks_eq {H : Type} : ∀ l : List (DataW H), Go.Rmp.bulkAllW l = Rows.uptoBulkAll l
  | [] => by simp [Go.Rmp.bulkAllW, Rows.uptoBulkAll]
  | d :: r => by simp [Go.Rmp.bulkAllW, Rows.uptoBulkAll, bulk_eq d, bulks_eq r]
theorem bulkE_eq {H : Type} : ∀ l : List (Lit × DataW H), Go.Rmp.bulkEntriesW l = Rows.uptoBulkEntries l
  | [] => by simp [Go.Rmp.bulkEntriesW, Rows.uptoBulkEntries]
  | x :: r => by simp [Go.Rmp.bulkEntriesW, Rows.uptoBulkEntries, bulkEn_eq x, bulkE_eq r]
theorem bulkEn_eq {H : Type} : ∀ x : Lit × DataW H, Go.Rmp.bulkEntryW x = Rows.uptoBulkEntry x
  | (l, d) => by cases l <;> simp [Go.Rmp.bulkEntryW, Rows.uptoBulkEntry, bulk_eq d]
end
theorem bulk_ok {H : Type} {ds : List (DataW H)} (h : Rows.uptoSmall H ds = true) : Go.Rmp.bulkAllW ds ≤ 1048576 := by
  rw [bulks_eq]; simpa [Rows.uptoSmall] using h
theorem hasS {B : Nat} {t : Go.Rmp.T} (h : Go.Rmp.HasSh B .str t) : ∃ s, t = .str s ∧ s.size ≤ B := by
  cases h with | str h hB => exact ⟨_, rfl, hB⟩
theorem hasI {B : Nat} {t : Go.Rmp.T} (h : Go.Rmp.HasSh B (.int .i64) t) : ∃ n : Int, t = .int .i64 n ∧ -9223372036854775808 ≤ n ∧ n < 9223372036854775808 := by
  cases h with | int h =>
    rename_i n
    exact ⟨n, rfl, by simp -implicitDefEqProofs only [Lit.wf, IntKind.min, IntKind.max, IntKind.signed, IntKind.bits] at h; simp at h; omega⟩
theorem hasU {B : Nat} {t : Go.Rmp.T} (h : Go.Rmp.HasSh B (.int .u64) t) : ∃ n : Nat, t = .int .u64 n ∧ n < 18446744073709551616 := by
  cases h with | int h =>
    rename_i n
    simp -implicitDefEqProofs only [Lit.wf, IntKind.min, IntKind.max, IntKind.signed, IntKind.bits] at h
    simp at h
    exact ⟨n.toNat, by congr 1; omega, by omega⟩
end Law
namespace St
open Go.Rmp
theorem map_of {α : Type} {P : α → Prop} (enc : α → List T) (es : List (List T)) (h : ∀ c ∈ es, ∃ x, c = enc x ∧ P x) : ∃ l : List α, es = l.map enc ∧ ∀ x ∈ l, P x := by
  induction es with
  | nil => exact ⟨[], rfl, by simp⟩
  | cons c es ih =>
    obtain ⟨l, rfl, hl⟩ := ih (fun c hc => h c (List.mem_cons_of_mem _ hc))
    obtain ⟨x, rfl, hx⟩ := h _ List.mem_cons_self
    exact ⟨x :: l, rfl, fun y hy => by rcases List.mem_cons.1 hy with rfl | hy; exact hx; exact hl y hy⟩
theorem hasSs {B : Nat} {t : T} (h : HasSh B (.sl [.str]) t) : ∃ k l, t = .sl k (List.map eS l) ∧ KOk k l ∧ l.length ≤ B ∧ ∀ x ∈ l, x.size ≤ B := by
  cases h with
  | nil => exact ⟨.nil, [], rfl, fun _ => rfl, Nat.zero_le _, by simp⟩
  | sl hl hB h0 h =>
    rename_i es
    obtain ⟨l, rfl, hP⟩ := map_of (P := fun s : ByteArray => s.size ≤ B) eS es fun c hc => by
      have hc1 := h0 c hc
      match c, hc1 with
      | [a], _ => obtain ⟨s, rfl, hs⟩ := Law.hasS (h _ hc 0 .str a rfl rfl); exact ⟨s, rfl, hs⟩
    exact ⟨.arg, l, rfl, fun h => (by cases h), by simpa using hB, hP⟩
theorem hasVer {B : Nat} {t : T} (h : HasSh B (.ag [.str, .int .u64, .str, .sl [.str]]) t) : ∃ k n v kk ks, t = .agg (eVer k n v kk ks) ∧ KOk kk ks ∧ ks.length ≤ B ∧ ∀ x ∈ ks, x.size ≤ B := by
  cases h with
  | ag hl h =>
    rename_i cs
    match cs, hl with
    | [a, b, c, d], _ =>
      obtain ⟨s, rfl, _⟩ := Law.hasS (h 0 .str a rfl rfl)
      obtain ⟨n, rfl, _⟩ := Law.hasU (h 1 (.int .u64) b rfl rfl)
      obtain ⟨s', rfl, _⟩ := Law.hasS (h 2 .str c rfl rfl)
      obtain ⟨k, l, rfl, hk, hl, hs⟩ := hasSs (h 3 (.sl [.str]) d rfl rfl)
      exact ⟨s, n, s', k, l, rfl, hk, hl, hs⟩
end St
end Go.Proofs.YtmgldhlcapjdkaaGreat
end

section
namespace Go.Proofs.YtmgldhlcapjdkaaGreat
open Go.ChangeShapes Go.WideShapes Go.ChangeAt Go.RowKit
namespace Law
theorem hybridMakes_w (as' : List Go.Rmp.T) (hs : Go.Rmp.HasShs 1048576 [.ag [.str, .int .u64, .str, .sl [.str]], .int .i64, .int .i64] as') : Go.Rmp.W Ir.env (.call 3 as') [] (fun o _ => o = .val (.bool true)) := by
  cases hs with | cons h1 hs =>
  cases hs with | cons h2 hs =>
  cases hs with | cons h3 hs =>
  cases hs
  obtain ⟨k, n, v, kk, ks, rfl, _, n1, n2⟩ := St.hasVer h1
  obtain ⟨b, rfl, _⟩ := hasI h2
  obtain ⟨h, rfl, _⟩ := hasI h3
  exact St.makes3 k n v kk ks b h n1 (fun x hx => by have := n2 x hx; omega) []
theorem hybridMakes_fn (H : Type) : ∀ ds : List (DataW H), ds.length = Tryz.f3.params.toList.length → Rows.hybridMakesSpec.fn H ds = { results := [.lit (.bool true)], args := ds } := by
  have hn : Tryz.f3.params.toList.length = 3 := by kernel_rfl
  rw [hn]
  intro ds hds
  cases ds with | nil => simp at hds | cons d0 ds =>
  cases ds with | nil => simp at hds | cons d1 ds =>
  cases ds with | nil => simp at hds | cons d2 ds =>
  cases ds with | cons => simp at hds | nil =>
  rfl
set_option maxRecDepth 100000 in
theorem hybridMakes_lifted (os : Os) (started : os.Started) (H : Type) (enc : TypeId × Value → H) (F : Stop.Interp) :
    ReturnsInHanded {} Tryz.checked os 3 .any ((Rows.OpenSpec.upto Rows.hybridMakesSpec).pre6 enc Tryz.prog Tryz.f3 Rows.hybridMakesUptoRow.domain false) (((Rows.OpenSpec.upto Rows.hybridMakesSpec).at F).post enc Tryz.prog Tryz.f3 false true false false) := by
  refine returnsInHanded_of_cond (C := Tryz.checked) (s := Rows.OpenSpec.upto Rows.hybridMakesSpec) (k := Rows.uptoSmall) rfl own started (by kernel_rfl) Tryz.func3
    (OpenSpec.witness (enc := enc) (C := Tryz.checked) (s := Rows.OpenSpec.upto Rows.hybridMakesSpec) (k := Rows.uptoSmall) rfl false ⟨#[], #[.agg #[.string ⟨#[]⟩, .int .u64 0, .string ⟨#[]⟩, .slice .none 0 0], .int .i64 0, .int .i64 0], []⟩ 8 (by kernel_rfl) (by kernel_rfl) (by kernel_rfl)
      (x := ([.agg [.lit (.string []), .lit (.int .u64 0), .lit (.string []), .nil], .lit (.int .i64 0), .lit (.int .i64 0)], [], [])) (by kernel_rfl) rfl (by kernel_rfl)) ?_
  intro W base args ds gs before hval hW _ hk _
  exact Go.Rmp.law_contract (s := Rows.hybridMakesSpec) (shs := [.ag [.str, .int .u64, .str, .sl [.str]], .int .i64, .int .i64]) (B := 1048576) (tb := Tryz.f3.resultTypes[0]!) Ir.envOk kids hz (by kernel_rfl) (by intro t ht; exact of_decide_eq_true ((List.all_eq_true.1 (show Tryz.f3.params.toList.all (fun t => decide (t < Tryz.prog.types.size)) = true by kernel_rfl)) t ht)) (by kernel_rfl) (by kernel_rfl) rfl (hybridMakes_fn H) hybridMakes_w base args ds gs before hval hW (bulk_ok hk)
theorem hybridMakes_over : Rows.hybridMakesUptoRow.holds Tryz.pinned (Rows.OpenSpec.upto Rows.hybridMakesSpec) :=
  OpenClaim.holds_of_cond 3 Tryz.f3 rfl rfl rfl rfl rfl rfl rfl ⟨rfl, rfl, rfl, rfl, rfl⟩ rfl rfl rfl rfl rfl (by kernel_rfl) Tryz.func3 (by kernel_rfl)
    (of_decide_eq_true (by kernel_rfl)) (by unfold Func.isWrapper; first | (rw [if_pos (by decide +kernel)]; kernel_rfl) | (rw [if_neg (by decide +kernel)]; exact ⟨rfl, rfl⟩))
    (fun os started H enc _ F => hybridMakes_lifted os started H enc F)
theorem hybridMakes_proved : Rows.HybridMakesUptoSaid := hybridMakes_over
end Law
end Go.Proofs.YtmgldhlcapjdkaaGreat
end
