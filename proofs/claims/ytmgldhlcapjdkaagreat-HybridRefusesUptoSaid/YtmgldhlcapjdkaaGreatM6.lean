/- Part of a proof of a law of this seat: the machine of plain values, its simulation, and the contracts of the functions that the law reaches. Conditions: none beyond the given row. -/
import Derived.Test.YtmgldhlcapjdkaaGreatM5
import Derived.Test.YtmgldhlcapjdkaaGreatRows
import Derived.WalkKit
import Derived.ProofKit
import Derived.OpenShut
import Derived.JoinedCond
import Derived.ChangeBears
open Int renaming reduceLT → q1, reduceLE → q2, reduceBEq → q3, reduceBNe → q4, reduceEq → q5
open Nat renaming reduceAdd → q6, reduceLeDiff → q7, reduceLT → q8, reduceEqDiff → q9
set_option linter.unusedSimpArgs false
set_option linter.unusedVariables false
set_option linter.unnecessarySimpa false
set_option maxHeartbeats 4000000
section
namespace Go.Proofs.YtmgldhlcapjdkaaGreat.St
open Go.Rmp Go.Proofs.YtmgldhlcapjdkaaGreat.Ir
set_option maxRecDepth 10000
theorem take_snoc {α : Type} {l : List α} {i : Nat} {x : α} (hx : l[i]? = some x) : l.take (i + 1) = l.take i ++ [x] := by rw [List.take_add_one, hx]; rfl
theorem vals153 {n : Nat} {R0 : Regs} {ps : List Nat} {asg body : C} (k : SK) (l : List ByteArray) (c b : Nat) (H : Heap) (I : List ByteArray → Heap → Prop) (hps : ps.length = 1) (hl : l.length ≤ 8000000) (h0 : I [] H) (hb : H[b]? = some (rdy n R0 ps asg body)) (hc : H[c]? = some (.cells [.sl k (l.map eS)]))
    (hstep : ∀ (i : Nat) (v : ByteArray) H', l[i]? = some v → I (l.take i) H' → H'[b]? = some (rdy n R0 ps asg body) → wpC env asg (setps R0 ps [.str v]) H' (fun o H1 => ∃ R1, o = .ex .normal R1 ∧ H1[b]? = some (rdy n R0 ps asg body) ∧
      wpC env body R1 (H1.set b (bsy n R0 ps asg body)) (fun o H2 => ∃ R2, o = .ex .normal R2 ∧ H2[b]? = some (bsy n R0 ps asg body) ∧ I (l.take (i + 1)) (H2.set b (rdy n R0 ps asg body))))) :
    W env (.call 153 [.yld b, .ptr c 0]) H (fun _ H' => I l H' ∧ H'[b]? = some (rdy n R0 ps asg body)) := by
  refine W.fnI rfl rfl rfl ?_
  simp -implicitDefEqProofs only [ir153, op, ef, cl, sq, reduceIte, q1, q2, q3, q4, q5, q6, q7, q8, q9, S1, hc, List.length_map]
  refine W.loopV [(0, _), (5, _), (6, _)] (fun (i : Nat) R H' => At H' (fun H' => I (l.take i) H' ∧ H'[b]? = some (rdy n R0 ps asg body)) ∧ R 7 = .int .i64 i ∧ i ≤ l.length) (fun i => l.length - i) 0 ⟨.i ⟨h0, hb⟩, rfl, Nat.zero_le _⟩ ?_
  rintro i R H1 ⟨⟨hI, hb1⟩, g7, hi⟩
  by_cases hlt : i < l.length
  rotate_left
  · have hie : i = l.length := by omega
    subst hie
    rw [List.take_length] at hI
    simp -implicitDefEqProofs only [mkR_nil, mkR_cons, op, ef, cl, sq, reduceIte, q1, q2, q3, q4, q5, q6, q7, q8, q9, S1, g7, hlt]
    exact ⟨hI, hb1⟩
  obtain ⟨v, hv⟩ := getP hlt
  have iv := iadX (e := eS) (n := 1) (fun _ => rfl) (by decide) (k := k) hv
  have ws := wrap_succ (show i < 9223372036854775807 by omega)
  simp -implicitDefEqProofs only [mkR_nil, mkR_cons, op, ef, cl, sq, reduceIte, q1, q2, q3, q4, q5, q6, q7, q8, q9, S1, g7, hlt, natOf_nat, iv, eS]
  refine b_yld (b := b) (n := n) (R0 := R0) (ps := ps) (asg := asg) (body := body) (by simp -implicitDefEqProofs only [op, ef, cl, sq, reduceIte, q1, q2, q3, q4, q5, q6, q7, q8, q9, S1]) hb1 (by rw [hps]; rfl) ?_
  simp -implicitDefEqProofs only [op, ef, cl, sq, reduceIte, q1, q2, q3, q4, q5, q6, q7, q8, q9, S1]
  refine wpC_mono _ _ _ (fun o H4 => ?_) (hstep i v H1 hv hI hb1)
  rintro ⟨R1, rfl, hr, hw⟩
  refine ⟨R1, rfl, hr, wpC_mono _ _ _ (fun o H5 => ?_) hw⟩
  rintro ⟨R2, rfl, hr2, hI3⟩
  have hb3 := glt hr2
  simp -implicitDefEqProofs only [op, ef, cl, sq, reduceIte, q1, q2, q3, q4, q5, q6, q7, q8, q9, S1, g7, ws]
  exact ⟨R2, rfl, hr2, i + 1, by omega, .i ⟨hI3, g_eq hb3⟩, rfl, hlt⟩
theorem seq180 (k : SK) (l : List ByteArray) (c : Nat) (H : Heap) (hl : l.length ≤ 8000000) (hc : H[c]? = some (.cells [.sl k (l.map eS)])) :
    W env (.call 180 [.sl .nil [], .fn 153 [.ptr c 0]]) H (fun o H' => Ext H H' ∧ ∃ t, o = .val t ∧ Mut eS 1 H.length H' t l) := by
  have lc := glt hc
  refine W.fnrI rfl rfl ?_
  simp -implicitDefEqProofs only [ir180, op, ef, cl, sq, reduceIte, q1, q2, q3, q4, q5, q6, q7, q8, q9, S1, S2]
  generalize hR : upd (upd (upd (regs0 [T.sl SK.nil [], T.fn 153 [T.ptr c 0]]) 2 (T.ptr H.length 0)) 4 (T.sl SK.nil [])) 6 (T.fn 153 [T.ptr c 0]) = R0
  have r2 : R0 2 = .ptr H.length 0 := by rw [← hR]; simp -implicitDefEqProofs only [op, ef, cl, sq, reduceIte, q1, q2, q3, q4, q5, q6, q7, q8, q9, S1]
  have r6 : R0 6 = .fn 153 [.ptr c 0] := by rw [← hR]; simp -implicitDefEqProofs only [op, ef, cl, sq, reduceIte, q1, q2, q3, q4, q5, q6, q7, q8, q9, S1]
  have r13 : R0 13 = .tup [] := by rw [← hR]; rfl
  refine W.rangeI (f := 153) (cs := [.ptr c 0]) (by simp -implicitDefEqProofs only [op, ef, cl, sq, reduceIte, q1, q2, q3, q4, q5, q6, q7, q8, q9, S1, r6]) ?_
  have a1 : (H ++ [B.cells [T.sl SK.nil []]]).length = H.length + 1 := by simp
  rw [a1, r13, push0]
  have e1 : H.length + 1 + 1 = H.length + 2 := rfl
  rw [e1]
  generalize hnn : H.length = f at *
  have n02 : ¬ (f = f + 2) := by omega
  have n12 : ¬ (f + 1 = f + 2) := by omega
  have hbl : ∀ x y : B, (H ++ [B.cells [T.sl SK.nil []]] ++ [y, x])[f + 2]? = some x := fun x y => by
    rw [List.getElem?_append_right (by omega), a1]
    have : f + 2 - (f + 1) = 1 := by omega
    rw [this]; rfl
  have hq0 : ∀ (x y : B) (a : Nat) z, H[a]? = some z → (H ++ [B.cells [T.sl SK.nil []]] ++ [y, x])[a]? = some z := fun x y a z hz => by
    have := glt hz
    rw [g_app (by omega), g_app (by omega)]; exact hz
  refine W.use (vals153 (hb := hbl _ _) k l c (f + 2) _ (fun vis H' => At H' fun H' => ∃ t, H'[f]? = some (.cells [t]) ∧ Mut eS 1 (f + 3) H' t vis ∧ H'[f + 1]? = some .dfr ∧ ∀ (a : Nat) y, H[a]? = some y → H'[a]? = some y) rfl hl ?_ (hq0 _ _ _ _ hc) ?_) ?_
  · refine .i ⟨.sl .nil [], ?_, mut_nil _ _ _ _, ?_, fun a y hy => hq0 _ _ _ _ hy⟩
    · rw [g_app (by omega), g_tail (by omega)]
    · rw [g_tail (by omega)]
  · rintro i v H' hv ⟨t, h1, h2, h3, h4⟩ hb
    have hvl : (l.take i).length ≤ 8000000 := by rw [List.length_take]; omega
    rw [take_snoc hv]
    generalize l.take i = vis at *
    have mf := glt h1
    have m1 := glt h3
    have m2 := glt hb
    have hne : ∀ a, a < f + 3 → ∀ off len m, t ≠ .msl a off len m := fun a ha off len m he => by
      rcases h2 with ⟨_, e⟩ | ⟨d, e, _, e3⟩
      · rw [e] at he; cases he
      · rw [e] at he; cases he; omega
    have hfg : fgt t = t := by rcases h2 with ⟨_, rfl⟩ | ⟨d, rfl, _⟩ <;> rfl
    have hL : ∀ y : B, (H'.set (f + 2) y).length = H'.length := fun y => by simp
    have hap : ∀ y : B, appM (H'.set (f + 2) y) 1 16 t [eS v] = some (.msl (H'.length) 0 (vis ++ [v]).length 1, deadT (H'.set (f + 2) y) t ++ [.cells (msC eS (vis ++ [v]))]) := fun y => by
      have := appM_fun (enc := eS) (n := 1) (bytes := 16) (n0 := f + 3) (H := H'.set (f + 2) y) (t := t) (l := vis) (fun _ => rfl) (by
        rcases h2 with h2 | ⟨d, e1, e2, e3⟩
        · exact .inl h2
        · refine .inr ⟨d, e1, ?_, e3⟩
          rw [g_ne (by omega)]; exact e2) v (roomS (by omega) (by omega))
      rw [hL] at this
      rw [this, List.length_append]; rfl
    simp -implicitDefEqProofs only [eS] at hap
    have hpre : ∀ (y : B) (a : Nat) z, H'[a]? = some z → a ≠ f + 2 → a < f + 3 → (deadT (H'.set (f + 2) y) t ++ [.cells (msC eS (vis ++ [v]))])[a]? = some z := fun y a z hz h2 h4 => by
      have := glt hz
      rw [g_app (by rw [dead_len]; simp; omega), dead_get (hne a h4)]
      rw [g_ne (Ne.symm h2)]; exact hz
    have n2H : ¬ (f + 2 = H'.length) := by omega
    have n2f : ¬ (f + 2 = f) := by omega
    have nHf : ¬ (H'.length = f) := by omega
    simp -implicitDefEqProofs only [op, ef, cl, sq, reduceIte, q1, q2, q3, q4, q5, q6, q7, q8, q9, S1, S2, setps]
    refine ⟨_, rfl, hb, ?_⟩
    have hpf := fun y => hpre y f _ h1 (by omega) (by omega)
    have hpb : ∀ y : B, (deadT (H'.set (f + 2) y) t ++ [.cells (msC eS (vis ++ [v]))])[f + 2]? = some y := fun y => by
      rw [g_app (by rw [dead_len]; simp; omega), dead_get (hne _ (by omega))]
      rw [g_eq m2]
    have hpt : ∀ y : B, (deadT (H'.set (f + 2) y) t ++ [.cells (msC eS (vis ++ [v]))])[H'.length]? = some (.cells (msC eS (vis ++ [v]))) := fun y => by
      rw [g_tail (by rw [dead_len, hL])]
    try simp -implicitDefEqProofs only [eS] at hpf
    try simp -implicitDefEqProofs only [eS] at hpb
    try simp -implicitDefEqProofs only [eS] at hpt
    try simp -implicitDefEqProofs only [eS] at hpre
    simp -implicitDefEqProofs only [op, ef, cl, sq, reduceIte, q1, q2, q3, q4, q5, q6, q7, q8, q9, S1, S2, List.length_set, r2, mf, m2, n2H, n2f, nHf, h1, hfg, hap, hpf]
    refine ⟨_, rfl, by rw [g_ne (by omega)]; exact hpb _, .i ⟨_, by rw [g_ne (by omega), g_eq (glt (hpf _))], .inr ⟨_, rfl, by rw [g_ne (by omega), g_ne (by omega)]; exact hpt _, by omega⟩, by rw [g_ne (by omega), g_ne (by omega)]; exact hpre _ _ _ h3 (by omega) (by omega), fun a y hy => ?_⟩⟩
    have := glt hy
    rw [g_ne (by omega), g_ne (by omega)]; exact hpre _ _ _ (h4 a y hy) (by omega) (by omega)
  · rintro o H' ⟨⟨t, h1, h2, h3, h4⟩, hb⟩
    refine ⟨hb, ?_⟩
    have k2 : ¬ (f + 2 = f + 1) := by omega
    have n20 : ¬ (f + 2 = f) := by omega
    simp -implicitDefEqProofs only [op, ef, cl, sq, reduceIte, q1, q2, q3, q4, q5, q6, q7, q8, q9, S1, S2, r2, n20, h1]
    refine endR_r (b := f + 1) (by simp -implicitDefEqProofs only [op, ef, cl, sq, reduceIte, q1, q2, q3, q4, q5, q6, q7, q8, q9, S1]) (by rw [g_ne (by omega)]; exact h3) ?_
    simp -implicitDefEqProofs only [op, ef, cl, sq, reduceIte, q1, q2, q3, q4, q5, q6, q7, q8, q9, S1]
    refine ⟨ext_of fun a y hy => ?_, t, rfl, ?_⟩
    · have := glt hy
      rw [g_ne (by omega), g_ne (by omega)]
      exact h4 a y hy
    · rcases h2 with h2 | ⟨d, e1, e2, e3⟩
      · exact .inl h2
      · exact .inr ⟨d, e1, by rw [g_ne (by omega), g_ne (by omega)]; exact e2, by omega⟩
def srtS (l : List ByteArray) : List ByteArray := (Go.Sort.sort strLt l.toArray).toList
theorem srtS_ok (l : List ByteArray) : (srtS l).Perm l ∧ ∀ (i j : Nat) a b, i < j → (srtS l)[i]? = some a → (srtS l)[j]? = some b → strLt b a = false := by
  obtain ⟨⟨hs, _, hp⟩, hsort⟩ := Go.Sort.sort_sorts strLt strLt_swo l.toArray
  have e1 : (Go.Sort.sort strLt l.toArray).extract 0 l.toArray.size = Go.Sort.sort strLt l.toArray := by
    conv => lhs; arg 3; rw [← hs]
    simp
  have hperm : (srtS l).Perm l := by
    rw [e1] at hp
    simpa [srtS] using hp
  refine ⟨hperm, fun i j a b hij ha hb => ?_⟩
  unfold srtS at ha hb
  have hi := (List.getElem?_eq_some_iff.1 ha).1
  have hj := (List.getElem?_eq_some_iff.1 hb).1
  have h1 := hsort i j (Nat.zero_le _) hij (by rw [← hs]; simpa using hj)
  have gi := arr_get (d := Go.Sort.sort strLt l.toArray) (i := i) (by simpa using hi)
  have gj := arr_get (d := Go.Sort.sort strLt l.toArray) (i := j) (by simpa using hj)
  rw [ha] at gi; rw [hb] at gj
  cases gi; cases gj
  exact h1
theorem srtS_rise (l : List ByteArray) : rises (srtS l) = decide l.Nodup := by
  obtain ⟨hp, hs⟩ := srtS_ok l
  by_cases hn : l.Nodup
  · rw [decide_eq_true hn, rises_iff]
    intro i a b ha hb
    have h1 := hs i (i + 1) a b (by omega) ha hb
    cases h : strLt a b with
    | true => rfl
    | false =>
      have e := lt_tri h h1
      subst e
      have hn2 := hp.nodup_iff.2 hn
      have := (List.getElem?_inj (List.getElem?_eq_some_iff.1 ha).1 hn2).1 (ha.trans hb.symm)
      omega
  · rw [decide_eq_false hn]
    cases h : rises (srtS l) with
    | false => rfl
    | true =>
      refine absurd (hp.nodup_iff.1 ?_) hn
      refine List.pairwise_iff_getElem.2 fun i j hi hj hij e => ?_
      have := rises_lt h j i _ _ hij (List.getElem?_eq_getElem hi) (List.getElem?_eq_getElem hj)
      rw [e, lt_irr] at this; cases this
def validK (l : List ByteArray) : Bool := decide (1 ≤ l.length) && decide (l.length ≤ 1024) && l.all (fun k => decide (k.size ≤ 65535)) && decide l.Nodup
theorem valid64 (k : SK) (l : List ByteArray) (H : Heap) (hl : l.length ≤ 8000000) : W env (.call 64 [.sl k (l.map eS)]) H (fun o H' => Ext H H' ∧ o = .val (.bool (validK l))) := by
  refine W.fnI rfl rfl rfl ?_
  by_cases h1 : l.length < 1
  · have h1' : ¬ 1 ≤ l.length := by omega
    have e : validK l = false := by unfold validK; rw [decide_eq_false h1', Bool.false_and, Bool.false_and, Bool.false_and]
    simp -implicitDefEqProofs only [ir64, op, ef, cl, sq, reduceIte, q1, q2, q3, q4, q5, q6, q7, q8, q9, S1, List.length_map, h1, e]
    exact Ext.rfl'
  by_cases h2 : 1024 < l.length
  · have h2' : ¬ l.length ≤ 1024 := by omega
    have e : validK l = false := by unfold validK; rw [decide_eq_false h2', Bool.and_false, Bool.false_and, Bool.false_and]
    simp -implicitDefEqProofs only [ir64, op, ef, cl, sq, reduceIte, q1, q2, q3, q4, q5, q6, q7, q8, q9, S1, List.length_map, h1, h2, e]
    exact Ext.rfl'
  simp -implicitDefEqProofs only [ir64, op, ef, cl, sq, reduceIte, q1, q2, q3, q4, q5, q6, q7, q8, q9, S1, List.length_map, h1, h2]
  refine W.loopV [(0, _), (13, _), (14, _)] (fun (i : Nat) R H' => H' = H ∧ R 15 = .int .i64 i ∧ i ≤ l.length ∧ (l.take i).all (fun k => decide (k.size ≤ 65535)) = true) (fun i => l.length - i) 0 ⟨rfl, rfl, Nat.zero_le _, rfl⟩ ?_
  rintro i R H ⟨rfl, g15, hi, hall⟩
  by_cases hlt : i < l.length
  · obtain ⟨v, hv⟩ := getP hlt
    have iv := iadX (e := eS) (n := 1) (fun _ => rfl) (by decide) (k := k) hv
    have ws := wrap_succ (show i < 9223372036854775807 by omega)
    by_cases hz : 65535 < v.size
    · have e : validK l = false := by
        have : l.all (fun k => decide (k.size ≤ 65535)) = false := by
          rw [Bool.eq_false_iff]; intro ha
          have := List.all_eq_true.1 ha v (List.mem_of_getElem? hv)
          simp at this; omega
        unfold validK; rw [this, Bool.and_false, Bool.false_and]
      simp -implicitDefEqProofs only [mkR_nil, mkR_cons, op, ef, cl, sq, reduceIte, q1, q2, q3, q4, q5, q6, q7, q8, q9, S1, g15, hlt, natOf_nat, iv, eS, hz, e]
      exact Ext.rfl'
    · simp -implicitDefEqProofs only [mkR_nil, mkR_cons, op, ef, cl, sq, reduceIte, q1, q2, q3, q4, q5, q6, q7, q8, q9, S1, g15, hlt, natOf_nat, iv, eS, hz, ws]
      refine ⟨i + 1, by omega, rfl, hlt, ?_⟩
      rw [take_snoc hv, List.all_append, hall]
      simp; omega
  have hie : i = l.length := by omega
  subst hie
  rw [List.take_length] at hall
  have e : validK l = decide l.Nodup := by unfold validK; rw [hall, decide_eq_true (by omega), decide_eq_true (by omega)]; rfl
  rw [e, ← srtS_rise l]
  simp -implicitDefEqProofs only [mkR_nil, mkR_cons, op, ef, cl, sq, reduceIte, q1, q2, q3, q4, q5, q6, q7, q8, q9, S1, g15, hlt]
  have h111 : W env (.call 111 [.sl k (l.map eS)]) H (fun o H1 => H1 = H ++ [B.cells [.sl k (l.map eS)]] ∧ o = .val (.fn 153 [.ptr H.length 0])) := by
    refine W.fnI rfl rfl rfl ?_
    simp -implicitDefEqProofs only [ir111, op, ef, cl, sq, reduceIte, q1, q2, q3, q4, q5, q6, q7, q8, q9, S1, capsT, List.map_cons, List.map_nil]
  refine callB_of _ _ _ _ _ _ _ _ h111 ?_
  rintro u H1 ⟨hH1, hu⟩
  cases hu
  have hx1 : Ext H H1 := ⟨_, hH1⟩
  have c1 : H1[H.length]? = some (.cells [.sl k (l.map eS)]) := by rw [hH1]; exact g_tail rfl
  simp -implicitDefEqProofs only [op, ef, cl, sq, reduceIte, q1, q2, q3, q4, q5, q6, q7, q8, q9, S1]
  have h110 : W env (.call 110 [.fn 153 [.ptr H.length 0]]) H1 (fun o H2 => o = .val (.sl .arg ((srtS l).map eS)) ∧ Ext H1 H2) := by
    have h151 : W env (.call 151 [.fn 153 [.ptr H.length 0]]) H1 (fun o H' => Ext H1 H' ∧ ∃ t, o = .val t ∧ Mut eS 1 H1.length H' t l) := by
      refine W.fnI rfl rfl rfl ?_
      simp -implicitDefEqProofs only [ir151, op, ef, cl, sq, reduceIte, q1, q2, q3, q4, q5, q6, q7, q8, q9, S1]
      refine callB_of _ _ _ _ _ _ _ _ (seq180 k l _ H1 hl c1) ?_
      rintro u H2 ⟨hx, t, hu, hm⟩
      cases hu
      simp -implicitDefEqProofs only [op, ef, cl, sq, reduceIte, q1, q2, q3, q4, q5, q6, q7, q8, q9, S1]
      exact ⟨hx, _, rfl, hm⟩
    refine W.frz1 (enc := eS) (n := 1) (l := srtS l) (fun _ => rfl) ?_
    refine W.fnI rfl rfl rfl ?_
    simp -implicitDefEqProofs only [ir110, op, ef, cl, sq, reduceIte, q1, q2, q3, q4, q5, q6, q7, q8, q9, S1]
    refine callB_of _ _ _ _ _ _ _ _ h151 ?_
    rintro u H2 ⟨hx, t, hu, hm⟩
    cases hu
    have hx : Ext H1 H2 := hx
    rcases hm with ⟨e, _⟩ | ⟨c, rfl, hc, hcn⟩
    · subst e; simp at h1
    simp -implicitDefEqProofs only [op, ef, cl, sq, reduceIte, q1, q2, q3, q4, q5, q6, q7, q8, q9, S1]
    have harr : l.toArray.toList = l := List.toList_toArray
    refine callB_of _ _ _ _ _ _ _ _ (sortO55 c l.toArray H2 (by rw [harr]; exact hc) (by simp; omega)) ?_
    rintro u H3 ⟨hu, d', hd', hds, he, hfr⟩
    cases hu
    subst he
    have hlen : (srtS l).length = l.length := (srtS_ok _).1.length_eq
    simp -implicitDefEqProofs only [op, ef, cl, sq, reduceIte, q1, q2, q3, q4, q5, q6, q7, q8, q9, S1]
    exact ⟨c, by rw [hlen], hd', (frm_extG hx hfr fun b hb => by subst hb; exact hcn).set hcn _⟩
  refine callB_of _ _ _ _ _ _ _ _ h110 ?_
  rintro u H2 ⟨hu, hx2⟩
  cases hu
  have hx2 : Ext H1 H2 := hx2
  simp -implicitDefEqProofs only [op, ef, cl, sq, reduceIte, q1, q2, q3, q4, q5, q6, q7, q8, q9, S1]
  refine callB_of _ _ _ _ _ _ _ _ (rise109 .arg (srtS l) _ (by rw [(srtS_ok l).1.length_eq]; omega)) ?_
  rintro u H3 ⟨hu, rfl⟩
  cases hu
  simp -implicitDefEqProofs only [op, ef, cl, sq, reduceIte, q1, q2, q3, q4, q5, q6, q7, q8, q9, S1]
  exact hx1.trans hx2
end Go.Proofs.YtmgldhlcapjdkaaGreat.St
end

section
namespace Go.Proofs.YtmgldhlcapjdkaaGreat.St
open Go.Rmp Go.Proofs.YtmgldhlcapjdkaaGreat.Ir
set_option maxRecDepth 10000
def eSt (o : Option Nat) : List T := [match o with | none => .nilp | some b => .ptr b 0]
def goodP (os : List (Option Nat)) : Bool := decide (1 ≤ os.length) && decide (os.length ≤ 64) && os.all Option.isSome
theorem idx150 (k : SK) (l : List (Option Nat)) (H : Heap) (hl : l.length < 4611686018427387903) : W env (.call 150 [.sl k (l.map eSt), .nilp]) H (fun o H' => H' = H ∧ ∃ n : Int, o = .val (.int .i64 n) ∧ (decide (0 ≤ n) = !l.all Option.isSome)) := by
  refine W.fnI rfl rfl rfl ?_
  simp -implicitDefEqProofs only [ir150, op, ef, cl, sq, reduceIte, q1, q2, q3, q4, q5, q6, q7, q8, q9, S1, List.length_map]
  refine W.loopV [(0, _), (1, _), (7, _)] (fun (i : Nat) R H' => H' = H ∧ R 8 = .int .i64 i ∧ i ≤ l.length ∧ (l.take i).all Option.isSome = true) (fun i => l.length - i) 0 ⟨rfl, rfl, Nat.zero_le _, rfl⟩ ?_
  rintro i R H ⟨rfl, g8, hi, hm⟩
  by_cases hlt : i < l.length
  rotate_left
  · have hie : i = l.length := by omega
    subst hie
    rw [List.take_length] at hm
    simp -implicitDefEqProofs only [mkR_nil, mkR_cons, op, ef, cl, sq, reduceIte, q1, q2, q3, q4, q5, q6, q7, q8, q9, S1, List.length_map, g8, hlt, hm]
    exact ⟨_, rfl, by decide⟩
  obtain ⟨y, hy⟩ := getP hlt
  have ws := wrap_succ (show i < 9223372036854775807 by omega)
  have iy := iadX (e := eSt) (n := 1) (fun _ => rfl) (by decide) (k := k) hy
  cases y with
  | none =>
    simp -implicitDefEqProofs only [mkR_nil, mkR_cons, op, ef, cl, sq, reduceIte, q1, q2, q3, q4, q5, q6, q7, q8, q9, S1, List.length_map, g8, hlt, natOf_nat, iy, eSt, eqRef, nilOf]
    refine ⟨_, rfl, ?_⟩
    have : l.all Option.isSome = false := by
      rw [Bool.eq_false_iff]; intro ha
      have := List.all_eq_true.1 ha none (List.mem_of_getElem? hy)
      cases this
    rw [this]
    exact decide_eq_true (by omega)
  | some b =>
    simp -implicitDefEqProofs only [mkR_nil, mkR_cons, op, ef, cl, sq, reduceIte, q1, q2, q3, q4, q5, q6, q7, q8, q9, S1, List.length_map, g8, hlt, natOf_nat, iy, eSt, eqRef, nilOf, ws]
    exact ⟨i + 1, by omega, rfl, hlt, by rw [take_snoc hy, List.all_append, hm]; rfl⟩
theorem good62 (k : SK) (l : List (Option Nat)) (H : Heap) (hl : l.length < 4611686018427387903) : W env (.call 62 [.sl k (l.map eSt)]) H (Ret (.bool (goodP l)) H) := by
  refine W.fnI rfl rfl rfl ?_
  unfold goodP
  by_cases h1 : 1 ≤ l.length
  rotate_left
  · simp -implicitDefEqProofs only [ir62, op, ef, cl, sq, reduceIte, q1, q2, q3, q4, q5, q6, q7, q8, q9, S1, List.length_map, h1, Bool.false_and]
  by_cases h2 : l.length ≤ 64
  rotate_left
  · simp -implicitDefEqProofs only [ir62, op, ef, cl, sq, reduceIte, q1, q2, q3, q4, q5, q6, q7, q8, q9, S1, List.length_map, h1, h2, Bool.false_and]
  have h108 : W env (.call 108 [.sl k (l.map eSt), .nilp]) H (Ret (.bool (!l.all Option.isSome)) H) := by
    refine W.fnI rfl rfl rfl ?_
    simp -implicitDefEqProofs only [ir108, op, ef, cl, sq, reduceIte, q1, q2, q3, q4, q5, q6, q7, q8, q9, S1]
    refine callB_of _ _ _ _ _ _ _ _ (idx150 k l _ hl) ?_
    rintro u H1 ⟨rfl, n, hu, hn⟩
    cases hu
    simp -implicitDefEqProofs only [op, ef, cl, sq, reduceIte, q1, q2, q3, q4, q5, q6, q7, q8, q9, S1, ge_iff_le, hn]
  simp -implicitDefEqProofs only [ir62, op, ef, cl, sq, reduceIte, q1, q2, q3, q4, q5, q6, q7, q8, q9, S1, List.length_map, h1, h2]
  refine callB_of _ _ _ _ _ _ _ _ h108 ?_
  rintro u H1 ⟨hu, rfl⟩
  cases hu
  simp -implicitDefEqProofs only [op, ef, cl, sq, reduceIte, q1, q2, q3, q4, q5, q6, q7, q8, q9, S1, Bool.not_not]
theorem shape63 (b h : Int) (H : Heap) : W env (.call 63 [.agg [.int .i64 b, .int .i64 h]]) H (fun o H' => Ext H H' ∧ o = .val (.bool (shOk b h))) := by
  refine W.fnI rfl rfl rfl ?_
  obtain ⟨H1, hH1⟩ : ∃ H1, H1 = H ++ [B.cells [T.int .i64 b, T.int .i64 h]] := ⟨_, rfl⟩
  have hx1 : Ext H H1 := ⟨_, hH1⟩
  have c1 : H1[H.length]? = some (.cells [T.int .i64 b, T.int .i64 h]) := by rw [hH1]; exact g_tail rfl
  simp -implicitDefEqProofs only [ir63, op, ef, cl, sq, reduceIte, q1, q2, q3, q4, q5, q6, q7, q8, q9, S1, S2]
  rw [← hH1]
  refine callB_of _ _ _ _ _ _ _ _ (bnew44 b h _) ?_
  rintro u H2 ⟨hx2, ⟨hsh, hu⟩ | ⟨hsh, bf, w, hu, _⟩⟩
  · cases hu
    have hx2 : Ext H1 H2 := hx2
    have c2 := hx2.get c1
    simp -implicitDefEqProofs only [op, ef, cl, sq, reduceIte, q1, q2, q3, q4, q5, q6, q7, q8, q9, S1, c1, c2, hsh]
    exact hx1.trans hx2
  · cases hu
    have hx2 : Ext H1 H2 := hx2
    have c2 := hx2.get c1
    simp -implicitDefEqProofs only [op, ef, cl, sq, reduceIte, q1, q2, q3, q4, q5, q6, q7, q8, q9, S1, c1, c2, hsh]
    exact hx1.trans hx2
structure Wst where
  b : Bk
  a : Ab
  F : Nat → Prop
  m : Nat
def Wsts (H : Heap) (ws : List Wst) : Prop := ∀ w ∈ ws, AtS H w.b w.a w.F w.m
theorem Wsts.ext {H H' : Heap} {ws : List Wst} (h : Wsts H ws) (hx : Ext H H') : Wsts H' ws := fun w hw => (h w hw).ext hx
def stP (ws : List Wst) : List (Option Nat) := ws.map fun w => some w.b.s
theorem stP_len (ws : List Wst) : (stP ws).length = ws.length := by simp [stP]
theorem stP_at {ws : List Wst} {i : Nat} {w : Wst} (h : ws[i]? = some w) : (stP ws)[i]? = some (some w.b.s) := by rw [stP, List.getElem?_map, h]; rfl
theorem goodP_ws {ws : List Wst} (h1 : 1 ≤ ws.length) (h2 : ws.length ≤ 64) : goodP (stP ws) = true := by
  unfold goodP
  rw [stP_len, decide_eq_true h1, decide_eq_true h2]
  simp [stP]
def abAt (ws : List Wst) (k : ByteArray) : Ab := match ws[ofN k ws.length]? with
  | some w => w.a
  | none => Ab.emp
theorem ws_at {ws : List Wst} (h1 : 1 ≤ ws.length) (k : ByteArray) : ∃ w, ws[ofN k ws.length]? = some w ∧ abAt ws k = w.a ∧ w ∈ ws := by
  obtain ⟨w, hw⟩ := getP (l := ws) (i := ofN k ws.length) (ofN_lt k (by omega))
  exact ⟨w, hw, by unfold abAt; rw [hw], List.mem_of_getElem? hw⟩
theorem home65 (kk : SK) (ws : List Wst) (k : ByteArray) (H : Heap) (h1 : 1 ≤ ws.length) (h2 : ws.length ≤ 64) (hk : k.size < 9223372036854775807) : W env (.call 65 [.sl kk ((stP ws).map eSt), .str k]) H (fun o H' => H' = H ∧ ∃ w, w ∈ ws ∧ abAt ws k = w.a ∧ o = .val (.ptr w.b.s 0)) := by
  obtain ⟨w, hw, ha, hm⟩ := ws_at h1 k
  refine W.fnI rfl rfl rfl ?_
  simp -implicitDefEqProofs only [ir65, op, ef, cl, sq, reduceIte, q1, q2, q3, q4, q5, q6, q7, q8, q9, S1, List.length_map, stP_len]
  refine callB_of _ _ _ _ _ _ _ _ (of25 k ws.length _ hk) ?_
  rintro u H1 ⟨hu, rfl⟩
  have hok : okP (ws.length : Int) = true := by simp [okP]; omega
  have hu : u = .tup [.int .i64 (ofN k ws.length : Nat), .int .i64 0] := by
    cases hu
    simp -implicitDefEqProofs only [ofV, hok, if_true, Int.toNat_natCast]
  subst hu
  have iw := iadX (e := eSt) (n := 1) (fun _ => rfl) (by decide) (k := kk) (stP_at hw)
  simp -implicitDefEqProofs only [op, ef, cl, sq, reduceIte, q1, q2, q3, q4, q5, q6, q7, q8, q9, S1, natOf_nat, iw, eSt]
  exact ⟨w, hm, ha, rfl⟩
def amg (a : Ab) (k : ByteArray) (ids : List Nat) : Nat := ids.foldl (fun best id => if id ≤ best then best else if a.has (k, id) then id else best) 0
theorem amg_snoc (a : Ab) (k : ByteArray) (ids : List Nat) (id : Nat) : amg a k (ids ++ [id]) = if id ≤ amg a k ids then amg a k ids else if a.has (k, id) then id else amg a k ids := by
  unfold amg; rw [List.foldl_append]; rfl
def amgV (a : Ab) (k : ByteArray) (n : Nat) : Vd := if n = 0 then ⟨⟨#[]⟩, [], 0⟩ else vdOf (a.v (k, n))
theorem among68 {b : Bk} {a : Ab} {F : Nat → Prop} {m : Nat} (k : ByteArray) (kk : SK) (ids : List Nat) {H : Heap} (h : AtS H b a F m) (hl : ids.length ≤ 8000000) : W env (.call 68 [.ptr b.s 0, .str k, .sl kk (ids.map eU)]) H (fun o H' => Ext H H' ∧ ∃ kv, KOk kv (amgV a k (amg a k ids)).keys ∧ o = .val (.tup [.agg (eVer k (amg a k ids) (amgV a k (amg a k ids)).value kv (amgV a k (amg a k ids)).keys), .int .i64 0])) := by
  refine W.fnI rfl rfl rfl ?_
  obtain ⟨H1, hH1⟩ : ∃ H1, H1 = H ++ [B.cells [T.str ⟨#[]⟩, .int .u64 0, .str ⟨#[]⟩, .sl .nil []]] ++ [B.cells [T.str k, .int .u64 0, .str ⟨#[]⟩, .sl .nil []]] := ⟨_, rfl⟩
  have hx1 : Ext H H1 := by rw [hH1]; exact ((Ext.rfl'.app _).app _)
  have c1 : H1[H.length]? = some (.cells [T.str ⟨#[]⟩, .int .u64 0, .str ⟨#[]⟩, .sl .nil []]) := by rw [hH1, g_app (by simp), g_tail rfl]
  have d1 : H1[H.length + 1]? = some (.cells [T.str k, .int .u64 0, .str ⟨#[]⟩, .sl .nil []]) := by rw [hH1, g_tail (by simp)]
  have e0 : eqRef .ptr (.ptr b.s 0) .nilp = some false := rfl
  simp -implicitDefEqProofs only [ir68, op, ef, cl, sq, reduceIte, q1, q2, q3, q4, q5, q6, q7, q8, q9, S1, S2, S3, List.length_map, e0]
  rw [← hH1]
  refine W.loopV [(0, _), (1, _), (6, _), (8, _), (18, _), (19, _)] (fun (i : Nat) R H' => At H' (fun H' => Ext H H' ∧ H'[H.length]? = some (.cells [T.str ⟨#[]⟩, .int .u64 0, .str ⟨#[]⟩, .sl .nil []]) ∧ ∃ kv, KOk kv (amgV a k (amg a k (ids.take i))).keys ∧ H'[H.length + 1]? = some (.cells (eVer k (amg a k (ids.take i)) (amgV a k (amg a k (ids.take i))).value kv (amgV a k (amg a k (ids.take i))).keys))) ∧ R 20 = .int .i64 i ∧ i ≤ ids.length) (fun i => ids.length - i) 0 ⟨.i ⟨hx1, c1, .nil, fun _ => rfl, d1⟩, rfl, Nat.zero_le _⟩ ?_
  rintro i R H2 ⟨⟨hx2, c2, kv, hkv, d2⟩, g20, hi⟩
  unfold eVer at d2
  have lc2 := glt c2
  have ld2 := glt d2
  by_cases hlt : i < ids.length
  rotate_left
  · have hie : i = ids.length := by omega
    subst hie
    rw [List.take_length] at d2 hkv
    simp -implicitDefEqProofs only [mkR_nil, mkR_cons, op, ef, cl, sq, reduceIte, q1, q2, q3, q4, q5, q6, q7, q8, q9, S1, S2, g20, hlt, d2, c2, lc2]
    exact ⟨hx2.set (Nat.le_refl _) _, kv, hkv, rfl⟩
  obtain ⟨id, hid⟩ := getP hlt
  have iid := iadX (e := eU) (n := 1) (fun _ => rfl) (by decide) (k := kk) hid
  have ws := wrap_succ (show i < 9223372036854775807 by omega)
  have hsn := amg_snoc a k (ids.take i) id
  rw [← take_snoc hid] at hsn
  by_cases hle : id ≤ amg a k (ids.take i)
  · rw [if_pos hle] at hsn
    simp -implicitDefEqProofs only [mkR_nil, mkR_cons, op, ef, cl, sq, reduceIte, q1, q2, q3, q4, q5, q6, q7, q8, q9, S1, S2, g20, hlt, natOf_nat, iid, eU, d2, hle, ws]
    refine ⟨i + 1, by omega, .i ⟨hx2, c2, kv, by rw [hsn]; exact hkv, by rw [hsn]; exact d2⟩, rfl, hlt⟩
  rw [if_neg hle] at hsn
  simp -implicitDefEqProofs only [mkR_nil, mkR_cons, op, ef, cl, sq, reduceIte, q1, q2, q3, q4, q5, q6, q7, q8, q9, S1, S2, g20, hlt, natOf_nat, iid, eU, d2, hle]
  refine callB_of _ _ _ _ _ _ _ _ (byIDA k id (h.ext hx2)) ?_
  rintro u H4 ⟨hx4, hu⟩
  have hx4 : Ext H2 H4 := hx4
  have c4 := hx4.get c2
  have d4 := hx4.get d2
  have lt4 := glt c4
  have ld4 := glt d4
  have hne : ¬ H4.length = H.length + 1 := by omega
  have hne2 : ¬ H4.length = H.length := by omega
  rcases hu with ⟨hno, hu⟩ | ⟨v, kv2, hv, hkv2, hu⟩
  · cases hu
    have hh : a.has (k, id) = false := by unfold Ab.has; rw [hno]; rfl
    rw [hh] at hsn
    simp -implicitDefEqProofs only [Bool.false_eq_true, if_false] at hsn
    simp -implicitDefEqProofs only [op, ef, cl, sq, reduceIte, q1, q2, q3, q4, q5, q6, q7, q8, q9, S1, S2, g20, ws]
    refine ⟨i + 1, by omega, .i ⟨(hx2.trans hx4).app _, by rw [g_app lt4]; exact c4, kv, by rw [hsn]; exact hkv, by rw [g_app ld4, hsn]; exact d4⟩, rfl, hlt⟩
  · cases hu
    have hh : a.has (k, id) = true := by unfold Ab.has; rw [hv]; rfl
    rw [hh] at hsn
    simp -implicitDefEqProofs only [if_true] at hsn
    have hne3 : ¬ H.length + 1 = H.length := by omega
    have hid0 : ¬ id = 0 := by omega
    have hav : amgV a k id = v := by unfold amgV; rw [if_neg hid0, hv]; rfl
    simp -implicitDefEqProofs only [op, ef, cl, sq, reduceIte, q1, q2, q3, q4, q5, q6, q7, q8, q9, S1, S2, g20, lt4, d4, ld4, hne, eVer, ws]
    refine ⟨i + 1, by omega, .i ⟨((hx2.trans hx4).set (by omega) _).app _, by rw [g_app (by rw [List.length_set]; exact lt4), g_ne hne3]; exact c4, kv2, by rw [hsn, hav]; exact hkv2, by rw [g_app (by rw [List.length_set]; exact ld4), g_eq ld4, hsn, hav]⟩, rfl, hlt⟩
end Go.Proofs.YtmgldhlcapjdkaaGreat.St
end

section
namespace Go.Proofs.YtmgldhlcapjdkaaGreat.St
open Go.Rmp Go.Proofs.YtmgldhlcapjdkaaGreat.Ir
set_option maxRecDepth 10000
def firstS (ws : List Wst) (b h : Int) (k : ByteArray) : Slm × Nat := ofS k ((abAt ws k).last k) ((abAt ws k).latest k).value ((abAt ws k).latest k).keys b h
def Sizes (ws : List Wst) : Prop := ∀ w ∈ ws, ∀ m v, w.a.v m = some v → ∀ x ∈ v.keys, x.size < 9223372036854775807
theorem AtS.lkeys {H : Heap} {b : Bk} {a : Ab} {F : Nat → Prop} {n : Nat} (h : AtS H b a F n) (k : ByteArray) : (a.latest k).keys.length ≤ 1024 := by
  unfold Ab.latest
  cases a.l k with
  | none => simp [vdOf]
  | some n => exact h.keys (k, n)
theorem vd_sizes {a : Ab} (h : ∀ m v, a.v m = some v → ∀ x ∈ v.keys, x.size < 9223372036854775807) (m : Nm) : ∀ x ∈ (vdOf (a.v m)).keys, x.size < 9223372036854775807 := by
  cases e : a.v m with
  | none => intro x hx; simp [vdOf] at hx
  | some v => exact h m v e
theorem firstNo (k1 k2 : SK) (os : List (Option Nat)) (t : T) (b h : Int) (H : Heap) (hl : os.length < 4611686018427387903) (hno : goodP os = false ∨ shOk b h = false) : W env (.call 23 [.sl k1 (os.map eSt), t, .agg [.int .i64 b, .int .i64 h]]) H (fun o H' => Ext H H' ∧ o = .val (.tup [.sl .nil [], .int .i64 1])) := by
  refine W.fnI rfl rfl rfl ?_
  obtain ⟨H1, hH1⟩ : ∃ H1, H1 = H ++ [B.cells [T.int .i64 b, T.int .i64 h]] := ⟨_, rfl⟩
  have hx1 : Ext H H1 := ⟨_, hH1⟩
  have c1 : H1[H.length]? = some (.cells [T.int .i64 b, T.int .i64 h]) := by rw [hH1]; exact g_tail rfl
  simp -implicitDefEqProofs only [ir23, op, ef, cl, sq, reduceIte, q1, q2, q3, q4, q5, q6, q7, q8, q9, S1]
  rw [← hH1]
  refine callB_of _ _ _ _ _ _ _ _ (good62 k1 os _ hl) ?_
  rintro u H2 ⟨hu, rfl⟩
  cases hu
  cases hg : goodP os
  · simp -implicitDefEqProofs only [op, ef, cl, sq, reduceIte, q1, q2, q3, q4, q5, q6, q7, q8, q9, S1]
    exact hx1
  have hno := hno.resolve_left (by rw [hg]; simp)
  simp -implicitDefEqProofs only [op, ef, cl, sq, reduceIte, q1, q2, q3, q4, q5, q6, q7, q8, q9, S1, c1]
  refine callB_of _ _ _ _ _ _ _ _ (shape63 b h _) ?_
  rintro u H3 ⟨hx3, hu⟩
  cases hu
  have hx3 : Ext H2 H3 := hx3
  have c3 := hx3.get c1
  simp -implicitDefEqProofs only [op, ef, cl, sq, reduceIte, q1, q2, q3, q4, q5, q6, q7, q8, q9, S1, c1, c3, hno]
  exact hx1.trans hx3
theorem secondNo (k1 : SK) (os : List (Option Nat)) (t : T) (b h : Int) (H : Heap) (hl : os.length < 4611686018427387903) (hno : goodP os = false ∨ shOk b h = false) : W env (.call 24 [.sl k1 (os.map eSt), t, .agg [.int .i64 b, .int .i64 h]]) H (fun o H' => Ext H H' ∧ o = .val (.tup [.sl .nil [], .int .i64 1])) := by
  refine W.fnI rfl rfl rfl ?_
  obtain ⟨H1, hH1⟩ : ∃ H1, H1 = H ++ [B.cells [T.int .i64 b, T.int .i64 h]] := ⟨_, rfl⟩
  have hx1 : Ext H H1 := ⟨_, hH1⟩
  have c1 : H1[H.length]? = some (.cells [T.int .i64 b, T.int .i64 h]) := by rw [hH1]; exact g_tail rfl
  simp -implicitDefEqProofs only [ir24, op, ef, cl, sq, reduceIte, q1, q2, q3, q4, q5, q6, q7, q8, q9, S1]
  rw [← hH1]
  refine callB_of _ _ _ _ _ _ _ _ (good62 k1 os _ hl) ?_
  rintro u H2 ⟨hu, rfl⟩
  cases hu
  cases hg : goodP os
  · simp -implicitDefEqProofs only [op, ef, cl, sq, reduceIte, q1, q2, q3, q4, q5, q6, q7, q8, q9, S1]
    exact hx1
  have hno := hno.resolve_left (by rw [hg]; simp)
  simp -implicitDefEqProofs only [op, ef, cl, sq, reduceIte, q1, q2, q3, q4, q5, q6, q7, q8, q9, S1, c1]
  refine callB_of _ _ _ _ _ _ _ _ (shape63 b h _) ?_
  rintro u H3 ⟨hx3, hu⟩
  cases hu
  have hx3 : Ext H2 H3 := hx3
  have c3 := hx3.get c1
  simp -implicitDefEqProofs only [op, ef, cl, sq, reduceIte, q1, q2, q3, q4, q5, q6, q7, q8, q9, S1, c1, c3, hno]
  exact hx1.trans hx3
set_option maxHeartbeats 2000000 in
theorem first23 (k1 k2 : SK) (ws : List Wst) (ks : List ByteArray) (b h : Int) {H : Heap} (hw : Wsts H ws) (h1 : 1 ≤ ws.length) (h2 : ws.length ≤ 64) (hsz : Sizes ws) (hsh : shOk b h = true) (hks : ∀ k ∈ ks, k.size < 9223372036854775807) (hl : ks.length ≤ 8000000)
    (hok : ∀ k ∈ ks, (firstS ws b h k).2 = 0) :
    W env (.call 23 [.sl k1 ((stP ws).map eSt), .sl k2 (ks.map eS), .agg [.int .i64 b, .int .i64 h]]) H (fun o H' => Ext H H' ∧ ((validK ks = false ∧ o = .val (.tup [.sl .nil [], .int .i64 40])) ∨ (validK ks = true ∧ ∃ kk, o = .val (.tup [.sl kk ((ks.map fun k => (firstS ws b h k).1).map (eSl .arg)), .int .i64 0])))) := by
  refine W.fnI rfl rfl rfl ?_
  obtain ⟨H1, hH1⟩ : ∃ H1, H1 = H ++ [B.cells [T.int .i64 b, T.int .i64 h]] := ⟨_, rfl⟩
  have hx1 : Ext H H1 := ⟨_, hH1⟩
  have c1 : H1[H.length]? = some (.cells [T.int .i64 b, T.int .i64 h]) := by rw [hH1]; exact g_tail rfl
  simp -implicitDefEqProofs only [ir23, op, ef, cl, sq, reduceIte, q1, q2, q3, q4, q5, q6, q7, q8, q9, S1]
  rw [← hH1]
  refine callB_of _ _ _ _ _ _ _ _ (good62 k1 (stP ws) _ (by rw [stP_len]; omega)) ?_
  rintro u H1 ⟨hu, rfl⟩
  cases hu
  rw [goodP_ws h1 h2]
  simp -implicitDefEqProofs only [op, ef, cl, sq, reduceIte, q1, q2, q3, q4, q5, q6, q7, q8, q9, S1, c1]
  refine callB_of _ _ _ _ _ _ _ _ (shape63 b h _) ?_
  rintro u H3 ⟨hx3, hu⟩
  cases hu
  have hx3 : Ext H1 H3 := hx3
  have c3 := hx3.get c1
  simp -implicitDefEqProofs only [op, ef, cl, sq, reduceIte, q1, q2, q3, q4, q5, q6, q7, q8, q9, S1, c1, c3, hsh]
  refine callB_of _ _ _ _ _ _ _ _ (valid64 k2 ks _ hl) ?_
  rintro u H4 ⟨hx4, hu⟩
  cases hu
  have hx4 : Ext H3 H4 := hx4
  have hx14 := hx1.trans (hx3.trans hx4)
  have c4 := hx4.get c3
  cases hv : validK ks
  · simp -implicitDefEqProofs only [op, ef, cl, sq, reduceIte, q1, q2, q3, q4, q5, q6, q7, q8, q9, S1]
    exact ⟨hx14, .inl trivial⟩
  have hl2 : ks.length ≤ 1024 := by
    simp -implicitDefEqProofs only [validK, Bool.and_eq_true, decide_eq_true_eq] at hv; exact hv.1.1.2
  simp -implicitDefEqProofs only [op, ef, cl, sq, reduceIte, q1, q2, q3, q4, q5, q6, q7, q8, q9, S1, List.length_map]
  refine W.loopV [(0, _), (5, _), (24, _), (25, _)] (fun (i : Nat) R H' => At H' (fun H' => ∃ kk, R 8 = .sl kk (((ks.take i).map fun k => (firstS ws b h k).1).map (eSl .arg)) ∧ Ext H4 H' ∧ Apd H4.length H' kk) ∧ R 26 = .int .i64 i ∧ i ≤ ks.length) (fun i => ks.length - i) 0 ⟨.i ⟨.nil, rfl, Ext.rfl', apd_nil _ _⟩, rfl, Nat.zero_le _⟩ ?_
  rintro i R H5 ⟨⟨kk, g8, hx5, hap⟩, g26, hi⟩
  have c5 := hx5.get c4
  by_cases hlt : i < ks.length
  rotate_left
  · have hie : i = ks.length := by omega
    subst hie
    rw [List.take_length] at g8
    simp -implicitDefEqProofs only [mkR_nil, mkR_cons, op, ef, cl, sq, reduceIte, q1, q2, q3, q4, q5, q6, q7, q8, q9, S1, g8, g26, hlt]
    exact ⟨hx14.trans hx5, .inr ⟨kk, rfl⟩⟩
  obtain ⟨k, hk⟩ := getP hlt
  have hkm := List.mem_of_getElem? hk
  have ik := iadX (e := eS) (n := 1) (fun _ => rfl) (by decide) (k := k2) hk
  have wsi := wrap_succ (show i < 9223372036854775807 by omega)
  obtain ⟨H6, hH6⟩ : ∃ H6, H6 = H5 ++ [B.cells [T.str ⟨#[]⟩, .int .u64 0, .str ⟨#[]⟩, .sl .nil []]] := ⟨_, rfl⟩
  have hx6 : Ext H5 H6 := ⟨_, hH6⟩
  have c6 := hx6.get c5
  have d6 : H6[H5.length]? = some (.cells [T.str ⟨#[]⟩, .int .u64 0, .str ⟨#[]⟩, .sl .nil []]) := by rw [hH6]; exact g_tail rfl
  simp -implicitDefEqProofs only [mkR_nil, mkR_cons, op, ef, cl, sq, reduceIte, q1, q2, q3, q4, q5, q6, q7, q8, q9, S1, S2, g26, hlt, natOf_nat, ik, eS, c5]
  rw [← hH6]
  refine callB_of _ _ _ _ _ _ _ _ (home65 k1 ws k _ h1 h2 (hks k hkm)) ?_
  rintro u H6 ⟨rfl, w, hwm, haw, hu⟩
  cases hu
  have hx06 : Ext H H6 := (hx14.trans hx5).trans hx6
  have haw6 := (hw w hwm).ext hx06
  simp -implicitDefEqProofs only [op, ef, cl, sq, reduceIte, q1, q2, q3, q4, q5, q6, q7, q8, q9, S1, c5, c6]
  refine callB_of _ _ _ _ _ _ _ _ (latestA k haw6) ?_
  rintro u H7 ⟨hx7, kv, hkv, hu⟩
  cases hu
  have hx7 : Ext H6 H7 := hx7
  have c7 := hx7.get c6
  have d7 := hx7.get d6
  have hszl : ∀ x ∈ (w.a.latest k).keys, x.size < 9223372036854775807 := by
    unfold Ab.latest
    cases w.a.l k with
    | none => intro x hx; simp [vdOf] at hx
    | some n => exact vd_sizes (hsz w hwm) (k, n)
  simp -implicitDefEqProofs only [op, ef, cl, sq, reduceIte, q1, q2, q3, q4, q5, q6, q7, q8, q9, S1, c5, c6, c7]
  refine callB_of _ _ _ _ _ _ _ _ (of11 k (w.a.last k) (w.a.latest k).value kv (w.a.latest k).keys b h _ (by have := haw6.lkeys k; omega) hszl) ?_
  rintro u H8 ⟨hx8, kf, hkf, hu⟩
  have hx8 : Ext H7 H8 := hx8
  have efs : ofS k (w.a.last k) (w.a.latest k).value (w.a.latest k).keys b h = firstS ws b h k := by unfold firstS; rw [haw]
  rw [efs] at hu
  have h0 := hok k hkm
  obtain ⟨s, hs⟩ : ∃ s, s = (firstS ws b h k).1 := ⟨_, rfl⟩
  rw [h0, ← hs] at hu
  cases hu
  have c8 := hx8.get c7
  have d8 := hx8.get d7
  have ld8 := glt d8
  obtain ⟨H9, hH9⟩ : ∃ H9, H9 = H8.set H5.length (.cells (eSl kf s)) := ⟨_, rfl⟩
  have hx9 : Ext H5 H9 := by rw [hH9]; exact ((hx6.trans hx7).trans hx8).set (Nat.le_refl _) _
  have d9 : H9[H5.length]? = some (.cells (eSl kf s)) := by rw [hH9]; exact g_eq ld8
  have hH9' := hH9
  unfold eSl at d9 hH9'
  have hall := all_map (enc := eSl .arg) (n := 4) (fun _ => rfl) ((ks.take i).map fun k => (firstS ws b h k).1)
  obtain ⟨k', H10, ha, hap', hst'⟩ := app_ok (bytes := 64) (((ks.take i).map fun k => (firstS ws b h k).1).map (eSl .arg)) [eSl .arg s] (hap.ext hx9) (Nat.le_trans hx5.len hx9.len) (by simp) (roomT (by simp -implicitDefEqProofs only [List.length_map, List.length_take, List.length_cons, List.length_nil]; omega))
  have ha2 : appT H9 64 kk (((ks.take i).map fun k => (firstS ws b h k).1).map (eSl .arg)) [[.str s.key, .int .u64 s.id, .str s.val, .sl .arg (s.fil.map eB)]] = some (.sl k' (((ks.take i).map fun k => (firstS ws b h k).1).map (eSl .arg) ++ [eSl .arg s]), H10) := ha
  simp -implicitDefEqProofs only [eSl, op, ef, cl, sq, reduceIte, q1, q2, q3, q4, q5, q6, q7, q8, q9, S1, S2, c5, c6, c7, c8, d8, ld8, S3]
  rw [← hH9']
  simp -implicitDefEqProofs only [op, ef, cl, sq, reduceIte, q1, q2, q3, q4, q5, q6, q7, q8, q9, S1, g8, g26, d9, hall, ha2, wsi]
  refine ⟨i + 1, by omega, .i ⟨k', ?_, hst'.ext H4 (Nat.le_refl _) (hx5.trans hx9), hap'⟩, rfl, hlt⟩
  rw [take_snoc hk, List.map_append, List.map_append, hs]; rfl
end Go.Proofs.YtmgldhlcapjdkaaGreat.St
end

section
namespace Go.Proofs.YtmgldhlcapjdkaaGreat.St
open Go.Rmp Go.Proofs.YtmgldhlcapjdkaaGreat.Ir
set_option maxRecDepth 10000
def needN (ws : List Wst) (l : List Slm) (y : Slm) : Nat := if idsOf l y = [] then 0 else amg (abAt ws y.key) y.key (riseL (idsOf l y))
def needS (ws : List Wst) (b h : Int) (y : Slm) (n : Nat) : Slm × Nat := ofS y.key n (amgV (abAt ws y.key) y.key n).value (amgV (abAt ws y.key) y.key n).keys b h
def secondS (ws : List Wst) (b h : Int) (l : List Slm) (y : Slm) : Slm := if needN ws l y = 0 then y else (needS ws b h y (needN ws l y)).1
theorem drop_cons {α : Type} {l : List α} {i : Nat} {x : α} (h : l[i]? = some x) : l.drop i = x :: l.drop (i + 1) := by
  obtain ⟨hi, e⟩ := List.getElem?_eq_some_iff.1 h
  rw [List.drop_eq_getElem_cons hi, e]
theorem asks_cons {l : List Slm} {i : Nat} {y : Slm} (h : l[i]? = some y) : asksOf l (l.drop i) = askOf l y ++ asksOf l (l.drop (i + 1)) := by
  rw [drop_cons h]; simp [asksOf]
theorem asks_key {l m : List Slm} {a : Ak} (h : a ∈ asksOf l m) : ∃ y ∈ m, y.key = a.1 := by
  simp -implicitDefEqProofs only [asksOf, List.mem_flatMap] at h
  obtain ⟨y, hy, ha⟩ := h
  refine ⟨y, hy, ?_⟩
  unfold askOf at ha
  split at ha
  · cases ha
  · simp at ha; rw [ha]
theorem amgV_sizes {a : Ab} (h : ∀ m v, a.v m = some v → ∀ x ∈ v.keys, x.size < 9223372036854775807) (k : ByteArray) (n : Nat) : ∀ x ∈ (amgV a k n).keys, x.size < 9223372036854775807 := by
  unfold amgV
  split
  · intro x hx; simp at hx
  · exact vd_sizes h (k, n)
theorem amgV_len {H : Heap} {b : Bk} {a : Ab} {F : Nat → Prop} {m : Nat} (h : AtS H b a F m) (k : ByteArray) (n : Nat) : (amgV a k n).keys.length ≤ 1024 := by
  unfold amgV
  split
  · simp
  · exact h.keys (k, n)
set_option maxHeartbeats 4000000 in
theorem second24 (k1 k2 : SK) (ws : List Wst) (l : List Slm) (b h : Int) {H : Heap} (hw : Wsts H ws) (h1 : 1 ≤ ws.length) (h2 : ws.length ≤ 64) (hsz : Sizes ws) (hsh : shOk b h = true) (hb : ∀ s ∈ l, SlmB s) (hl : l.length ≤ 8000000)
    (hok : ∀ y ∈ l, needN ws l y ≠ 0 → (needS ws b h y (needN ws l y)).2 = 0) :
    W env (.call 24 [.sl k1 ((stP ws).map eSt), .sl k2 (l.map (eSl .arg)), .agg [.int .i64 b, .int .i64 h]]) H (fun o H' => Ext H H' ∧ ((formed l = false ∧ o = .val (.tup [.sl .nil [], .int .i64 1])) ∨ (formed l = true ∧ ∃ kk, o = .val (.tup [.sl kk ((l.map (secondS ws b h l)).map (eSl .arg)), .int .i64 0])))) := by
  refine W.fnI rfl rfl rfl ?_
  obtain ⟨H1, hH1⟩ : ∃ H1, H1 = H ++ [B.cells [T.int .i64 b, T.int .i64 h]] := ⟨_, rfl⟩
  have hx1 : Ext H H1 := ⟨_, hH1⟩
  have c1 : H1[H.length]? = some (.cells [T.int .i64 b, T.int .i64 h]) := by rw [hH1]; exact g_tail rfl
  simp -implicitDefEqProofs only [ir24, op, ef, cl, sq, reduceIte, q1, q2, q3, q4, q5, q6, q7, q8, q9, S1]
  rw [← hH1]
  refine callB_of _ _ _ _ _ _ _ _ (good62 k1 (stP ws) _ (by rw [stP_len]; omega)) ?_
  rintro u H1 ⟨hu, rfl⟩
  cases hu
  rw [goodP_ws h1 h2]
  simp -implicitDefEqProofs only [op, ef, cl, sq, reduceIte, q1, q2, q3, q4, q5, q6, q7, q8, q9, S1, c1]
  refine callB_of _ _ _ _ _ _ _ _ (shape63 b h _) ?_
  rintro u H3 ⟨hx3, hu⟩
  cases hu
  have hx3 : Ext H1 H3 := hx3
  have c3 := hx3.get c1
  simp -implicitDefEqProofs only [op, ef, cl, sq, reduceIte, q1, q2, q3, q4, q5, q6, q7, q8, q9, S1, c1, c3, hsh]
  refine callB_of _ _ _ _ _ _ _ _ (needs17 k2 l hb hl _) ?_
  rintro u H4 ⟨hx4, ⟨hno, ka, hu⟩ | ⟨hyes, ka, hu⟩⟩
  · cases hu
    simp -implicitDefEqProofs only [op, ef, cl, sq, reduceIte, q1, q2, q3, q4, q5, q6, q7, q8, q9, S1, hno]
    exact ⟨hx1.trans (hx3.trans hx4), .inl trivial⟩
  cases hu
  have hx4 : Ext H3 H4 := hx4
  have hx14 := hx1.trans (hx3.trans hx4)
  have c4 := hx4.get c3
  obtain ⟨l1, l2, hsl, hnd⟩ := formed_ok hyes
  simp -implicitDefEqProofs only [op, ef, cl, sq, reduceIte, q1, q2, q3, q4, q5, q6, q7, q8, q9, S1, List.length_map, hyes]
  refine W.loopV [(0, _), (5, _), (31, _), (32, _)] (fun (i : Nat) R H' => At H' (fun H' => ∃ kk ka, R 10 = .sl kk (((l.take i).map (secondS ws b h l)).map (eSl .arg)) ∧ R 8 = .sl ka ((asksOf l (l.drop i)).map eA) ∧ Ext H4 H' ∧ Apd H4.length H' kk) ∧ R 33 = .int .i64 i ∧ i ≤ l.length) (fun i => l.length - i) 0 ⟨.i ⟨.nil, ka, rfl, rfl, Ext.rfl', apd_nil _ _⟩, rfl, Nat.zero_le _⟩ ?_
  rintro i R H5 ⟨⟨kk, ka, g10, g8, hx5, hap⟩, g33, hi⟩
  have c5 := hx5.get c4
  by_cases hlt : i < l.length
  rotate_left
  · have hie : i = l.length := by omega
    subst hie
    rw [List.take_length] at g10
    simp -implicitDefEqProofs only [mkR_nil, mkR_cons, op, ef, cl, sq, reduceIte, q1, q2, q3, q4, q5, q6, q7, q8, q9, S1, g10, g33, hlt]
    exact ⟨hx14.trans hx5, .inr ⟨kk, rfl⟩⟩
  obtain ⟨y, hy⟩ := getP hlt
  have hym := List.mem_of_getElem? hy
  have hyb := hb y hym
  have iy := iadX (e := eSl .arg) (n := 4) (fun _ => rfl) (by decide) (k := k2) hy
  have ld4 : ∀ Hx, ldc Hx 4 (.iptr (eSl .arg y)) = some [.str y.key, .int .u64 y.id, .str y.val, .sl .arg (y.fil.map eB)] := fun _ => rfl
  have wsi := wrap_succ (show i < 9223372036854775807 by omega)
  obtain ⟨H6, hH6⟩ : ∃ H6, H6 = H5 ++ [B.cells (eSl .arg y)] := ⟨_, rfl⟩
  have hx6 : Ext H5 H6 := ⟨_, hH6⟩
  have d6 : H6[H5.length]? = some (.cells (eSl .arg y)) := by rw [hH6]; exact g_tail rfl
  have hH6' := hH6
  unfold eSl at d6 hH6'
  simp -implicitDefEqProofs only [mkR_nil, mkR_cons, op, ef, cl, sq, reduceIte, q1, q2, q3, q4, q5, q6, q7, q8, q9, S1, S2, S3, g33, hlt, natOf_nat, iy, ld4]
  rw [← hH6']
  refine callB_of _ _ _ _ _ _ _ _ (cloneB67 .arg y.fil (by simp) hyb.2.1 _) ?_
  rintro u H7 ⟨hx7, kf, hkf, hu⟩
  cases hu
  have hx7 : Ext H6 H7 := hx7
  have d7 := hx7.get d6
  have ld7 := glt d7
  obtain ⟨H8, hH8⟩ : ∃ H8, H8 = H7.set H5.length (.cells (eSl kf y)) := ⟨_, rfl⟩
  have hx8 : Ext H5 H8 := by rw [hH8]; exact (hx6.trans hx7).set (Nat.le_refl _) _
  have d8 : H8[H5.length]? = some (.cells (eSl kf y)) := by rw [hH8]; exact g_eq ld7
  have ld8 := glt d8
  have c8 := hx8.get c5
  have hH8' := hH8
  unfold eSl at d8 hH8'
  have hac := asks_cons hy
  have fin : ∀ (s : Slm) (kf : SK) (Hx : Heap), secondS ws b h l y = s → Ext H5 Hx → Hx[H5.length]? = some (.cells [.str s.key, .int .u64 s.id, .str s.val, .sl kf (s.fil.map eB)]) →
      ∃ k' Hy, appT Hx 64 kk (((l.take i).map (secondS ws b h l)).map (eSl .arg)) [[.str s.key, .int .u64 s.id, .str s.val, .sl .arg (s.fil.map eB)]] = some (.sl k' (((l.take (i + 1)).map (secondS ws b h l)).map (eSl .arg)), Hy) ∧ Ext H4 Hy ∧ Apd H4.length Hy k' := fun s kf Hx hs hxx hd => by
    obtain ⟨k', Hy, ha, hap', hst'⟩ := app_ok (bytes := 64) (((l.take i).map (secondS ws b h l)).map (eSl .arg)) [eSl .arg s] (hap.ext hxx) (Nat.le_trans hx5.len hxx.len) (by simp) (roomT (by simp -implicitDefEqProofs only [List.length_map, List.length_take, List.length_cons, List.length_nil]; omega))
    refine ⟨k', Hy, ?_, hst'.ext H4 (Nat.le_refl _) (hx5.trans hxx), hap'⟩
    rw [take_snoc hy, List.map_append, List.map_append, List.map_cons, List.map_cons, hs]
    exact ha
  have hall := all_map (enc := eSl .arg) (n := 4) (fun _ => rfl) ((l.take i).map (secondS ws b h l))
  have hallA := fun m : List Ak => all_map (enc := eA) (n := 2) (fun _ => rfl) m
  by_cases h0 : idsOf l y = []
  · -- nothing is asked for
    have hs : secondS ws b h l y = y := by unfold secondS needN; rw [if_pos h0]; rfl
    have hao : askOf l y = [] := by unfold askOf; rw [if_pos h0]
    rw [hao, List.nil_append] at hac
    obtain ⟨k', Hy, ha, hxy, hapy⟩ := fin y kf H8 hs hx8 d8
    by_cases hz : asksOf l (l.drop i) = []
    · simp -implicitDefEqProofs only [op, ef, cl, sq, reduceIte, q1, q2, q3, q4, q5, q6, q7, q8, q9, S1, S2, d7, ld7]
      rw [← hH8']
      simp -implicitDefEqProofs only [op, ef, cl, sq, reduceIte, q1, q2, q3, q4, q5, q6, q7, q8, q9, S1, g8, hz, List.map_nil, Nat.lt_irrefl, d8, g10, g33, hall, ha, wsi]
      exact ⟨i + 1, by omega, .i ⟨k', ka, rfl, by rw [← hac, hz]; rfl, hxy, hapy⟩, rfl, hlt⟩
    · obtain ⟨a, m, ham⟩ := List.exists_cons_of_ne_nil hz
      have hne : ¬ a.1 = y.key := fun e => by
        have hma : a ∈ asksOf l (l.drop (i + 1)) := by rw [← hac, ham]; simp
        obtain ⟨z, hz1, hz2⟩ := asks_key hma
        have e3 : l.map Slm.key = (l.take (i + 1)).map Slm.key ++ (l.drop (i + 1)).map Slm.key := by rw [← List.map_append, List.take_append_drop]
        rw [e3, List.nodup_append] at hnd
        exact hnd.2.2 y.key (List.mem_map_of_mem (by rw [take_snoc hy]; simp)) z.key (List.mem_map_of_mem hz1) (by rw [hz2, e])
      have ia : iadT 2 0 (.sl ka ((asksOf l (l.drop i)).map eA)) = some (.iptr (eA a)) := iadX (e := eA) (n := 2) (fun _ => rfl) (by decide) (by rw [ham]; rfl)
      have hpos : 0 < (asksOf l (l.drop i)).length := by rw [ham]; simp
      have n0 : natOf (.int .i64 0) = some 0 := rfl
      have f0 : fadT 0 (.iptr (eA a)) = some (.iptr (eA a)) := rfl
      have l0 : ∀ Hx, ldc Hx 1 (.iptr (eA a)) = some [.str a.1] := fun _ => rfl
      simp -implicitDefEqProofs only [op, ef, cl, sq, reduceIte, q1, q2, q3, q4, q5, q6, q7, q8, q9, S1, S2, d7, ld7]
      rw [← hH8']
      simp -implicitDefEqProofs only [op, ef, cl, sq, reduceIte, q1, q2, q3, q4, q5, q6, q7, q8, q9, S1, g8, List.length_map, hpos, n0, ia, f0, l0, hne, d8, g10, g33, hall, ha, wsi]
      exact ⟨i + 1, by omega, .i ⟨k', ka, rfl, by rw [← hac], hxy, hapy⟩, rfl, hlt⟩
  have hao : askOf l y = [(y.key, riseL (idsOf l y))] := by unfold askOf; rw [if_neg h0]
  rw [hao, List.singleton_append] at hac
  have ia : iadT 2 0 (.sl ka ((asksOf l (l.drop i)).map eA)) = some (.iptr (eA (y.key, riseL (idsOf l y)))) := iadX (e := eA) (n := 2) (fun _ => rfl) (by decide) (by rw [hac]; rfl)
  have hpos : 0 < (asksOf l (l.drop i)).length := by rw [hac]; simp
  have hle1 : 1 ≤ (asksOf l (l.drop i)).length := hpos
  have n0 : natOf (.int .i64 0) = some 0 := rfl
  have n1 : natOf (.int .i64 1) = some 1 := rfl
  have f0 : fadT 0 (.iptr (eA (y.key, riseL (idsOf l y)))) = some (.iptr (eA (y.key, riseL (idsOf l y)))) := rfl
  have f1 : fadT 1 (.iptr (eA (y.key, riseL (idsOf l y)))) = some (.iptr [.sl .arg ((riseL (idsOf l y)).map eU)]) := rfl
  have l0 : ∀ Hx, ldc Hx 1 (.iptr (eA (y.key, riseL (idsOf l y)))) = some [.str y.key] := fun _ => rfl
  have hdrop : (((asksOf l (l.drop i)).map eA).take (asksOf l (l.drop i)).length).drop 1 = (asksOf l (l.drop (i + 1))).map eA := by
    rw [List.take_of_length_le (by simp), hac]; rfl
  have hnn : needN ws l y = amg (abAt ws y.key) y.key (riseL (idsOf l y)) := by unfold needN; rw [if_neg h0]
  simp -implicitDefEqProofs only [op, ef, cl, sq, reduceIte, q1, q2, q3, q4, q5, q6, q7, q8, q9, S1, S2, d7, ld7]
  rw [← hH8']
  obtain ⟨H9, hH9⟩ : ∃ H9, H9 = H8 ++ [B.cells [T.str ⟨#[]⟩, .int .u64 0, .str ⟨#[]⟩, .sl .nil []]] := ⟨_, rfl⟩
  have hx9 : Ext H8 H9 := ⟨_, hH9⟩
  have d9 := hx9.get d8
  have c9 := hx9.get c8
  have t9 : H9[H8.length]? = some (.cells [T.str ⟨#[]⟩, .int .u64 0, .str ⟨#[]⟩, .sl .nil []]) := by rw [hH9]; exact g_tail rfl
  simp -implicitDefEqProofs only [op, ef, cl, sq, reduceIte, q1, q2, q3, q4, q5, q6, q7, q8, q9, S1, g8, List.length_map, hpos, n0, ia, f0, f1, l0, d8]
  rw [← hH9]
  refine callB_of _ _ _ _ _ _ _ _ (home65 k1 ws y.key _ h1 h2 hyb.2.2) ?_
  rintro u H9 ⟨rfl, w, hwm, haw, hu⟩
  cases hu
  have hx09 : Ext H H9 := ((hx14.trans hx5).trans hx8).trans hx9
  have haw9 := (hw w hwm).ext hx09
  simp -implicitDefEqProofs only [op, ef, cl, sq, reduceIte, q1, q2, q3, q4, q5, q6, q7, q8, q9, S1, d8, d9, n0, ia, f0, f1, l0]
  refine callB_of _ _ _ _ _ _ _ _ (among68 y.key .arg (riseL (idsOf l y)) haw9 (by
    have h5 : (riseL (idsOf l y)).length ≤ (idsOf l y).length := by
      have h6 := ddx_len (srtL (idsOf l y)) (srtL (idsOf l y)).length
      have h7 := (srtL_ok (idsOf l y)).1.length_eq
      unfold riseL; omega
    have h6 : (idsOf l y).length ≤ l.length := by unfold idsOf; rw [List.length_map]; exact List.length_filter_le _ _
    omega)) ?_
  rintro u H10 ⟨hx10, kv, hkv, hu⟩
  rw [← haw, ← hnn] at hu hkv
  cases hu
  have hx10 : Ext H9 H10 := hx10
  have d10 := hx10.get d9
  have c10 := hx10.get c9
  have t10 := hx10.get t9
  have lt10 := glt t10
  have ld10 := glt d10
  obtain ⟨n, hn⟩ : ∃ n, n = needN ws l y := ⟨_, rfl⟩
  rw [← hn] at hkv ⊢
  obtain ⟨H11, hH11⟩ : ∃ H11, H11 = H10.set H8.length (.cells (eVer y.key n (amgV (abAt ws y.key) y.key n).value kv (amgV (abAt ws y.key) y.key n).keys)) := ⟨_, rfl⟩
  have hne85 : ¬ H8.length = H5.length := by omega
  have t11 : H11[H8.length]? = some (.cells (eVer y.key n (amgV (abAt ws y.key) y.key n).value kv (amgV (abAt ws y.key) y.key n).keys)) := by rw [hH11]; exact g_eq lt10
  have d11 : H11[H5.length]? = some (.cells [.str y.key, .int .u64 y.id, .str y.val, .sl kf (y.fil.map eB)]) := by rw [hH11, g_ne hne85]; exact d10
  have hx11 : Ext H8 H11 := by rw [hH11]; exact (hx9.trans hx10).set (Nat.le_refl _) _
  have c11 := hx11.get c8
  have lt11 := glt t11
  have ld11 := glt d11
  have hH11' := hH11
  unfold eVer at t11 hH11'
  by_cases hz : n = 0
  · have hs : secondS ws b h l y = y := by unfold secondS; rw [if_pos (by rw [← hn]; exact hz)]
    obtain ⟨k', Hy, ha, hxy, hapy⟩ := fin y kf H11 hs (hx8.trans hx11) d11
    subst hz
    simp -implicitDefEqProofs only [op, ef, cl, sq, reduceIte, q1, q2, q3, q4, q5, q6, q7, q8, q9, S1, S2, eVer, g33, t10, lt10]
    rw [← hH11']
    simp -implicitDefEqProofs only [op, ef, cl, sq, reduceIte, q1, q2, q3, q4, q5, q6, q7, q8, q9, S1, S2, g8, g10, g33, t11, d11, n0, n1, hle1, List.length_map, hallA, hdrop, hall, ha, wsi, Nat.le_refl]
    exact ⟨i + 1, by omega, .i ⟨k', _, rfl, rfl, hxy, hapy⟩, rfl, hlt⟩
  have hnz : needN ws l y ≠ 0 := by rw [← hn]; exact hz
  have hs : secondS ws b h l y = (needS ws b h y n).1 := by unfold secondS; rw [if_neg hnz, hn]
  have he := hok y hym hnz
  rw [← hn] at he
  simp -implicitDefEqProofs only [op, ef, cl, sq, reduceIte, q1, q2, q3, q4, q5, q6, q7, q8, q9, S1, S2, eVer, g33, t10, lt10]
  rw [← hH11']
  simp -implicitDefEqProofs only [op, ef, cl, sq, reduceIte, q1, q2, q3, q4, q5, q6, q7, q8, q9, S1, S2, t11, d11, hz, c11]
  refine callB_of _ _ _ _ _ _ _ _ (of11 y.key n (amgV (abAt ws y.key) y.key n).value kv (amgV (abAt ws y.key) y.key n).keys b h H11 (by have := amgV_len haw9 y.key n; rw [haw]; omega) (by rw [haw]; exact amgV_sizes (hsz w hwm) y.key n)) ?_
  rintro u H12 ⟨hx12, kf2, hkf2, hu⟩
  have hx12 : Ext H11 H12 := hx12
  obtain ⟨s, hss⟩ : ∃ s, s = (needS ws b h y n).1 := ⟨_, rfl⟩
  have efs : ofS y.key n (amgV (abAt ws y.key) y.key n).value (amgV (abAt ws y.key) y.key n).keys b h = needS ws b h y n := rfl
  rw [efs, he, ← hss] at hu
  rw [efs, ← hss] at hkf2
  rw [← hss] at hs
  cases hu
  have d12 := hx12.get d11
  have t12 := hx12.get t11
  have c12 := hx12.get c11
  have ld12 := glt d12
  obtain ⟨H13, hH13⟩ : ∃ H13, H13 = H12.set H5.length (.cells (eSl kf2 s)) := ⟨_, rfl⟩
  have d13 : H13[H5.length]? = some (.cells (eSl kf2 s)) := by rw [hH13]; exact g_eq ld12
  have hx13 : Ext H5 H13 := by rw [hH13]; exact ((hx8.trans hx11).trans hx12).set (Nat.le_refl _) _
  have hH13' := hH13
  unfold eSl at d13 hH13'
  obtain ⟨k', Hy, ha, hxy, hapy⟩ := fin s kf2 H13 hs hx13 d13
  simp -implicitDefEqProofs only [op, ef, cl, sq, reduceIte, q1, q2, q3, q4, q5, q6, q7, q8, q9, S1, S2, eSl, t11, t12, c11, c12, d12, ld12]
  rw [← hH13']
  simp -implicitDefEqProofs only [op, ef, cl, sq, reduceIte, q1, q2, q3, q4, q5, q6, q7, q8, q9, S1, S2, g8, g10, g33, d13, n0, n1, hle1, List.length_map, hallA, hdrop, hall, ha, wsi, Nat.le_refl]
  exact ⟨i + 1, by omega, .i ⟨k', _, rfl, rfl, hxy, hapy⟩, rfl, hlt⟩
end Go.Proofs.YtmgldhlcapjdkaaGreat.St
end

section
namespace Go.Proofs.YtmgldhlcapjdkaaGreat.St
open Go.Rmp Go.Proofs.YtmgldhlcapjdkaaGreat.Ir
set_option maxRecDepth 10000
theorem filB_bytes {b h : Nat} {S : Nat → Bool} : Bytes (filB b h S) := fun x hx => by
  unfold filB at hx
  rcases List.mem_append.1 hx with hx | hx
  · simp -implicitDefEqProofs only [hdr, List.mem_cons, List.not_mem_nil, or_false] at hx
    omega
  · exact bytS_lt hx
theorem filB_len (b h : Nat) (S : Nat → Bool) : (filB b h S).length = 5 + (b + 7) / 8 := by
  unfold filB; rw [List.length_append, bytS_len]; rfl
theorem filB_at (b h : Nat) (S : Nat → Bool) (j : Nat) : bAt (filB b h S) (5 + j) = if j < (b + 7) / 8 then byteS S j else 0 := by
  unfold bAt filB
  rw [List.getD_eq_getElem?_getD, List.getElem?_append_right (by simp [hdr])]
  have e : 5 + j - (hdr b h).length = j := by simp [hdr]
  rw [e]
  split
  · rename_i hj; rw [bytS_at S hj]; rfl
  · rename_i hj; rw [List.getElem?_eq_none (by rw [bytS_len]; omega)]; rfl
theorem filB_B {b h : Nat} (S : Nat → Bool) (hb : b ≤ 65536) : rdB (filB b h S) = b := by
  rw [rdB_eq filB_bytes]
  have e0 : bAt (filB b h S) 0 = b / 16777216 % 256 := rfl
  have e1 : bAt (filB b h S) 1 = b / 65536 % 256 := rfl
  have e2 : bAt (filB b h S) 2 = b / 256 % 256 := rfl
  have e3 : bAt (filB b h S) 3 = b % 256 := rfl
  rw [e0, e1, e2, e3]; omega
theorem filB_H {b h : Nat} (S : Nat → Bool) (hh : h ≤ 16) : rdH (filB b h S) = h := by
  have e : rdH (filB b h S) = h % 256 := rfl
  rw [e]; omega
theorem filB_S {b h : Nat} {S : Nat → Bool} (hs : ∀ q, S q = true → q < b) : rdS (filB b h S) = S := by
  funext q
  unfold rdS
  rw [filB_at]
  split
  · exact byteS_bit S q
  · rename_i hq
    cases e : S q with
    | false => simp
    | true => have := hs q e; omega
theorem filB_ok {b h : Nat} {S : Nat → Bool} (hs : ∀ q, S q = true → q < b) (b1 : 1 ≤ b) (b2 : b ≤ 65536) (h1 : 1 ≤ h) (h2 : h ≤ 16) : rdOk (filB b h S) = true := by
  have hB := filB_B (h := h) S b2
  have hH := filB_H (b := b) S h2
  have hl := filB_len b h S
  have ht := topZ_of (bs := filB b h S) filB_bytes (by rw [hB]; exact hl) (by omega) (by rw [hB, filB_S hs]; exact hs)
  have hsh : shOk (b : Int) (h : Int) = true := by simp [shOk]; omega
  unfold rdOk
  rw [ht, hB, hH, hsh, decide_eq_true (by omega), decide_eq_true hl]; rfl
theorem mk_hasF {b h : Nat} (k : ByteArray) (n : Nat) (v : ByteArray) (ks : List ByteArray) (t : ByteArray) (b1 : 1 ≤ b) (b2 : b ≤ 65536) (h2 : h ≤ 16) : hasF (mkSlm k n v ks b h) t = (plcs t b h).all (keyP ks b h) := by
  unfold hasF
  show (plcs t (rdB (filB b h (keyP ks b h))) (rdH (filB b h (keyP ks b h)))).all (rdS (filB b h (keyP ks b h))) = _
  rw [filB_B _ b2, filB_H _ h2, filB_S (keyP_lt b1)]
theorem keyP_has {ks : List ByteArray} {t : ByteArray} (h : t ∈ ks) (b hh : Nat) : (plcs t b hh).all (keyP ks b hh) = true := by
  rw [List.all_eq_true]
  intro p hp
  simp -implicitDefEqProofs only [keyP, List.any_eq_true, List.contains_iff_mem]
  exact ⟨t, h, hp⟩
theorem mk_slim {b h : Nat} {k : ByteArray} {n : Nat} {v : ByteArray} {ks : List ByteArray} (b1 : 1 ≤ b) (b2 : b ≤ 65536) (h1 : 1 ≤ h) (h2 : h ≤ 16) (hn : 65536 ≤ n) (hk : k ∈ ks) : slimOk (mkSlm k n v ks b h) = true := by
  have e1 : hasF (mkSlm k n v ks b h) k = true := by rw [mk_hasF _ _ _ _ _ b1 b2 h2]; exact keyP_has hk b h
  have e2 : rdOk (mkSlm k n v ks b h).fil = true := filB_ok (keyP_lt b1) b1 b2 h1 h2
  have e3 : ¬ (mkSlm k n v ks b h).id = 0 := by show ¬ n = 0; omega
  unfold slimOk
  rw [if_neg e3, e2]
  show (decide (65536 ≤ n) && true && hasF (mkSlm k n v ks b h) k) = true
  rw [e1, decide_eq_true hn]; rfl
theorem mk_SlmB {b h : Nat} {k : ByteArray} {n : Nat} {v : ByteArray} {ks : List ByteArray} (b2 : b ≤ 65536) (hk : k.size < 9223372036854775807) : SlmB (mkSlm k n v ks b h) := ⟨filB_bytes, by show (filB b h _).length ≤ _; rw [filB_len]; omega, hk⟩
theorem ofS_mk {k : ByteArray} {n : Nat} {v : ByteArray} {ks : List ByteArray} {b h : Nat} (hs : shOk b h = true) (ho : ofOk k n ks = true) : ofS k n v ks b h = (mkSlm k n v ks b h, 0) := by
  have hn : ¬ n = 0 := by
    rintro rfl
    simp [ofOk] at ho
  unfold ofS
  rw [if_neg (by rw [hs]; simp), if_neg hn, ho]; rfl
end Go.Proofs.YtmgldhlcapjdkaaGreat.St
end

section
namespace Go.Proofs.YtmgldhlcapjdkaaGreat.St
open Go.Rmp Go.Proofs.YtmgldhlcapjdkaaGreat.Ir
set_option maxRecDepth 10000
def t1 : ByteArray := ⟨#[49]⟩
def slA : Slm := mkSlm tA 65536 t1 [tA] 8 2
theorem formed16 (k : SK) (l : List Slm) (hb : ∀ s ∈ l, SlmB s) (hl : l.length ≤ 8000000) (H : Heap) : W env (.call 16 [.sl k (l.map (eSl .arg))]) H (fun o H' => Ext H H' ∧ o = .val (.bool (formed l))) := by
  refine W.fnI rfl rfl rfl ?_
  simp -implicitDefEqProofs only [ir16, op, ef, cl, sq, reduceIte, q1, q2, q3, q4, q5, q6, q7, q8, q9, S1]
  refine callB_of _ _ _ _ _ _ _ _ (filters54 k l hb hl _) ?_
  rintro u H1 ⟨hx1, ⟨hno, kp, hu⟩ | ⟨hyes, kp, ps, hfs, hu⟩⟩
  · cases hu
    simp -implicitDefEqProofs only [op, ef, cl, sq, reduceIte, q1, q2, q3, q4, q5, q6, q7, q8, q9, S1, hno]
    exact hx1
  · cases hu
    simp -implicitDefEqProofs only [op, ef, cl, sq, reduceIte, q1, q2, q3, q4, q5, q6, q7, q8, q9, S1, hyes]
    exact hx1
theorem aMay : MayP 65536 [(tA, t1)] [tA] := by
  refine ⟨by decide, ⟨fun i hi x hx => ?_, by decide, by decide⟩, by decide, fun i hi => ?_⟩
  · have : i = 0 := by simp at hi; omega
    subst this
    simp at hx; subst hx
    exact ⟨by decide, fun h => absurd h (by decide)⟩
  · have : i = 0 := by simp at hi; omega
    subst this
    intro p hp
    simp at hp; subst hp
    exact ⟨fun h => absurd h (by decide), by simp, by decide⟩
def aA : Ab := (Ab.emp.put 65536 [(tA, t1)] [tA] 0).com 65536 0
theorem aA_l : aA.l tA = some 65536 := by
  simp [aA, Ab.com, Ab.put, Ab.has, Ab.last, Ab.emp, mlook_cons]
theorem aA_v : ∃ st, aA.v (tA, 65536) = some ⟨t1, [tA], st⟩ := by
  simp [aA, Ab.com, Ab.put, Ab.has, Ab.last, Ab.emp, mlook_cons]
theorem com_vv {a : Ab} {n : Nat} {now : Int} {m : Nm} {v : Vd} (h : (a.com n now).v m = some v) : ∃ w, a.v m = some w ∧ v.keys = w.keys ∧ v.value = w.value := by
  simp -implicitDefEqProofs only [Ab.com, Option.map_eq_some_iff] at h
  obtain ⟨w, hw, rfl⟩ := h
  refine ⟨w, hw, ?_⟩
  split <;> exact ⟨rfl, rfl⟩
theorem put_vv {a : Ab} {n : Nat} {l : List (ByteArray × ByteArray)} {ks : List ByteArray} {now : Int} {m : Nm} {v : Vd} (h : (a.put n l ks now).v m = some v) : a.v m = some v ∨ (a.v m = none ∧ m.2 = n ∧ v.keys = ks ∧ mlook l m.1 = some v.value) := by
  rw [put_v] at h
  cases e : a.v m with
  | some w => rw [e] at h; exact .inl h
  | none =>
    rw [e, Option.none_or] at h
    split at h
    · rename_i e2
      simp -implicitDefEqProofs only [Option.map_eq_some_iff] at h
      obtain ⟨x, hx, rfl⟩ := h
      exact .inr ⟨rfl, e2, rfl, hx⟩
    · cases h
theorem aA_keys (m : Nm) (v : Vd) (h : aA.v m = some v) : v.keys = [tA] := by
  obtain ⟨w, hw, e, _⟩ := com_vv h
  rw [e]
  rcases put_vv hw with h | ⟨_, _, h, _⟩
  · cases h
  · exact h
theorem slA_ok : slimOk slA = true := mk_slim (by decide) (by decide) (by decide) (by decide) (by decide) (by simp)
theorem slA_formed : formed [slA] = true := by
  unfold formed
  simp [slA_ok]
theorem alive10 (H : Heap) : W env (.call 10 []) H (fun o H' => Ext H H' ∧ o = .val (.bool true)) := by
  refine W.fnI rfl rfl rfl ?_
  simp -implicitDefEqProofs only [ir10, op, ef, cl, sq, reduceIte, q1, q2, q3, q4, q5, q6, q7, q8, q9, S1]
  refine callB_of _ _ _ _ _ _ _ _ (newA _) ?_
  rintro u H1 ⟨hx1, b, F, hu, hat, hF⟩
  cases hu
  have hx1 : Ext H H1 := hx1
  have e0 : eqRef .ptr (.ptr b.s 0) .nilp = some false := rfl
  simp -implicitDefEqProofs only [op, ef, cl, sq, reduceIte, q1, q2, q3, q4, q5, q6, q7, q8, q9, S1, e0]
  refine callB_of _ _ _ _ _ _ _ _ (putA 65536 .full .full [(tA, t1)] [tA] 0 hat (by decide) (fun h => by cases h) aMay ⟨by decide, by decide⟩) ?_
  rintro u H2 ⟨F2, hu, hat2, hf2, hg2⟩
  cases hu
  simp -implicitDefEqProofs only [op, ef, cl, sq, reduceIte, q1, q2, q3, q4, q5, q6, q7, q8, q9, S1]
  refine callB_of _ _ _ _ _ _ _ _ (comA 65536 0 hat2 (by decide) (by decide) ⟨by decide, by decide⟩) ?_
  rintro u H3 ⟨D, _, _, hu, hat3, hf3⟩
  cases hu
  have hx2 : Ext H H2 := frm_extG hx1 hf2 fun c hc => (hF c hc).1
  have hx3 : Ext H H3 := frm_extG hx2 hf3 fun c hc => by
    rcases hg2 c hc with h | h
    · exact (hF c h).1
    · have := hx1.len; omega
  have hat3 : AtS H3 b aA F2 1 := hat3
  obtain ⟨ws, hws⟩ : ∃ ws, ws = [(⟨b, aA, F2, 1⟩ : Wst)] := ⟨_, rfl⟩
  have hW : Wsts H3 ws := fun w hw => by rw [hws] at hw; simp at hw; subst hw; exact hat3
  have hab : ∀ k, abAt ws k = aA := fun k => by
    unfold abAt
    have : ofN k ws.length = 0 := by rw [hws]; exact Nat.mod_one _
    rw [this, hws]; rfl
  have hsz : Sizes ws := fun w hw m v hv x hx => by
    rw [hws] at hw; simp at hw; subst hw
    rw [aA_keys m v hv] at hx
    simp at hx; subst hx; decide
  have hl1 : ws.length = 1 := by rw [hws]; rfl
  have hlast : aA.last tA = 65536 := by unfold Ab.last; rw [aA_l]; rfl
  have hlat : (aA.latest tA).value = t1 ∧ (aA.latest tA).keys = [tA] := by
    obtain ⟨st, hst⟩ := aA_v
    unfold Ab.latest
    rw [aA_l]
    simp -implicitDefEqProofs only [hst, vdOf, Option.getD_some, and_self]
  have hof : ofOk tA 65536 [tA] = true := by
    have : memB [tA] tA = true := memB_iff.2 (by simp)
    unfold ofOk; rw [this]; rfl
  have hfs : firstS ws 8 2 tA = (slA, 0) := by
    unfold firstS
    rw [hab, hlast, hlat.1, hlat.2]
    exact ofS_mk (b := 8) (h := 2) rfl hof
  have hvk : validK [tA] = true := by
    unfold validK
    simp; decide
  simp -implicitDefEqProofs only [op, ef, cl, sq, reduceIte, q1, q2, q3, q4, q5, q6, q7, q8, q9, S1]
  have h23 := first23 .full .full ws [tA] 8 2 hW (by omega) (by omega) hsz rfl (fun k hk => by simp at hk; subst hk; decide) (by decide) (fun k hk => by simp at hk; subst hk; rw [hfs])
  rw [hws] at h23
  refine callB_of _ _ _ _ _ _ _ _ h23 ?_
  rintro u H4 ⟨hx4, ⟨h, _⟩ | ⟨_, kk, hu⟩⟩
  · rw [hvk] at h; cases h
  have hx4 : Ext H3 H4 := hx4
  have hu : u = .tup [.sl kk ([slA].map (eSl .arg)), .int .i64 0] := by
    cases hu
    rw [← hws]
    simp -implicitDefEqProofs only [List.map_cons, List.map_nil, hfs]
  subst hu
  have hid : idsOf [slA] slA = [] := by
    unfold idsOf mayH
    simp
  have hnn : needN ws [slA] slA = 0 := by unfold needN; rw [if_pos hid]
  have hss : secondS ws 8 2 [slA] slA = slA := by unfold secondS; rw [if_pos hnn]
  have hsb : ∀ s ∈ [slA], SlmB s := fun s hs => by simp at hs; subst hs; exact mk_SlmB (by decide) (by decide)
  have h24 := second24 .full kk ws [slA] 8 2 (hW.ext hx4) (by omega) (by omega) hsz rfl hsb (by decide) (fun y hy h => by simp at hy; subst hy; exact absurd hnn h)
  rw [hws] at h24
  simp -implicitDefEqProofs only [op, ef, cl, sq, reduceIte, q1, q2, q3, q4, q5, q6, q7, q8, q9, S1]
  refine callB_of _ _ _ _ _ _ _ _ h24 ?_
  rintro u H5 ⟨hx5, ⟨h, _⟩ | ⟨_, kk2, hu⟩⟩
  · rw [slA_formed] at h; cases h
  have hx5 : Ext H4 H5 := hx5
  have hu : u = .tup [.sl kk2 ([slA].map (eSl .arg)), .int .i64 0] := by
    cases hu
    rw [← hws]
    simp -implicitDefEqProofs only [List.map_cons, List.map_nil, hss]
  subst hu
  have n0 : natOf (.int .i64 0) = some 0 := rfl
  have i1 : iadT 4 0 (.sl kk [eSl .arg slA]) = some (.iptr (eSl .arg slA)) := iadX (e := eSl .arg) (n := 4) (l := [slA]) (i := 0) (x := slA) (fun _ => rfl) (by decide) rfl
  have i2 : iadT 4 0 (.sl kk2 [eSl .arg slA]) = some (.iptr (eSl .arg slA)) := iadX (e := eSl .arg) (n := 4) (l := [slA]) (i := 0) (x := slA) (fun _ => rfl) (by decide) rfl
  have f1 : fadT 1 (.iptr (eSl .arg slA)) = some (.iptr [.int .u64 65536, .str t1, .sl .arg (slA.fil.map eB)]) := rfl
  have f2 : fadT 2 (.iptr (eSl .arg slA)) = some (.iptr [.str t1, .sl .arg (slA.fil.map eB)]) := rfl
  have f3 : fadT 3 (.iptr (eSl .arg slA)) = some (.iptr [.sl .arg (slA.fil.map eB)]) := rfl
  have l1 : lenT H5 .sl (.sl kk [eSl .arg slA]) = some 1 := rfl
  have l2 : lenT H5 .sl (.sl kk2 [eSl .arg slA]) = some 1 := rfl
  have l3 : slA.fil.length = 6 := by show (filB 8 2 _).length = 6; rw [filB_len]
  have e1 : (t1 == ⟨#[49]⟩) = true := by decide
  have lc : ((1 : Nat) : Int) = 1 := rfl
  have l6 : ((6 : Nat) : Int) = 6 := rfl
  simp -implicitDefEqProofs only [op, ef, cl, sq, reduceIte, q1, q2, q3, q4, q5, q6, q7, q8, q9, S1, n0, i1, i2, f1, f2, f3, l1, l2, lc, l3, l6, List.length_map, t1]
  have h16 := fun Hx => formed16 kk [slA] hsb (by decide) Hx
  simp -implicitDefEqProofs only [List.map_cons, List.map_nil] at h16
  refine callB_of _ _ _ _ _ _ _ _ (h16 _) ?_
  rintro u H6 ⟨hx6, hu⟩
  cases hu
  have hx6 : Ext H5 H6 := hx6
  rw [slA_formed]
  simp -implicitDefEqProofs only [op, ef, cl, sq, reduceIte, q1, q2, q3, q4, q5, q6, q7, q8, q9, S1, n0, i1, i2, f1, f2, f3]
  exact ((hx3.trans hx4).trans hx5).trans hx6
end Go.Proofs.YtmgldhlcapjdkaaGreat.St
end

section
namespace Go.Proofs.YtmgldhlcapjdkaaGreat.St
open Go.Rmp Go.Proofs.YtmgldhlcapjdkaaGreat.Ir
set_option maxRecDepth 10000
theorem app_nil0 {α : Type} {e : α → List T} {bytes : Nat} (H : Heap) (l : List α) (he : ∀ x, (e x).map T.erase = e x) (hr : roomOk (0 + l.length) bytes = true) : ∃ k1 H3, appT H bytes .nil [] (l.map e) = some (.sl k1 (l.map e), H3) ∧ Apd H.length H3 k1 ∧ Ext H H3 ∧ KOk k1 l := by
  by_cases h0 : l = []
  · subst h0
    exact ⟨.nil, H, rfl, apd_nil _ _, Ext.rfl', fun _ => rfl⟩
  · obtain ⟨k1, H3, ha, hap, hst⟩ := app_ok (n0 := H.length) (bytes := bytes) [] (l.map e) (apd_nil H.length H) (Nat.le_refl _) (by simpa using h0) (by simpa using hr)
    have hm : (l.map e).map (·.map T.erase) = l.map e := (List.map_congr_left fun c hc => by obtain ⟨x, _, rfl⟩ := List.mem_map.1 hc; exact he x).trans (List.map_id _)
    have hnn := app_nn ha (by simpa using h0)
    refine ⟨k1, H3, ?_, hap, hst.ext H (Nat.le_refl _) Ext.rfl', fun h => absurd h hnn⟩
    rw [ha, List.nil_append, hm]
theorem own29 (k : SK) (l : List Nat) (H : Heap) (hl : l.length ≤ 1073741824) : W env (.call 29 [.sl k (l.map eB)]) H (fun o H' => Ext H H' ∧ ∃ k', o = .val (.sl k' (l.map eB)) ∧ Apd H.length H' k' ∧ KOk k' l) := by
  refine W.fnI rfl rfl rfl ?_
  have hall := all_map (enc := eB) (n := 1) (fun _ => rfl) l
  obtain ⟨k1, H3, ha, hap, hx, hk⟩ := app_nil0 (e := eB) (bytes := 1) H l (fun _ => rfl) (roomT (by omega))
  simp -implicitDefEqProofs only [ir29, op, ef, cl, sq, reduceIte, q1, q2, q3, q4, q5, q6, q7, q8, q9, S1, hall, ha]
  exact ⟨hx, k1, rfl, hap, hk⟩
def eSp (p : SK × Slm) : List T := eSl p.1 p.2
set_option maxHeartbeats 2000000 in
theorem lent15 (k : SK) (pl : List (SK × Slm)) (H : Heap) (hl : pl.length ≤ 8000000) (hf : ∀ s ∈ pl, s.2.fil.length ≤ 1073741823) : W env (.call 15 [.sl k (pl.map eSp)]) H (fun o H' => Ext H H' ∧ ∃ k', o = .val (.sl k' ((pl.map (·.2)).map (eSl .arg)))) := by
  refine W.fnI rfl rfl rfl ?_
  obtain ⟨l, hpl⟩ : ∃ l, l = pl.map (·.2) := ⟨_, rfl⟩
  have hll : l.length = pl.length := by rw [hpl]; simp
  rw [← hpl]
  rw [← hll] at hl
  simp -implicitDefEqProofs only [ir15, op, ef, cl, sq, reduceIte, q1, q2, q3, q4, q5, q6, q7, q8, q9, S1]
  refine W.loopV [(0, _)] (fun (i : Nat) R H' => At H' (fun H' => ∃ kk, R 3 = .sl kk ((l.take i).map (eSl .arg)) ∧ Ext H H' ∧ Apd H.length H' kk) ∧ R 4 = .int .i64 i ∧ i ≤ l.length) (fun i => l.length - i) 0 ⟨.i ⟨.nil, rfl, Ext.rfl', apd_nil _ _⟩, rfl, Nat.zero_le _⟩ ?_
  rintro i R H2 ⟨⟨kk, g3, hx2, hap⟩, g4, hi⟩
  have hall := all_map (enc := eSl .arg) (n := 4) (fun _ => rfl) (l.take i)
  by_cases hlt : i < l.length
  rotate_left
  · have hie : i = l.length := by omega
    subst hie
    rw [List.take_length] at g3 hall
    obtain ⟨sp, hsp⟩ : ∃ sp : Slm, sp = ⟨⟨#[115, 112, 97, 114, 101]⟩, 0, ⟨#[]⟩, []⟩ := ⟨_, rfl⟩
    obtain ⟨k', H3, ha, hap', hst'⟩ := app_ok (bytes := 64) (l.map (eSl .arg)) [eSl .arg sp] hap hx2.len (by simp) (roomT (by simp -implicitDefEqProofs only [List.length_map, List.length_cons, List.length_nil]; omega))
    have ha2 : appT H2 64 kk (l.map (eSl .arg)) [[.str ⟨#[115, 112, 97, 114, 101]⟩, .int .u64 0, .str ⟨#[]⟩, .sl .arg []]] = some (.sl k' ((l ++ [sp]).map (eSl .arg)), H3) := by
      have e1 : [[T.str ⟨#[115, 112, 97, 114, 101]⟩, T.int .u64 0, T.str ⟨#[]⟩, T.sl .arg []]] = [eSl .arg sp] := by rw [hsp]; rfl
      rw [e1, ha, List.map_append]; rfl
    have hall2 := all_map (enc := eSl .arg) (n := 4) (fun _ => rfl) (l ++ [sp])
    have hle : l.length ≤ (l ++ [sp]).length := by simp
    have hcut : (((l ++ [sp]).map (eSl .arg)).take l.length).drop 0 = l.map (eSl .arg) := by rw [List.drop_zero, ← List.map_take, List.take_left]
    simp -implicitDefEqProofs only [mkR_nil, mkR_cons, op, ef, cl, sq, reduceIte, q1, q2, q3, q4, q5, q6, q7, q8, q9, S1, g3, g4, List.length_map, ← hll, hlt, hall, ha2, natOf_nat, Nat.zero_le, hle, hall2, hcut, and_self]
    exact ⟨hst'.ext H (Nat.le_refl _) hx2, _, rfl⟩
  obtain ⟨⟨ks, s⟩, hps⟩ := getP (l := pl) (i := i) (by omega)
  have hs : l[i]? = some s := by rw [hpl, List.getElem?_map, hps]; rfl
  have is : iadT 4 i (.sl k (pl.map eSp)) = some (.iptr (eSl ks s)) := iadX (e := eSp) (n := 4) (fun _ => rfl) (by decide) (k := k) hps
  have wsi := wrap_succ (show i < 9223372036854775807 by omega)
  have hsf := hf _ (List.mem_of_getElem? hps)
  simp only at hsf
  have f3 : fadT 3 (.iptr (eSl ks s)) = some (.iptr [.sl ks (s.fil.map eB)]) := rfl
  have f0 : fadT 0 (.iptr (eSl ks s)) = some (.iptr (eSl ks s)) := rfl
  have f1 : fadT 1 (.iptr (eSl ks s)) = some (.iptr [.int .u64 s.id, .str s.val, .sl ks (s.fil.map eB)]) := rfl
  have f2 : fadT 2 (.iptr (eSl ks s)) = some (.iptr [.str s.val, .sl ks (s.fil.map eB)]) := rfl
  have l0 : ∀ Hx, ldc Hx 1 (.iptr (eSl ks s)) = some [.str s.key] := fun _ => rfl
  simp -implicitDefEqProofs only [mkR_nil, mkR_cons, op, ef, cl, sq, reduceIte, q1, q2, q3, q4, q5, q6, q7, q8, q9, S1, g4, List.length_map, ← hll, hlt, natOf_nat, is, f3, ldc_iptr]
  refine callB_of _ _ _ _ _ _ _ _ (own29 ks s.fil _ (by omega)) ?_
  rintro u H3 ⟨hx3, ko, hu, hap3, hko⟩
  cases hu
  have hx3 : Ext H2 H3 := hx3
  have hallB := all_map (enc := eB) (n := 1) (fun _ => rfl) s.fil
  obtain ⟨k4, H4, ha4, hap4, hst4⟩ := app_ok (bytes := 1) (s.fil.map eB) [eB 165] hap3 hx3.len (by simp) (roomT (by simp -implicitDefEqProofs only [List.length_map, List.length_cons, List.length_nil]; omega))
  have ha4' : appT H3 1 ko (s.fil.map eB) [[.int .u8 165]] = some (.sl k4 ((s.fil ++ [165]).map eB), H4) := by
    have e1 : [[T.int .u8 165]] = [eB 165] := rfl
    rw [e1, ha4, List.map_append]; rfl
  have hx4 : Ext H2 H4 := hst4.ext H2 (Nat.le_refl _) hx3
  have hallB2 := all_map (enc := eB) (n := 1) (fun _ => rfl) (s.fil ++ [165])
  have hleB : s.fil.length ≤ (s.fil ++ [165]).length := by simp
  have hcutB : (((s.fil ++ [165]).map eB).take s.fil.length).drop 0 = s.fil.map eB := by rw [List.drop_zero, ← List.map_take, List.take_left]
  obtain ⟨k', H5, ha, hap', hst'⟩ := app_ok (bytes := 64) ((l.take i).map (eSl .arg)) [eSl .arg s] (hap.ext hx4) (Nat.le_trans hx2.len hx4.len) (by simp) (roomT (by simp -implicitDefEqProofs only [List.length_map, List.length_take, List.length_cons, List.length_nil]; omega))
  have ha2 : appT H4 64 kk ((l.take i).map (eSl .arg)) [[.str s.key, .int .u64 s.id, .str s.val, .sl .arg (s.fil.map eB)]] = some (.sl k' ((l.take (i + 1)).map (eSl .arg)), H5) := by
    rw [take_snoc hs, List.map_append]; exact ha
  simp -implicitDefEqProofs only [op, ef, cl, sq, reduceIte, q1, q2, q3, q4, q5, q6, q7, q8, q9, S1, g3, g4, natOf_nat, is, f0, f1, f2, f3, l0, ldc_iptr, List.length_map, hallB, ha4', Nat.zero_le, hleB, hallB2, hcutB, and_self, hall, ha2, wsi]
  exact ⟨i + 1, by omega, .i ⟨k', rfl, hst'.ext H (Nat.le_refl _) (hx2.trans hx4), hap'⟩, rfl, hlt⟩
theorem rep_snoc {α : Type} (n : Nat) (x : α) : List.replicate (n + 1) x = List.replicate n x ++ [x] := by
  exact List.replicate_succ'
set_option maxHeartbeats 2000000 in
theorem refuses5 (k : SK) (ks : List ByteArray) (k2 : SK) (l : List (SK × Slm)) (n : Int) (hl : l.length ≤ 8000000) (hf : ∀ s ∈ l, s.2.fil.length ≤ 1073741823) (H : Heap) :
    W env (.call 5 [.sl k (ks.map eS), .sl k2 (l.map eSp), .int .i64 n]) H (fun o _ => o = .val (.bool true)) := by
  refine W.fnI rfl rfl rfl ?_
  simp -implicitDefEqProofs only [ir5, op, ef, cl, sq, reduceIte, q1, q2, q3, q4, q5, q6, q7, q8, q9, S1]
  refine callB_of _ _ _ _ _ _ _ _ (alive10 _) ?_
  rintro u H1 ⟨hx1, hu⟩
  cases hu
  simp -implicitDefEqProofs only [op, ef, cl, sq, reduceIte, q1, q2, q3, q4, q5, q6, q7, q8, q9, S1]
  refine callB_of _ _ _ _ _ _ _ _ (newA _) ?_
  rintro u H2 ⟨hx2, b, F, hu, hat, hF⟩
  cases hu
  obtain ⟨H3, hH3⟩ : ∃ H3, H3 = H2 ++ [B.cells [T.int .i64 8, T.int .i64 2]] := ⟨_, rfl⟩
  have c3 : H3[H2.length]? = some (.cells [T.int .i64 8, T.int .i64 2]) := by rw [hH3]; exact g_tail rfl
  obtain ⟨p1, hp1⟩ : ∃ p : Bool, p = (IntKind.i64.wrap ((BitVec.ofInt IntKind.i64.bits n &&& BitVec.ofInt IntKind.i64.bits 1).toNat : Nat) == 1) := ⟨_, rfl⟩
  obtain ⟨p2, hp2⟩ : ∃ p : Bool, p = (IntKind.i64.wrap ((BitVec.ofInt IntKind.i64.bits n &&& BitVec.ofInt IntKind.i64.bits 3).toNat : Nat) == 2) := ⟨_, rfl⟩
  have sh0 : shOk 8 2 = true := rfl
  have sh1 : shOk 0 1 = false := rfl
  have hg0 : goodP [] = false := rfl
  simp -implicitDefEqProofs only [op, ef, cl, sq, reduceIte, q1, q2, q3, q4, q5, q6, q7, q8, q9, S1, S2]
  rw [← hH3, ← hp1]
  refine condC_cut [(0, _), (1, _), (2, _), (7, _), (8, _)] (fun R' H' => At H' (fun H' => Ext H3 H' ∧ ∃ k9 os, R' 9 = .sl k9 (os.map eSt) ∧ goodP os = false ∧ os.length ≤ 65)) ?_ ?_
  · cases p1
    · simp -implicitDefEqProofs only [op, ef, cl, sq, reduceIte, q1, q2, q3, q4, q5, q6, q7, q8, q9, S1, normO_n]
      exact .i ⟨Ext.rfl', .nil, [], rfl, rfl, by decide⟩
    simp -implicitDefEqProofs only [op, ef, cl, sq, reduceIte, q1, q2, q3, q4, q5, q6, q7, q8, q9, S1]
    refine W.loopV [(7, _)] (fun (i : Nat) R H' => At H' (fun H' => ∃ k9, R 9 = .sl k9 ((List.replicate i (some b.s)).map eSt) ∧ Ext H3 H' ∧ Apd H3.length H' k9) ∧ R 10 = .int .i64 i ∧ i ≤ 65) (fun i => 65 - i) 0 ⟨.i ⟨.nil, rfl, Ext.rfl', apd_nil _ _⟩, rfl, by omega⟩ ?_
    rintro i R H4 ⟨⟨k9, g9, hx4, hap⟩, g10, hi⟩
    by_cases hlt : i < 65
    rotate_left
    · have hie : i = 65 := by omega
      simp -implicitDefEqProofs only [mkR_nil, mkR_cons, op, ef, cl, sq, reduceIte, q1, q2, q3, q4, q5, q6, q7, q8, q9, S1, g9, g10, hlt, normO_n]
      refine .i ⟨hx4, k9, _, rfl, ?_, by rw [List.length_replicate]; exact hi⟩
      have : ¬ (List.replicate i (some b.s)).length ≤ 64 := by rw [List.length_replicate]; omega
      unfold goodP; rw [decide_eq_false this, Bool.and_false, Bool.false_and]
    have wsi := wrap_succ (show i < 9223372036854775807 by omega)
    have hall := all_map (enc := eSt) (n := 1) (fun _ => rfl) (List.replicate i (some b.s))
    obtain ⟨k', H5, ha, hap', hst'⟩ := app_ok (bytes := 8) ((List.replicate i (some b.s)).map eSt) [eSt (some b.s)] hap hx4.len (by simp) (roomT (by simp -implicitDefEqProofs only [List.length_map, List.length_replicate, List.length_cons, List.length_nil]; omega))
    have ha2 : appT H4 8 k9 ((List.replicate i (some b.s)).map eSt) [[.ptr b.s 0]] = some (.sl k' ((List.replicate (i + 1) (some b.s)).map eSt), H5) := by
      rw [rep_snoc, List.map_append]; exact ha
    simp -implicitDefEqProofs only [mkR_nil, mkR_cons, op, ef, cl, sq, reduceIte, q1, q2, q3, q4, q5, q6, q7, q8, q9, S1, g9, g10, hlt, hall, ha2, wsi]
    exact ⟨i + 1, by omega, .i ⟨k', rfl, hst'.ext H3 (Nat.le_refl _) hx4, hap'⟩, rfl, hlt⟩
  rintro R4 H4 ⟨hx4, k9, os, g9, hg, hol⟩
  have hx4 : Ext H3 H4 := hx4
  have c4 := hx4.get c3
  simp -implicitDefEqProofs only [mkR_nil, mkR_cons, op, ef, cl, sq, reduceIte, q1, q2, q3, q4, q5, q6, q7, q8, q9, S1]
  rw [← hp2]
  refine condC_cut [(0, _), (1, _), (7, _), (8, _)] (fun R' H' => H' = H4 ∧ ∃ k9 os, R' 9 = .sl k9 (os.map eSt) ∧ goodP os = false ∧ os.length ≤ 65) ?_ ?_
  · cases p2
    · simp -implicitDefEqProofs only [mkR_nil, mkR_cons, op, ef, cl, sq, reduceIte, q1, q2, q3, q4, q5, q6, q7, q8, q9, S1, normO_n, g9]
      exact ⟨k9, os, rfl, hg, hol⟩
    · simp -implicitDefEqProofs only [mkR_nil, mkR_cons, op, ef, cl, sq, reduceIte, q1, q2, q3, q4, q5, q6, q7, q8, q9, S1, normO_n]
      exact ⟨.full, [some b.s, none], rfl, rfl, by simp⟩
  rintro R5 H4 ⟨rfl, k9, os, g9, hg, hol⟩
  simp -implicitDefEqProofs only [mkR_nil, mkR_cons, op, ef, cl, sq, reduceIte, q1, q2, q3, q4, q5, q6, q7, q8, q9, S1, g9, c4]
  refine callB_of _ _ _ _ _ _ _ _ (firstNo k9 .nil os _ 8 2 _ (by omega) (.inl hg)) ?_
  rintro u H6 ⟨hx6, hu⟩
  cases hu
  have hx6 : Ext H4 H6 := hx6
  have c6 := hx6.get c4
  simp -implicitDefEqProofs only [op, ef, cl, sq, reduceIte, q1, q2, q3, q4, q5, q6, q7, q8, q9, S1, g9, c4, c6]
  refine callB_of _ _ _ _ _ _ _ _ (lent15 k2 l _ hl hf) ?_
  rintro u H7 ⟨hx7, kl, hu⟩
  cases hu
  have hx7 : Ext H6 H7 := hx7
  have c7 := hx7.get c6
  simp -implicitDefEqProofs only [op, ef, cl, sq, reduceIte, q1, q2, q3, q4, q5, q6, q7, q8, q9, S1, g9, c6, c7]
  refine callB_of _ _ _ _ _ _ _ _ (secondNo k9 os _ 8 2 _ (by omega) (.inl hg)) ?_
  rintro u H8 ⟨hx8, hu⟩
  cases hu
  have hx8 : Ext H7 H8 := hx8
  have c8 := hx8.get c7
  simp -implicitDefEqProofs only [op, ef, cl, sq, reduceIte, q1, q2, q3, q4, q5, q6, q7, q8, q9, S1, g9, c7, c8]
  have h23 := fun t Hx => firstNo .full .nil [some b.s] t 0 1 Hx (by simp) (.inr rfl)
  simp -implicitDefEqProofs only [List.map_cons, List.map_nil, eSt] at h23
  refine callB_of _ _ _ _ _ _ _ _ (h23 _ _) ?_
  rintro u H9 ⟨hx9, hu⟩
  cases hu
  simp -implicitDefEqProofs only [op, ef, cl, sq, reduceIte, q1, q2, q3, q4, q5, q6, q7, q8, q9, S1]
  refine callB_of _ _ _ _ _ _ _ _ (of25 ⟨#[]⟩ 1 _ (by decide)) ?_
  rintro u H10 ⟨hu, rfl⟩
  have hu : u = .tup [.int .i64 0, .int .i64 0] := by
    cases hu
    have : ofN ⟨#[]⟩ 1 = 0 := Nat.mod_one _
    show T.tup [.int .i64 ((ofN ⟨#[]⟩ 1 : Nat) : Int), .int .i64 0] = _
    rw [this]; rfl
  subst hu
  have w0 : IntKind.i64.wrap (0 + 0) = 0 := rfl
  have z0 : ((0 : Nat) : Int) = 0 := rfl
  simp -implicitDefEqProofs only [op, ef, cl, sq, reduceIte, q1, q2, q3, q4, q5, q6, q7, q8, q9, S1, lenT, List.length_nil, z0, w0]
end Go.Proofs.YtmgldhlcapjdkaaGreat.St
end

section
namespace Go.Proofs.YtmgldhlcapjdkaaGreat
open Go.ChangeShapes Go.WideShapes Go.ChangeAt Go.RowKit
namespace Law
theorem own : ownKnob Tryz.prog.godebug = none := by kernel_rfl
theorem kids : Kids Tryz.prog (· < Tryz.prog.types.size) := kids_rows (by kernel_rfl) (by kernel_rfl)
noncomputable def hzB : Bool := (List.range Tryz.prog.types.size).all fun t => match Tryz.prog.underlying t with
  | some (.slice e) => decide (0 < Tryz.prog.cellsOf e)
  | _ => true
theorem hzB_ok : hzB = true := by kernel_rfl
theorem hz : ∀ t e, t < Tryz.prog.types.size → Tryz.prog.underlying t = some (.slice e) → 0 < Tryz.prog.cellsOf e := fun t e ht h => by
  have := (List.all_eq_true.1 hzB_ok) t (List.mem_range.2 ht)
  rw [h] at this
  simpa using this
mutual
theorem bulk_eq {H : Type} : ∀ d : DataW H, Go.Rmp.bulkW d = Rows.uptoBulk d
  | .lit l => by cases l <;> simp [Go.Rmp.bulkW, Rows.uptoBulk]
  | .nil => by simp [Go.Rmp.bulkW, Rows.uptoBulk]
  | .ptr d => by simp [Go.Rmp.bulkW, Rows.uptoBulk, bulk_eq d]
  | .slice elems spare => by simp [Go.Rmp.bulkW, Rows.uptoBulk, bulks_eq elems, bulks_eq spare]
  | .agg parts => by simp [Go.Rmp.bulkW, Rows.uptoBulk, bulks_eq parts]
  | .iface _ d => by simp [Go.Rmp.bulkW, Rows.uptoBulk, bulk_eq d]
  | .map entries => by simp [Go.Rmp.bulkW, Rows.uptoBulk, bulkE_eq entries]
  | .held _ => by simp [Go.Rmp.bulkW, Rows.uptoBulk]
theorem bulks_eq {H : Type} : ∀ l : List (DataW H), Go.Rmp.bulkAllW l = Rows.uptoBulkAll l
  | [] => by simp [Go.Rmp.bulkAllW, Rows.uptoBulkAll]
  | d :: r => by simp [Go.Rmp.bulkAllW, Rows.uptoBulkAll, bulk_eq d, bulks_eq r]
theorem bulkE_eq {H : Type} : ∀ l : List (Lit × DataW H), Go.Rmp.bulkEntriesW l = Rows.uptoBulkEntries l
  | [] => by simp [Go.Rmp.bulkEntriesW, Rows.uptoBulkEntries]
  | x :: r => by simp [Go.Rmp.bulkEntriesW, Rows.uptoBulkEntries, bulkEn_eq x, bulkE_eq r]
theorem bulkEn_eq {H : Type} : ∀ x : Lit × DataW H, Go.Rmp.bulkEntryW x = Rows.uptoBulkEntry x
  | (l, d) => by cases l <;> simp [Go.Rmp.bulkEntryW, Rows.uptoBulkEntry, bulk_eq d]
end
theorem bulk_ok {H : Type} {ds : List (DataW H)} (h : Rows.uptoSmall H ds = true) : Go.Rmp.bulkAllW ds ≤ 1048576 := by
  rw [bulks_eq]; simpa [Rows.uptoSmall] using h
theorem hasS {B : Nat} {t : Go.Rmp.T} (h : Go.Rmp.HasSh B .str t) : ∃ s, t = .str s ∧ s.size ≤ B := by
  cases h with | str h hB => exact ⟨_, rfl, hB⟩
theorem hasI {B : Nat} {t : Go.Rmp.T} (h : Go.Rmp.HasSh B (.int .i64) t) : ∃ n : Int, t = .int .i64 n ∧ -9223372036854775808 ≤ n ∧ n < 9223372036854775808 := by
  cases h with | int h =>
    rename_i n
    exact ⟨n, rfl, by simp -implicitDefEqProofs only [Lit.wf, IntKind.min, IntKind.max, IntKind.signed, IntKind.bits] at h; simp at h; omega⟩
theorem hasU {B : Nat} {t : Go.Rmp.T} (h : Go.Rmp.HasSh B (.int .u64) t) : ∃ n : Nat, t = .int .u64 n ∧ n < 18446744073709551616 := by
  cases h with | int h =>
    rename_i n
    simp -implicitDefEqProofs only [Lit.wf, IntKind.min, IntKind.max, IntKind.signed, IntKind.bits] at h
    simp at h
    exact ⟨n.toNat, by congr 1; omega, by omega⟩
theorem hasB8 {B : Nat} {t : Go.Rmp.T} (h : Go.Rmp.HasSh B (.int .u8) t) : ∃ n : Nat, t = .int .u8 n ∧ n < 256 := by
  cases h with | int h =>
    rename_i n
    simp -implicitDefEqProofs only [Lit.wf, IntKind.min, IntKind.max, IntKind.signed, IntKind.bits] at h
    simp at h
    exact ⟨n.toNat, by congr 1; omega, by omega⟩
end Law
namespace St
open Go.Rmp
theorem map_of {α : Type} {P : α → Prop} (enc : α → List T) (es : List (List T)) (h : ∀ c ∈ es, ∃ x, c = enc x ∧ P x) : ∃ l : List α, es = l.map enc ∧ ∀ x ∈ l, P x := by
  induction es with
  | nil => exact ⟨[], rfl, by simp⟩
  | cons c es ih =>
    obtain ⟨l, rfl, hl⟩ := ih (fun c hc => h c (List.mem_cons_of_mem _ hc))
    obtain ⟨x, rfl, hx⟩ := h _ List.mem_cons_self
    exact ⟨x :: l, rfl, fun y hy => by rcases List.mem_cons.1 hy with rfl | hy; exact hx; exact hl y hy⟩
theorem hasSs {B : Nat} {t : T} (h : HasSh B (.sl [.str]) t) : ∃ k l, t = .sl k (List.map eS l) ∧ KOk k l ∧ l.length ≤ B ∧ ∀ x ∈ l, x.size ≤ B := by
  cases h with
  | nil => exact ⟨.nil, [], rfl, fun _ => rfl, Nat.zero_le _, by simp⟩
  | sl hl hB h0 h =>
    rename_i es
    obtain ⟨l, rfl, hP⟩ := map_of (P := fun s : ByteArray => s.size ≤ B) eS es fun c hc => by
      have hc1 := h0 c hc
      match c, hc1 with
      | [a], _ => obtain ⟨s, rfl, hs⟩ := Law.hasS (h _ hc 0 .str a rfl rfl); exact ⟨s, rfl, hs⟩
    exact ⟨.arg, l, rfl, fun h => (by cases h), by simpa using hB, hP⟩
theorem hasB8s {B : Nat} {t : T} (h : HasSh B (.sl [.int .u8]) t) : ∃ k l, t = .sl k (List.map eB l) ∧ KOk k l ∧ l.length ≤ B ∧ Bytes l := by
  cases h with
  | nil => exact ⟨.nil, [], rfl, fun _ => rfl, Nat.zero_le _, fun x hx => by simp at hx⟩
  | sl hl hB h0 h =>
    rename_i es
    obtain ⟨l, rfl, hP⟩ := map_of (P := fun s : Nat => s < 256) eB es fun c hc => by
      have hc1 := h0 c hc
      match c, hc1 with
      | [a], _ => obtain ⟨s, rfl, hs⟩ := Law.hasB8 (h _ hc 0 (.int .u8) a rfl rfl); exact ⟨s, rfl, hs⟩
    exact ⟨.arg, l, rfl, fun h => (by cases h), by simpa using hB, hP⟩
theorem hasSls {B : Nat} {t : T} (h : HasSh B (.sl [.str, .int .u64, .str, .sl [.int .u8]]) t) : ∃ (k : SK) (l : List (SK × Slm)), t = .sl k (l.map (fun p => eSl p.1 p.2)) ∧ KOk k l ∧ l.length ≤ B ∧ ∀ p ∈ l, KOk p.1 p.2.fil ∧ p.2.fil.length ≤ B ∧ Bytes p.2.fil ∧ p.2.key.size ≤ B ∧ p.2.val.size ≤ B := by
  cases h with
  | nil => exact ⟨.nil, [], rfl, fun _ => rfl, Nat.zero_le _, by simp⟩
  | sl hl hB h0 h =>
    rename_i es
    obtain ⟨l, rfl, hP⟩ := map_of (P := fun p : SK × Slm => KOk p.1 p.2.fil ∧ p.2.fil.length ≤ B ∧ Bytes p.2.fil ∧ p.2.key.size ≤ B ∧ p.2.val.size ≤ B) (fun p => eSl p.1 p.2) es fun c hc => by
      have hc1 := h0 c hc
      match c, hc1 with
      | [a, b, c, d], _ =>
        obtain ⟨s, rfl, hs⟩ := Law.hasS (h _ hc 0 .str a rfl rfl)
        obtain ⟨n, rfl, _⟩ := Law.hasU (h _ hc 1 (.int .u64) b rfl rfl)
        obtain ⟨s', rfl, hs'⟩ := Law.hasS (h _ hc 2 .str c rfl rfl)
        obtain ⟨k, l, rfl, hk, hl, hb⟩ := hasB8s (h _ hc 3 (.sl [.int .u8]) d rfl rfl)
        exact ⟨(k, ⟨s, n, s', l⟩), rfl, hk, hl, hb, hs, hs'⟩
    exact ⟨.arg, l, rfl, fun h => (by cases h), by simpa using hB, hP⟩
end St
end Go.Proofs.YtmgldhlcapjdkaaGreat
end

section
namespace Go.Proofs.YtmgldhlcapjdkaaGreat
open Go.ChangeShapes Go.WideShapes Go.ChangeAt Go.RowKit
namespace Law
theorem hybridRefuses_w (as' : List Go.Rmp.T) (hs : Go.Rmp.HasShs 1048576 [.sl [.str], .sl [.str, .int .u64, .str, .sl [.int .u8]], .int .i64] as') : Go.Rmp.W Ir.env (.call 5 as') [] (fun o _ => o = .val (.bool true)) := by
  cases hs with | cons h1 hs =>
  cases hs with | cons h2 hs =>
  cases hs with | cons h3 hs =>
  cases hs
  obtain ⟨k, ks, rfl, _, n1, n2⟩ := St.hasSs h1
  obtain ⟨k2, l, rfl, _, n3, n4⟩ := St.hasSls h2
  obtain ⟨n, rfl, _⟩ := hasI h3
  exact St.refuses5 k ks k2 l n (by omega) (fun p hp => by have := (n4 p hp).2.1; omega) []
theorem hybridRefuses_fn (H : Type) : ∀ ds : List (DataW H), ds.length = Tryz.f5.params.toList.length → Rows.hybridRefusesSpec.fn H ds = { results := [.lit (.bool true)], args := ds } := by
  have hn : Tryz.f5.params.toList.length = 3 := by kernel_rfl
  rw [hn]
  intro ds hds
  cases ds with | nil => simp at hds | cons d0 ds =>
  cases ds with | nil => simp at hds | cons d1 ds =>
  cases ds with | nil => simp at hds | cons d2 ds =>
  cases ds with | cons => simp at hds | nil =>
  rfl
set_option maxRecDepth 100000 in
theorem hybridRefuses_lifted (os : Os) (started : os.Started) (H : Type) (enc : TypeId × Value → H) (F : Stop.Interp) :
    ReturnsInHanded {} Tryz.checked os 5 .any ((Rows.OpenSpec.upto Rows.hybridRefusesSpec).pre6 enc Tryz.prog Tryz.f5 Rows.hybridRefusesUptoRow.domain false) (((Rows.OpenSpec.upto Rows.hybridRefusesSpec).at F).post enc Tryz.prog Tryz.f5 false true false false) := by
  refine returnsInHanded_of_cond (C := Tryz.checked) (s := Rows.OpenSpec.upto Rows.hybridRefusesSpec) (k := Rows.uptoSmall) rfl own started (by kernel_rfl) Tryz.func5
    (OpenSpec.witness (enc := enc) (C := Tryz.checked) (s := Rows.OpenSpec.upto Rows.hybridRefusesSpec) (k := Rows.uptoSmall) rfl false ⟨#[], #[.slice .none 0 0, .slice .none 0 0, .int .i64 0], []⟩ 8 (by kernel_rfl) (by kernel_rfl) (by kernel_rfl)
      (x := ([.nil, .nil, .lit (.int .i64 0)], [], [])) (by kernel_rfl) rfl (by kernel_rfl)) ?_
  intro W base args ds gs before hval hW _ hk _
  exact Go.Rmp.law_contract (s := Rows.hybridRefusesSpec) (shs := [.sl [.str], .sl [.str, .int .u64, .str, .sl [.int .u8]], .int .i64]) (B := 1048576) (tb := Tryz.f5.resultTypes[0]!) Ir.envOk kids hz (by kernel_rfl) (by intro t ht; exact of_decide_eq_true ((List.all_eq_true.1 (show Tryz.f5.params.toList.all (fun t => decide (t < Tryz.prog.types.size)) = true by kernel_rfl)) t ht)) (by kernel_rfl) (by kernel_rfl) rfl (hybridRefuses_fn H) hybridRefuses_w base args ds gs before hval hW (bulk_ok hk)
theorem hybridRefuses_over : Rows.hybridRefusesUptoRow.holds Tryz.pinned (Rows.OpenSpec.upto Rows.hybridRefusesSpec) :=
  OpenClaim.holds_of_cond 5 Tryz.f5 rfl rfl rfl rfl rfl rfl rfl ⟨rfl, rfl, rfl, rfl, rfl⟩ rfl rfl rfl rfl rfl (by kernel_rfl) Tryz.func5 (by kernel_rfl)
    (of_decide_eq_true (by kernel_rfl)) (by unfold Func.isWrapper; first | (rw [if_pos (by decide +kernel)]; kernel_rfl) | (rw [if_neg (by decide +kernel)]; exact ⟨rfl, rfl⟩))
    (fun os started H enc _ F => hybridRefuses_lifted os started H enc F)
theorem hybridRefuses_proved : Rows.HybridRefusesUptoSaid := hybridRefuses_over
end Law
end Go.Proofs.YtmgldhlcapjdkaaGreat
end
