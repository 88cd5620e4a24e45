/- Part of a proof of a law of this seat: the machine of plain values, its simulation, and the contracts of the functions that the law reaches. Conditions: none beyond the given row. -/
import Derived.Test.YtbkgokabcnogdaaM4
import Derived.Test.YtbkgokabcnogdaaRows
import Derived.WalkKit
import Derived.ProofKit
import Derived.OpenShut
import Derived.JoinedCond
import Derived.ChangeBears
set_option linter.unusedSimpArgs false
set_option linter.unusedVariables false
set_option linter.unnecessarySimpa false
set_option maxHeartbeats 4000000
/-! text StoreW -/
section
namespace Go.Proofs.Ytbkgokabcnogdaa.St
open Go.Rmp Go.Proofs.Ytbkgokabcnogdaa.Ir
set_option maxRecDepth 10000
/-- a version has the stamp of what is current just where it is not below the last -/
def Stm (s : Sto) : Prop := ∀ m h, mlook s.vs m = some h → (h.stamp = -1 ↔ ¬ (m.2 < lastOf s m.1))
theorem Stm.emp : Stm Sto.emp := fun m h hm => by simp [Sto.emp, mlook_nil] at hm
theorem Stm.put {s s' : Sto} {n : Nat} {ks : List ByteArray} {v : ByteArray} {now : Int} {fr : Bool} (hs : Stm s) (hp : PutV s s' n (pairsOf ks v) ks now fr) (ht : 0 ≤ now) : Stm s' := by
  have hl : ∀ k, lastOf s' k = lastOf s k := fun k => by simp [lastOf, hp.ls]
  intro m h hm
  rw [hl]
  by_cases hc : m.2 = n ∧ m.1 ∈ ks
  · obtain ⟨h1, h2⟩ := hc
    have hmem : (m.1, v) ∈ pairsOf ks v := List.mem_map.2 ⟨m.1, h2, rfl⟩
    have e : m = (m.1, n) := Prod.ext rfl h1
    cases hv : mlook s.vs (m.1, n) with
    | some x =>
      have := hp.old _ hmem x hv
      rw [e, this] at hm; cases hm
      exact hs m h (by rw [e]; exact hv)
    | none =>
      obtain ⟨kk, _, hnew⟩ := hp.new _ hmem hv
      rw [e, hnew] at hm; cases hm
      simp -implicitDefEqProofs only [h1]
      by_cases hlt : n < lastOf s m.1
      · simp [hlt]; omega
      · simp [hlt]
  · rw [hp.other m (if h1 : m.2 = n then .inr (by rw [pairsOf_keys]; exact fun h2 => hc ⟨h1, h2⟩) else .inl h1)] at hm
    exact hs m h hm
theorem com_on {s s' : Sto} {n : Nat} {now : Int} {D : List ByteArray} (hc : ComV s s' n now D) {k : ByteArray} (h1 : k ∈ D) (h2 : lastOf s k < n) : lastOf s' k = n := by simp [lastOf, hc.on k h1 h2]
theorem com_off {s s' : Sto} {n : Nat} {now : Int} {D : List ByteArray} (hc : ComV s s' n now D) {k : ByteArray} (h : ¬ (k ∈ D ∧ lastOf s k < n)) : lastOf s' k = lastOf s k := by simp [lastOf, hc.off k h]
theorem Stm.com {s s' : Sto} {n : Nat} {now : Int} {D : List ByteArray} (hs : Stm s) (hc : ComV s s' n now D) (ht : 0 ≤ now) : Stm s' := by
  intro m h hm
  obtain ⟨h1, h2⟩ := hc.vs.2 m
  cases hv : mlook s.vs m with
  | none => rw [h1 hv] at hm; cases hm
  | some x =>
    have hx := hs m x hv
    by_cases hS : (m.1 ∈ D ∧ lastOf s m.1 < n ∧ m.2 < n) ∧ x.stamp = -1
    · rw [(h2 x hv).1 hS] at hm; cases hm
      rw [com_on hc hS.1.1 hS.1.2.1]
      have e : (stamped x now).stamp = now := rfl
      have h3 := hS.1.2.2
      rw [e]
      constructor
      · intro h; omega
      · intro h; exact absurd h3 h
    · rw [(h2 x hv).2 hS] at hm; cases hm
      by_cases hd : m.1 ∈ D ∧ lastOf s m.1 < n
      · rw [com_on hc hd.1 hd.2]
        by_cases hlt : m.2 < n
        · have : h.stamp ≠ -1 := fun e => hS ⟨⟨hd.1, hd.2, hlt⟩, e⟩
          exact ⟨fun e => absurd e this, fun e => absurd hlt e⟩
        · have : ¬ (m.2 < lastOf s m.1) := by omega
          exact ⟨fun _ => hlt, fun _ => hx.2 this⟩
      · rw [com_off hc hd]; exact hx
theorem Stm.drop {s : Sto} (hi : SInv s) (hs : Stm s) (k : ByteArray) (n : Nat) : Stm (s.drop k n) := by
  intro m h hm
  simp -implicitDefEqProofs only [Sto.drop, mcut_look hi.nd] at hm
  split at hm
  · cases hm
  · exact hs m h hm
def l3 (s : Sto) : List T := [.int .u64 (lastOf s (keyT 0) : Nat), .int .u64 (lastOf s (keyT 1) : Nat), .int .u64 (lastOf s (keyT 2) : Nat)]
/-- the lasts, the first j of them with what is committed now -/
def f3 (s : Sto) (w j k : Nat) : Nat := if k < j ∧ (mlook s.vs (keyT k, w)).isSome = true then max (lastOf s (keyT k)) w else lastOf s (keyT k)
def u3 (s : Sto) (w j : Nat) : List T := [.int .u64 (f3 s w j 0 : Nat), .int .u64 (f3 s w j 1 : Nat), .int .u64 (f3 s w j 2 : Nat)]
theorem SH.set1 {H : Heap} {b : Bk} {s : Sto} {F : Nat → Prop} {L : Nat} {x : B} (h : SH H b s F) (hF : ¬ F L) : SH (H.set L x) b s F := by
  obtain ⟨im, pm, h⟩ := h
  exact ⟨im, pm, h.frm (G := fun c => c = L) ⟨by simp, fun c _ hne => List.getElem?_set_ne (fun e => hne e.symm)⟩ fun c hc _ e => hF (e ▸ hc)⟩
theorem u3_no {s : Sto} {w j : Nat} (h : mlook s.vs (keyT j, w) = none) : u3 s w (j + 1) = u3 s w j := by
  have key : ∀ k, f3 s w (j + 1) k = f3 s w j k := fun k => by
    unfold f3
    by_cases e : k = j
    · subst e; simp [h]
    · have : k < j + 1 ↔ k < j := by omega
      simp [this]
  simp -implicitDefEqProofs only [u3, key]
theorem f3_ne {s : Sto} {w j k : Nat} (h : k ≠ j) : f3 s w (j + 1) k = f3 s w j k := by
  unfold f3
  have : k < j + 1 ↔ k < j := by omega
  simp [this]
theorem f3_yes {s : Sto} {w j : Nat} (h : (mlook s.vs (keyT j, w)).isSome = true) : ((f3 s w (j + 1) j : Nat) : Int) = if (w : Int) > ((f3 s w j j : Nat) : Int) then (w : Int) else ((f3 s w j j : Nat) : Int) := by
  have e1 : f3 s w j j = lastOf s (keyT j) := if_neg (by simp)
  have e2 : f3 s w (j + 1) j = max (lastOf s (keyT j)) w := if_pos ⟨by omega, h⟩
  rw [e1, e2]
  split <;> omega
theorem u3_end {s s' : Sto} {w : Nat} {now : Int} (hi : SInv s) (hc : ComV s s' w now (s.pls w)) : u3 s w 3 = l3 s' := by
  have key : ∀ k, k < 3 → f3 s w 3 k = lastOf s' (keyT k) := fun k hk => by
    unfold f3
    by_cases h : (mlook s.vs (keyT k, w)).isSome = true
    · rw [if_pos ⟨hk, h⟩]
      have hm := (hi.plm w (keyT k)).2 h
      by_cases hlt : lastOf s (keyT k) < w
      · rw [com_on hc hm hlt]; omega
      · rw [com_off hc (fun h => hlt h.2)]; omega
    · rw [if_neg (fun hh => h hh.2), com_off hc]
      exact fun hh => h ((hi.plm w (keyT k)).1 hh.1)
  simp -implicitDefEqProofs only [u3, l3, key 0 (by decide), key 1 (by decide), key 2 (by decide)]
def blkOf : C → Nat → Option C
  | .block id a, n => if id = n then some a else blkOf a n
  | .seq a b, n => match blkOf a n with | some c => some c | .none => blkOf b n
  | .cond _ a b, n => match blkOf a n with | some c => some c | .none => blkOf b n
  | .loop a, n => blkOf a n
  | _, _ => .none
theorem last6 (a : C) (ha : blkOf ir3.body 6 = some (.loop a)) (b : Bk) (s : Sto) (F : Nat → Prop) (L : Nat) (R : Regs) (H : Heap) (Q : Out → Heap → Prop) (sh : SH H b s F) (hi : SInv s) (hL : H[L]? = some (.cells (l3 s))) (r3 : R 3 = .ptr b.s 0) (r4 : R 4 = .ptr L 0) (r21 : R 21 = .int .i64 0)
    (rest : ∀ R' H', SH H' b s F → H'[L]? = some (.cells (l3 s)) → R' 0 = R 0 → R' 3 = .ptr b.s 0 → R' 4 = .ptr L 0 → R' 5 = R 5 → Q (.ex (.exit 6) R') H') : W env (.code (.loop a) R) H Q := by
  simp [ir3, blkOf, sq] at ha
  subst ha
  refine W.loopE 6 (fun (j : Nat) R' H' => At H' (fun H' => SH H' b s F ∧ H'[L]? = some (.cells (l3 s))) ∧ R' 0 = R 0 ∧ R' 3 = .ptr b.s 0 ∧ R' 4 = .ptr L 0 ∧ R' 5 = R 5 ∧ R' 21 = .int .i64 j ∧ j ≤ 3) (fun j => 3 - j) 0
    (fun R' H' => At H' (fun H' => SH H' b s F ∧ H'[L]? = some (.cells (l3 s))) ∧ R' 0 = R 0 ∧ R' 3 = .ptr b.s 0 ∧ R' 4 = .ptr L 0 ∧ R' 5 = R 5) ⟨.i ⟨sh, hL⟩, rfl, r3, r4, rfl, r21, by omega⟩ ?_ (fun R' H' ⟨⟨h1, h2⟩, h3, h4, h5, h6⟩ => rest R' H' h1 h2 h3 h4 h5 h6)
  rintro j R1 H1 ⟨⟨sh1, hL1⟩, q0, q3, q4, q5, q21, hj⟩
  by_cases hj3 : j < 3
  · have wj := wrap_succ (show j < 9223372036854775807 by omega)
    have hc : j = 0 ∨ j = 1 ∨ j = 2 := by omega
    rcases hc with rfl | rfl | rfl
    all_goals
      simp -implicitDefEqProofs only [op, ef, cl, sq, reduceIte, Int.reduceLT, Int.reduceLE, Int.reduceBEq, Int.reduceBNe, Int.reduceEq, Nat.reduceAdd, Nat.reduceLeDiff, Nat.reduceLT, Nat.reduceEqDiff, S1, q0, q3, q4, q5, q21, hj3]
      refine callB_of _ _ _ _ _ _ _ _ (key13 _ (by omega) _) ?_
      rintro u H2 ⟨hu, rfl⟩
      cases hu
      simp -implicitDefEqProofs only [op, ef, cl, sq, reduceIte, Int.reduceLT, Int.reduceLE, Int.reduceBEq, Int.reduceBNe, Int.reduceEq, Nat.reduceAdd, Nat.reduceLeDiff, Nat.reduceLT, Nat.reduceEqDiff, S1, q0, q3, q4, q5, q21]
      refine callB_of _ _ _ _ _ _ _ _ (latest16 b s F (keyT _) _ sh1 hi) ?_
      rintro u H3 ⟨hx3, kk, _, hu⟩
      cases hu
      have hL3 := hx3.get hL1
      have lL3 := glt hL3
      have hne : ¬ (L = H3.length) := by omega
      simp -implicitDefEqProofs only [l3] at hL3
      have hxa : ∀ y : B, Ext H3 (H3 ++ [y]) := fun y => ⟨_, rfl⟩
      have sh3 := sh1.ext hx3
      simp -implicitDefEqProofs only [op, ef, cl, sq, reduceIte, Int.reduceLT, Int.reduceLE, Int.reduceBEq, Int.reduceBNe, Int.reduceEq, Nat.reduceAdd, Nat.reduceLeDiff, Nat.reduceLT, Nat.reduceEqDiff, S1, S2, eVer, Nat.reduceMul, q0, q3, q4, q5, q21, hL3, lL3, natOf_nat]
      refine callB_of _ _ _ _ _ _ _ _ (key13 _ (by omega) _) ?_
      rintro u H4 ⟨hu, rfl⟩
      cases hu
      simp -implicitDefEqProofs only [op, ef, cl, sq, reduceIte, Int.reduceLT, Int.reduceLE, Int.reduceBEq, Int.reduceBNe, Int.reduceEq, Nat.reduceAdd, Nat.reduceLeDiff, Nat.reduceLT, Nat.reduceEqDiff, S1, S2, hL3, lL3]
      refine callB_of _ _ _ _ _ _ _ _ (last17 b s F (keyT _) _ (sh3.ext (hxa _))) ?_
      rintro u H5 ⟨hu, rfl⟩
      cases hu
      simp -implicitDefEqProofs only [op, ef, cl, sq, reduceIte, Int.reduceLT, Int.reduceLE, Int.reduceBEq, Int.reduceBNe, Int.reduceEq, Nat.reduceAdd, Nat.reduceLeDiff, Nat.reduceLT, Nat.reduceEqDiff, S1, S2, hL3, lL3, q0, q3, q4, q5, q21, Nat.reduceMul, natOf_nat]
      refine callB_of _ _ _ _ _ _ _ _ (key13 _ (by omega) _) ?_
      rintro u H6 ⟨hu, rfl⟩
      cases hu
      simp -implicitDefEqProofs only [op, ef, cl, sq, reduceIte, Int.reduceLT, Int.reduceLE, Int.reduceBEq, Int.reduceBNe, Int.reduceEq, Nat.reduceAdd, Nat.reduceLeDiff, Nat.reduceLT, Nat.reduceEqDiff, S1, S2, hL3, lL3, q0, q3, q4, q5, q21, wj]
      have hLl : H3[L]? = some (.cells (l3 s)) := hL3
      first
        | exact ⟨1, by omega, .i ⟨sh3.ext (hxa _), (hxa _).get hLl⟩, rfl, by omega⟩
        | exact ⟨2, by omega, .i ⟨sh3.ext (hxa _), (hxa _).get hLl⟩, rfl, by omega⟩
        | exact ⟨3, by omega, .i ⟨sh3.ext (hxa _), (hxa _).get hLl⟩, rfl, by omega⟩
  · have hj3' : j = 3 := by omega
    subst hj3'
    simp -implicitDefEqProofs only [op, ef, cl, sq, reduceIte, Int.reduceLT, Int.reduceLE, Int.reduceBEq, Int.reduceBNe, Int.reduceEq, Nat.reduceAdd, Nat.reduceLeDiff, Nat.reduceLT, Nat.reduceEqDiff, S1, q0, q3, q4, q5, q21, hj3]
    exact .i ⟨sh1, hL1⟩
set_option maxHeartbeats 8000000 in
theorem greatest3 (k0 : SK) (l : List Raw) (H : Heap) (hr : ∀ r ∈ l, RawOk r) (hl : l.length ≤ 1048576) : W env (.call 3 [.sl k0 (l.map eR)]) H (fun o _ => o = .val (.bool true)) := by
  refine W.fnI rfl rfl rfl ?_
  simp -implicitDefEqProofs only [ir3, op, ef, cl, sq, reduceIte, Int.reduceLT, Int.reduceLE, Int.reduceBEq, Int.reduceBNe, Int.reduceEq, Nat.reduceAdd, Nat.reduceLeDiff, Nat.reduceLT, Nat.reduceEqDiff, S1]
  refine callB_of _ _ _ _ _ _ _ _ (new7 _) ?_
  rintro u H1 ⟨hx1, b, F, hu, sh1, hF1⟩
  cases hu
  simp -implicitDefEqProofs only [op, ef, cl, sq, reduceIte, Int.reduceLT, Int.reduceLE, Int.reduceBEq, Int.reduceBNe, Int.reduceEq, Nat.reduceAdd, Nat.reduceLeDiff, Nat.reduceLT, Nat.reduceEqDiff, S1]
  refine callB_of _ _ _ _ _ _ _ _ (known8 _) ?_
  rintro u H2 ⟨hu, hx2⟩
  have hx2 : Ext H1 H2 := hx2
  cases hu
  simp -implicitDefEqProofs only [op, ef, cl, sq, reduceIte, Int.reduceLT, Int.reduceLE, Int.reduceBEq, Int.reduceBNe, Int.reduceEq, Nat.reduceAdd, Nat.reduceLeDiff, Nat.reduceLT, Nat.reduceEqDiff, S1, eqRef, nilOf]
  refine W.loopI (fun (i : Nat) R H' => At H' (fun H' => ∃ s F, SH H' b s F ∧ SInv s ∧ Stm s ∧ s.n ≤ 3 * i ∧ H'[H2.length]? = some (.cells (l3 s)) ∧ ¬ F H2.length) ∧ R 0 = .sl k0 (l.map eR) ∧ R 3 = .ptr b.s 0 ∧ R 4 = .ptr H2.length 0 ∧ R 5 = .int .i64 i ∧ i ≤ 200) (fun i => 200 - i) 0 ⟨.i ⟨Sto.emp, F, (sh1.ext hx2).ext ⟨_, rfl⟩, SInv.emp, Stm.emp, Nat.le_refl _, g_tail rfl, fun h => by have := (hF1 _ h).2; have := hx2.len; omega⟩, rfl, rfl, rfl, rfl, by omega⟩ ?_
  rintro i R H3 ⟨⟨s, F, sh, hi, hst, hn, hL, hFL⟩, h0, h3, h4, h5, hi2⟩
  have lL := glt hL
  by_cases hlen : i < l.length
  rotate_left
  · simp -implicitDefEqProofs only [op, ef, cl, sq, reduceIte, Int.reduceLT, Int.reduceLE, Int.reduceBEq, Int.reduceBNe, Int.reduceEq, Nat.reduceAdd, Nat.reduceLeDiff, Nat.reduceLT, Nat.reduceEqDiff, S1, h0, h3, h4, h5, List.length_map, hlen]
  by_cases h200 : i < 200
  rotate_left
  · simp -implicitDefEqProofs only [op, ef, cl, sq, reduceIte, Int.reduceLT, Int.reduceLE, Int.reduceBEq, Int.reduceBNe, Int.reduceEq, Nat.reduceAdd, Nat.reduceLeDiff, Nat.reduceLT, Nat.reduceEqDiff, S1, h0, h3, h4, h5, List.length_map, hlen, h200]
  obtain ⟨r, hrg⟩ := getP hlen
  have hro := hr r (List.mem_of_getElem? hrg)
  have hia := iadX (e := eR) (n := 4) (fun _ => rfl) (by decide) (k := k0) hrg
  have ws := wrap_succ (show i < 9223372036854775807 by omega)
  have tko : TickOk (i : Int) := ⟨by omega, by omega⟩
  simp -implicitDefEqProofs only [op, ef, cl, sq, reduceIte, Int.reduceLT, Int.reduceLE, Int.reduceBEq, Int.reduceBNe, Int.reduceEq, Nat.reduceAdd, Nat.reduceLeDiff, Nat.reduceLT, Nat.reduceEqDiff, S1, S2, h0, h3, h4, h5, List.length_map, hlen, h200, natOf_nat, hia, eR]
  refine callB_of _ _ _ _ _ _ _ _ (id9 r.write hro.2.1 _) ?_
  rintro u H4 ⟨hu, rfl⟩
  cases hu
  obtain ⟨w, hw⟩ : ∃ w, w = idOf r.write := ⟨_, rfl⟩
  have hwg := idOf_ge r.write
  rw [← hw] at hwg
  rw [← hw]
  have hx4 : Ext H3 (H3 ++ [B.cells [T.int .i64 r.kind, .int .i64 r.write, .int .i64 r.mask, .str r.value]]) := ⟨_, rfl⟩
  have shx := sh.ext hx4
  have hLx := hx4.get hL
  have hRx : (H3 ++ [B.cells [T.int .i64 r.kind, .int .i64 r.write, .int .i64 r.mask, .str r.value]])[H3.length]? = some (.cells [T.int .i64 r.kind, .int .i64 r.write, .int .i64 r.mask, .str r.value]) := g_tail rfl
  generalize H3 ++ [B.cells [T.int .i64 r.kind, .int .i64 r.write, .int .i64 r.mask, .str r.value]] = H4 at *
  have lLx := glt hLx
  simp -implicitDefEqProofs only [op, ef, cl, sq, reduceIte, Int.reduceLT, Int.reduceLE, Int.reduceBEq, Int.reduceBNe, Int.reduceEq, Nat.reduceAdd, Nat.reduceLeDiff, Nat.reduceLT, Nat.reduceEqDiff, S1, hRx]
  refine callB_of _ _ _ _ _ _ _ _ (rest10 r.kind 3 (by decide) hro.1 _) ?_
  rintro u H5 ⟨hu, rfl⟩
  cases hu
  obtain ⟨kd, hkd⟩ : ∃ kd, kd = restI r.kind 3 := ⟨_, rfl⟩
  have hkl := restI_le r.kind 3
  rw [← hkd] at hkl
  rw [← hkd]
  have hcase : kd = 0 ∨ kd = 1 ∨ kd = 2 ∨ kd = 3 := by omega
  rcases hcase with rfl | rfl | rfl | rfl
  · simp -implicitDefEqProofs only [op, ef, cl, sq, reduceIte, Int.reduceLT, Int.reduceLE, Int.reduceBEq, Int.reduceBNe, Int.reduceEq, Nat.reduceAdd, Nat.reduceLeDiff, Nat.reduceLT, Nat.reduceEqDiff, S1, h0, h3, h4, h5, hRx]
    refine callB_of _ _ _ _ _ _ _ _ (put11 b s F r i H5 shx hi (by omega) hro tko) ?_
    rintro u H6 ⟨s2, F2, fr, hu, sh2, hi2', hpv, hn2, hfr, hF2⟩
    cases hu
    have e3 : l3 s2 = l3 s := by simp [l3, lastOf, hpv.ls]
    have hn3 : s2.n ≤ 3 * (i + 1) := by
      have := setOf_len r.mask
      simp -implicitDefEqProofs only [pairsOf, List.length_map] at hn2; omega
    have hst2 := hst.put hpv (by omega)
    have hL2 : H6[H2.length]? = some (.cells (l3 s2)) := by rw [e3]; exact hfr.get hLx hFL
    have hFL2 : ¬ F2 H2.length := fun h => (hF2 _ h).elim hFL fun h => by omega
    simp -implicitDefEqProofs only [op, ef, cl, sq, reduceIte, Int.reduceLT, Int.reduceLE, Int.reduceBEq, Int.reduceBNe, Int.reduceEq, Nat.reduceAdd, Nat.reduceLeDiff, Nat.reduceLT, Nat.reduceEqDiff, S1, h0, h3, h4, h5, hRx]
    refine last6 _ rfl b s2 F2 H2.length _ _ _ sh2 hi2' hL2 (by simp -implicitDefEqProofs only [op, ef, cl, sq, reduceIte, Int.reduceLT, Int.reduceLE, Int.reduceBEq, Int.reduceBNe, Int.reduceEq, Nat.reduceAdd, Nat.reduceLeDiff, Nat.reduceLT, Nat.reduceEqDiff, S1, h0, h3, h4, h5]) (by simp -implicitDefEqProofs only [op, ef, cl, sq, reduceIte, Int.reduceLT, Int.reduceLE, Int.reduceBEq, Int.reduceBNe, Int.reduceEq, Nat.reduceAdd, Nat.reduceLeDiff, Nat.reduceLT, Nat.reduceEqDiff, S1, h0, h3, h4, h5]) rfl ?_
    rintro R' H' shf hLf e0 e3 e4 e5
    simp -implicitDefEqProofs only [op, ef, cl, sq, reduceIte, Int.reduceLT, Int.reduceLE, Int.reduceBEq, Int.reduceBNe, Int.reduceEq, Nat.reduceAdd, Nat.reduceLeDiff, Nat.reduceLT, Nat.reduceEqDiff, S1, h0, h3, h4, h5] at e0 e5
    simp -implicitDefEqProofs only [op, ef, cl, sq, reduceIte, Int.reduceLT, Int.reduceLE, Int.reduceBEq, Int.reduceBNe, Int.reduceEq, Nat.reduceAdd, Nat.reduceLeDiff, Nat.reduceLT, Nat.reduceEqDiff, S1, e0, e3, e4, e5, ws]
    exact ⟨i + 1, by omega, .i ⟨s2, F2, shf, hi2', hst2, hn3, hLf, hFL2⟩, rfl, by omega⟩
  · simp -implicitDefEqProofs only [op, ef, cl, sq, reduceIte, Int.reduceLT, Int.reduceLE, Int.reduceBEq, Int.reduceBNe, Int.reduceEq, Nat.reduceAdd, Nat.reduceLeDiff, Nat.reduceLT, Nat.reduceEqDiff, S1, h0, h3, h4, h5, hRx]
    refine callB_of _ _ _ _ _ _ _ _ (put11 b s F r i H5 shx hi (by omega) hro tko) ?_
    rintro u H6 ⟨s2, F2, fr, hu, sh2, hi2', hpv, hn2, hfr, hF2⟩
    cases hu
    have e3 : l3 s2 = l3 s := by simp [l3, lastOf, hpv.ls]
    have hn3 : s2.n ≤ 3 * (i + 1) := by
      have := setOf_len r.mask
      simp -implicitDefEqProofs only [pairsOf, List.length_map] at hn2; omega
    have hst2 := hst.put hpv (by omega)
    have hL2 : H6[H2.length]? = some (.cells (l3 s2)) := by rw [e3]; exact hfr.get hLx hFL
    have hFL2 : ¬ F2 H2.length := fun h => (hF2 _ h).elim hFL fun h => by omega
    simp -implicitDefEqProofs only [op, ef, cl, sq, reduceIte, Int.reduceLT, Int.reduceLE, Int.reduceBEq, Int.reduceBNe, Int.reduceEq, Nat.reduceAdd, Nat.reduceLeDiff, Nat.reduceLT, Nat.reduceEqDiff, S1, h0, h3, h4, h5, hRx]
    refine last6 _ rfl b s2 F2 H2.length _ _ _ sh2 hi2' hL2 (by simp -implicitDefEqProofs only [op, ef, cl, sq, reduceIte, Int.reduceLT, Int.reduceLE, Int.reduceBEq, Int.reduceBNe, Int.reduceEq, Nat.reduceAdd, Nat.reduceLeDiff, Nat.reduceLT, Nat.reduceEqDiff, S1, h0, h3, h4, h5]) (by simp -implicitDefEqProofs only [op, ef, cl, sq, reduceIte, Int.reduceLT, Int.reduceLE, Int.reduceBEq, Int.reduceBNe, Int.reduceEq, Nat.reduceAdd, Nat.reduceLeDiff, Nat.reduceLT, Nat.reduceEqDiff, S1, h0, h3, h4, h5]) rfl ?_
    rintro R' H' shf hLf e0 e3 e4 e5
    simp -implicitDefEqProofs only [op, ef, cl, sq, reduceIte, Int.reduceLT, Int.reduceLE, Int.reduceBEq, Int.reduceBNe, Int.reduceEq, Nat.reduceAdd, Nat.reduceLeDiff, Nat.reduceLT, Nat.reduceEqDiff, S1, h0, h3, h4, h5] at e0 e5
    simp -implicitDefEqProofs only [op, ef, cl, sq, reduceIte, Int.reduceLT, Int.reduceLE, Int.reduceBEq, Int.reduceBNe, Int.reduceEq, Nat.reduceAdd, Nat.reduceLeDiff, Nat.reduceLT, Nat.reduceEqDiff, S1, e0, e3, e4, e5, ws]
    exact ⟨i + 1, by omega, .i ⟨s2, F2, shf, hi2', hst2, hn3, hLf, hFL2⟩, rfl, by omega⟩
  · simp -implicitDefEqProofs only [op, ef, cl, sq, reduceIte, Int.reduceLT, Int.reduceLE, Int.reduceBEq, Int.reduceBNe, Int.reduceEq, Nat.reduceAdd, Nat.reduceLeDiff, Nat.reduceLT, Nat.reduceEqDiff, S1, h0, h3, h4, h5, hRx]
    refine W.loopE 3 (fun (j : Nat) R H' => At H' (fun H' => SH H' b s F ∧ H'[H2.length]? = some (.cells (u3 s w j))) ∧ R 0 = .sl k0 (l.map eR) ∧ R 3 = .ptr b.s 0 ∧ R 4 = .ptr H2.length 0 ∧ R 5 = .int .i64 i ∧ R 7 = .int .u64 w ∧ R 10 = .int .i64 j ∧ j ≤ 3) (fun j => 3 - j) 0
      (fun R H' => At H' (fun H' => SH H' b s F ∧ H'[H2.length]? = some (.cells (u3 s w 3))) ∧ R 0 = .sl k0 (l.map eR) ∧ R 3 = .ptr b.s 0 ∧ R 4 = .ptr H2.length 0 ∧ R 5 = .int .i64 i ∧ R 7 = .int .u64 w) ?_ ?_ ?_
    · refine ⟨.i ⟨shx, hLx⟩, ?_, ?_, ?_, ?_, ?_, ?_, by omega⟩
      all_goals (simp -implicitDefEqProofs only [op, ef, cl, sq, reduceIte, Int.reduceLT, Int.reduceLE, Int.reduceBEq, Int.reduceBNe, Int.reduceEq, Nat.reduceAdd, Nat.reduceLeDiff, Nat.reduceLT, Nat.reduceEqDiff, S1, h0, h3, h4, h5])
      all_goals rfl
    · rintro j R H6 ⟨⟨sh6, hL6⟩, q0, q3, q4, q5, q7, q10, hj⟩
      by_cases hj3 : j < 3
      · have wj := wrap_succ (show j < 9223372036854775807 by omega)
        have lL6 := glt hL6
        simp -implicitDefEqProofs only [op, ef, cl, sq, reduceIte, Int.reduceLT, Int.reduceLE, Int.reduceBEq, Int.reduceBNe, Int.reduceEq, Nat.reduceAdd, Nat.reduceLeDiff, Nat.reduceLT, Nat.reduceEqDiff, S1, q0, q3, q4, q5, q7, q10, hj3]
        refine callB_of _ _ _ _ _ _ _ _ (key13 j (by omega) _) ?_
        rintro u H7 ⟨hu, rfl⟩
        cases hu
        simp -implicitDefEqProofs only [op, ef, cl, sq, reduceIte, Int.reduceLT, Int.reduceLE, Int.reduceBEq, Int.reduceBNe, Int.reduceEq, Nat.reduceAdd, Nat.reduceLeDiff, Nat.reduceLT, Nat.reduceEqDiff, S1, q0, q3, q4, q5, q7, q10]
        refine callB_of _ _ _ _ _ _ _ _ (byID12 b s F (keyT j) w _ sh6 hi) ?_
        rintro u H8 ⟨hx8, ⟨hno, hu⟩ | ⟨h, kk, hsome, _, hu⟩⟩
        · cases hu
          have hL8 := hx8.get hL6
          simp -implicitDefEqProofs only [op, ef, cl, sq, reduceIte, Int.reduceLT, Int.reduceLE, Int.reduceBEq, Int.reduceBNe, Int.reduceEq, Nat.reduceAdd, Nat.reduceLeDiff, Nat.reduceLT, Nat.reduceEqDiff, S1, S2, q0, q3, q4, q5, q7, q10, wj]
          refine ⟨j + 1, by omega, .i ⟨(sh6.ext hx8).ext ⟨_, rfl⟩, ?_⟩, rfl, by omega⟩
          rw [u3_no hno]
          exact (Ext.get ⟨_, rfl⟩ hL8)
        · cases hu
          have hL8 := hx8.get hL6
          have lL8 := glt hL8
          have hne8 : ¬ (H2.length = H8.length) := by omega
          have sh8 := sh6.ext hx8
          have hs3 : (mlook s.vs (keyT j, w)).isSome = true := by rw [hsome]; rfl
          have hc : j = 0 ∨ j = 1 ∨ j = 2 := by omega
          rcases hc with rfl | rfl | rfl
          all_goals
            simp -implicitDefEqProofs only [u3] at hL8
            simp -implicitDefEqProofs only [op, ef, cl, sq, reduceIte, Int.reduceLT, Int.reduceLE, Int.reduceBEq, Int.reduceBNe, Int.reduceEq, Nat.reduceAdd, Nat.reduceLeDiff, Nat.reduceLT, Nat.reduceEqDiff, S1, S2, eVer, Nat.reduceMul, q0, q3, q4, q5, q7, q10, wj, hL8, lL8, natOf_nat]
          · rw [← f3_yes hs3, ← f3_ne (j := 0) (k := 1) (by decide), ← f3_ne (j := 0) (k := 2) (by decide)]
            exact ⟨1, by omega, .i ⟨(sh8.set1 hFL).ext ⟨_, rfl⟩, Ext.get ⟨_, rfl⟩ (List.getElem?_set_self lL8)⟩, rfl, by omega⟩
          · rw [← f3_yes hs3, ← f3_ne (j := 1) (k := 0) (by decide), ← f3_ne (j := 1) (k := 2) (by decide)]
            exact ⟨2, by omega, .i ⟨(sh8.set1 hFL).ext ⟨_, rfl⟩, Ext.get ⟨_, rfl⟩ (List.getElem?_set_self lL8)⟩, rfl, by omega⟩
          · rw [← f3_yes hs3, ← f3_ne (j := 2) (k := 0) (by decide), ← f3_ne (j := 2) (k := 1) (by decide)]
            exact ⟨3, by omega, .i ⟨(sh8.set1 hFL).ext ⟨_, rfl⟩, Ext.get ⟨_, rfl⟩ (List.getElem?_set_self lL8)⟩, rfl, by omega⟩
      · have hj3' : j = 3 := by omega
        subst hj3'
        simp -implicitDefEqProofs only [op, ef, cl, sq, reduceIte, Int.reduceLT, Int.reduceLE, Int.reduceBEq, Int.reduceBNe, Int.reduceEq, Nat.reduceAdd, Nat.reduceLeDiff, Nat.reduceLT, Nat.reduceEqDiff, S1, q0, q3, q4, q5, q7, q10, hj3]
        exact .i ⟨sh6, hL6⟩
    · rintro R H6 ⟨⟨sh6, hL6⟩, q0, q3, q4, q5, q7⟩
      simp -implicitDefEqProofs only [op, ef, cl, sq, reduceIte, Int.reduceLT, Int.reduceLE, Int.reduceBEq, Int.reduceBNe, Int.reduceEq, Nat.reduceAdd, Nat.reduceLeDiff, Nat.reduceLT, Nat.reduceEqDiff, S1, q0, q3, q4, q5, q7]
      refine callB_of _ _ _ _ _ _ _ _ (commit14 b s F w i _ sh6 hi (by omega) hwg.1 tko) ?_
      rintro u H7 ⟨s2, hu, sh2, hi2', hcv, hn2, _, _, hfr⟩
      cases hu
      have hst2 := hst.com hcv (by omega)
      have hn3 : s2.n ≤ 3 * (i + 1) := by omega
      have hL2 : H7[H2.length]? = some (.cells (l3 s2)) := by rw [← u3_end hi hcv]; exact hfr.get hL6 hFL
      simp -implicitDefEqProofs only [op, ef, cl, sq, reduceIte, Int.reduceLT, Int.reduceLE, Int.reduceBEq, Int.reduceBNe, Int.reduceEq, Nat.reduceAdd, Nat.reduceLeDiff, Nat.reduceLT, Nat.reduceEqDiff, S1, q0, q3, q4, q5, q7]
      refine last6 _ rfl b s2 F H2.length _ _ _ sh2 hi2' hL2 (by simp -implicitDefEqProofs only [op, ef, cl, sq, reduceIte, Int.reduceLT, Int.reduceLE, Int.reduceBEq, Int.reduceBNe, Int.reduceEq, Nat.reduceAdd, Nat.reduceLeDiff, Nat.reduceLT, Nat.reduceEqDiff, S1, q3]) (by simp -implicitDefEqProofs only [op, ef, cl, sq, reduceIte, Int.reduceLT, Int.reduceLE, Int.reduceBEq, Int.reduceBNe, Int.reduceEq, Nat.reduceAdd, Nat.reduceLeDiff, Nat.reduceLT, Nat.reduceEqDiff, S1, q4]) rfl ?_
      rintro R' H' shf hLf e0 e3 e4 e5
      simp -implicitDefEqProofs only [op, ef, cl, sq, reduceIte, Int.reduceLT, Int.reduceLE, Int.reduceBEq, Int.reduceBNe, Int.reduceEq, Nat.reduceAdd, Nat.reduceLeDiff, Nat.reduceLT, Nat.reduceEqDiff, S1, q0, q5] at e0 e5
      simp -implicitDefEqProofs only [op, ef, cl, sq, reduceIte, Int.reduceLT, Int.reduceLE, Int.reduceBEq, Int.reduceBNe, Int.reduceEq, Nat.reduceAdd, Nat.reduceLeDiff, Nat.reduceLT, Nat.reduceEqDiff, S1, e0, e3, e4, e5, ws]
      exact ⟨i + 1, by omega, .i ⟨s2, F, shf, hi2', hst2, hn3, hLf, hFL⟩, rfl, by omega⟩
  · simp -implicitDefEqProofs only [op, ef, cl, sq, reduceIte, Int.reduceLT, Int.reduceLE, Int.reduceBEq, Int.reduceBNe, Int.reduceEq, Nat.reduceAdd, Nat.reduceLeDiff, Nat.reduceLT, Nat.reduceEqDiff, S1, h0, h3, h4, h5, hRx]
    refine callB_of _ _ _ _ _ _ _ _ (rest10 r.mask 2 (by decide) hro.2.2 _) ?_
    rintro u H6 ⟨hu, rfl⟩
    cases hu
    obtain ⟨k, hk⟩ : ∃ k, k = restI r.mask 2 := ⟨_, rfl⟩
    have hkl2 := restI_le r.mask 2
    rw [← hk] at hkl2
    rw [← hk]
    have hkc : k = 0 ∨ k = 1 ∨ k = 2 := by omega
    rcases hkc with rfl | rfl | rfl
    all_goals
      simp -implicitDefEqProofs only [op, ef, cl, sq, reduceIte, Int.reduceLT, Int.reduceLE, Int.reduceBEq, Int.reduceBNe, Int.reduceEq, Nat.reduceAdd, Nat.reduceLeDiff, Nat.reduceLT, Nat.reduceEqDiff, S1, h0, h3, h4, h5, hRx]
      refine callB_of _ _ _ _ _ _ _ _ (key13 _ (by omega) _) ?_
      rintro u H7 ⟨hu, rfl⟩
      cases hu
      simp -implicitDefEqProofs only [op, ef, cl, sq, reduceIte, Int.reduceLT, Int.reduceLE, Int.reduceBEq, Int.reduceBNe, Int.reduceEq, Nat.reduceAdd, Nat.reduceLeDiff, Nat.reduceLT, Nat.reduceEqDiff, S1, h0, h3, h4, h5]
      refine callB_of _ _ _ _ _ _ _ _ (byID12 b s F (keyT _) w _ shx hi) ?_
      rintro u H8 ⟨hx8, ⟨hno, hu⟩ | ⟨h, kk, hsome, hkk, hu⟩⟩
      · cases hu
        simp -implicitDefEqProofs only [op, ef, cl, sq, reduceIte, Int.reduceLT, Int.reduceLE, Int.reduceBEq, Int.reduceBNe, Int.reduceEq, Nat.reduceAdd, Nat.reduceLeDiff, Nat.reduceLT, Nat.reduceEqDiff, S1, S2, h0, h3, h4, h5]
        refine callB_of _ _ _ _ _ _ _ _ (key13 _ (by omega) _) ?_
        rintro u H9 ⟨hu, rfl⟩
        cases hu
        have sh9 : SH (H8 ++ [B.cells [T.str ⟨#[]⟩, T.int IntKind.u64 0, T.str ⟨#[]⟩, T.sl SK.nil []]]) b s F := (shx.ext hx8).ext ⟨_, rfl⟩
        have hL9 := Ext.get (H' := H8 ++ [B.cells [T.str ⟨#[]⟩, T.int IntKind.u64 0, T.str ⟨#[]⟩, T.sl SK.nil []]]) ⟨_, rfl⟩ (hx8.get hLx)
        generalize H8 ++ [B.cells [T.str ⟨#[]⟩, T.int IntKind.u64 0, T.str ⟨#[]⟩, T.sl SK.nil []]] = H9 at *
        simp -implicitDefEqProofs only [op, ef, cl, sq, reduceIte, Int.reduceLT, Int.reduceLE, Int.reduceBEq, Int.reduceBNe, Int.reduceEq, Nat.reduceAdd, Nat.reduceLeDiff, Nat.reduceLT, Nat.reduceEqDiff, S1, h0, h3, h4, h5]
        refine callB_of _ _ _ _ _ _ _ _ (drop15 b s F (keyT _) w _ sh9 hi (by omega)) ?_
        rintro u H10 (⟨_, hu, hx10⟩ | ⟨h, hh, _⟩ | ⟨h, hh, _⟩)
        rotate_left
        · rw [hno] at hh; cases hh
        · rw [hno] at hh; cases hh
        cases hu
        have sh10 := sh9.ext hx10
        have hL10 := hx10.get hL9
        simp -implicitDefEqProofs only [op, ef, cl, sq, reduceIte, Int.reduceLT, Int.reduceLE, Int.reduceBEq, Int.reduceBNe, Int.reduceEq, Nat.reduceAdd, Nat.reduceLeDiff, Nat.reduceLT, Nat.reduceEqDiff, S1, h0, h3, h4, h5]
        refine callB_of _ _ _ _ _ _ _ _ (key13 _ (by omega) _) ?_
        rintro u H11 ⟨hu, rfl⟩
        cases hu
        simp -implicitDefEqProofs only [op, ef, cl, sq, reduceIte, Int.reduceLT, Int.reduceLE, Int.reduceBEq, Int.reduceBNe, Int.reduceEq, Nat.reduceAdd, Nat.reduceLeDiff, Nat.reduceLT, Nat.reduceEqDiff, S1, h0, h3, h4, h5]
        refine callB_of _ _ _ _ _ _ _ _ (byID12 b s F (keyT _) w _ sh10 hi) ?_
        rintro u H12 ⟨hx12, ⟨_, hu⟩ | ⟨h, kk, hh, _, hu⟩⟩
        rotate_left
        · rw [hno] at hh; cases hh
        cases hu
        have sh13 : SH (H12 ++ [B.cells [T.str ⟨#[]⟩, T.int IntKind.u64 0, T.str ⟨#[]⟩, T.sl SK.nil []]]) b s F := (sh10.ext hx12).ext ⟨_, rfl⟩
        have hL13 := Ext.get (H' := H12 ++ [B.cells [T.str ⟨#[]⟩, T.int IntKind.u64 0, T.str ⟨#[]⟩, T.sl SK.nil []]]) ⟨_, rfl⟩ (hx12.get hL10)
        simp -implicitDefEqProofs only [op, ef, cl, sq, reduceIte, Int.reduceLT, Int.reduceLE, Int.reduceBEq, Int.reduceBNe, Int.reduceEq, Nat.reduceAdd, Nat.reduceLeDiff, Nat.reduceLT, Nat.reduceEqDiff, S1, S2, h0, h3, h4, h5]
        refine last6 _ rfl b s F H2.length _ _ _ sh13 hi hL13 (by simp -implicitDefEqProofs only [op, ef, cl, sq, reduceIte, Int.reduceLT, Int.reduceLE, Int.reduceBEq, Int.reduceBNe, Int.reduceEq, Nat.reduceAdd, Nat.reduceLeDiff, Nat.reduceLT, Nat.reduceEqDiff, S1, h0, h3, h4, h5]) (by simp -implicitDefEqProofs only [op, ef, cl, sq, reduceIte, Int.reduceLT, Int.reduceLE, Int.reduceBEq, Int.reduceBNe, Int.reduceEq, Nat.reduceAdd, Nat.reduceLeDiff, Nat.reduceLT, Nat.reduceEqDiff, S1, h0, h3, h4, h5]) rfl ?_
        rintro R' H' shf hLf e0 e3 e4 e5
        simp -implicitDefEqProofs only [op, ef, cl, sq, reduceIte, Int.reduceLT, Int.reduceLE, Int.reduceBEq, Int.reduceBNe, Int.reduceEq, Nat.reduceAdd, Nat.reduceLeDiff, Nat.reduceLT, Nat.reduceEqDiff, S1, h0, h3, h4, h5] at e0 e5
        simp -implicitDefEqProofs only [op, ef, cl, sq, reduceIte, Int.reduceLT, Int.reduceLE, Int.reduceBEq, Int.reduceBNe, Int.reduceEq, Nat.reduceAdd, Nat.reduceLeDiff, Nat.reduceLT, Nat.reduceEqDiff, S1, e0, e3, e4, e5, ws]
        exact ⟨i + 1, by omega, .i ⟨s, F, shf, hi, hst, by omega, hLf, hFL⟩, rfl, by omega⟩
      · cases hu
        simp -implicitDefEqProofs only [op, ef, cl, sq, reduceIte, Int.reduceLT, Int.reduceLE, Int.reduceBEq, Int.reduceBNe, Int.reduceEq, Nat.reduceAdd, Nat.reduceLeDiff, Nat.reduceLT, Nat.reduceEqDiff, S1, S2, eVer, h0, h3, h4, h5]
        refine callB_of _ _ _ _ _ _ _ _ (key13 _ (by omega) _) ?_
        rintro u H9 ⟨hu, rfl⟩
        cases hu
        have sh9 := fun y => (shx.ext hx8).ext (⟨[y], rfl⟩ : Ext H8 (H8 ++ [y]))
        have hL9 := fun y => Ext.get (⟨[y], rfl⟩ : Ext H8 (H8 ++ [y])) (hx8.get hLx)
        have hsi := hst (_, w) h hsome
        simp -implicitDefEqProofs only [op, ef, cl, sq, reduceIte, Int.reduceLT, Int.reduceLE, Int.reduceBEq, Int.reduceBNe, Int.reduceEq, Nat.reduceAdd, Nat.reduceLeDiff, Nat.reduceLT, Nat.reduceEqDiff, S1, h0, h3, h4, h5]
        refine callB_of _ _ _ _ _ _ _ _ (drop15 b s F (keyT _) w _ (sh9 _) hi (by omega)) ?_
        rintro u H10 (⟨hh, _⟩ | ⟨h', hh, hm, hu, hx10⟩ | ⟨h', hh, hm, hu, sh10, hx10⟩)
        · rw [hsome] at hh; cases hh
        · rw [hsome] at hh
          cases hh
          cases hu
          have sh10 := (sh9 _).ext hx10
          have hL10 := hx10.get (hL9 _)
          simp -implicitDefEqProofs only [op, ef, cl, sq, reduceIte, Int.reduceLT, Int.reduceLE, Int.reduceBEq, Int.reduceBNe, Int.reduceEq, Nat.reduceAdd, Nat.reduceLeDiff, Nat.reduceLT, Nat.reduceEqDiff, S1, h0, h3, h4, h5]
          refine callB_of _ _ _ _ _ _ _ _ (key13 _ (by omega) _) ?_
          rintro u H11 ⟨hu, rfl⟩
          cases hu
          simp -implicitDefEqProofs only [op, ef, cl, sq, reduceIte, Int.reduceLT, Int.reduceLE, Int.reduceBEq, Int.reduceBNe, Int.reduceEq, Nat.reduceAdd, Nat.reduceLeDiff, Nat.reduceLT, Nat.reduceEqDiff, S1, h0, h3, h4, h5]
          refine callB_of _ _ _ _ _ _ _ _ (byID12 b s F (keyT _) w _ sh10 hi) ?_
          rintro u H12 ⟨hx12, ⟨hh, _⟩ | ⟨h', kk', hh, _, hu⟩⟩
          · rw [hsome] at hh; cases hh
          cases hu
          have sh13 := fun y => (sh10.ext hx12).ext (⟨[y], rfl⟩ : Ext H12 (H12 ++ [y]))
          have hL13 := fun y => Ext.get (⟨[y], rfl⟩ : Ext H12 (H12 ++ [y])) (hx12.get hL10)
          have hlt := hsi.1 hm
          have hL12 := hx12.get hL10
          have lL12 := glt hL12
          simp -implicitDefEqProofs only [l3] at hL12
          simp -implicitDefEqProofs only [op, ef, cl, sq, reduceIte, Int.reduceLT, Int.reduceLE, Int.reduceBEq, Int.reduceBNe, Int.reduceEq, Nat.reduceAdd, Nat.reduceLeDiff, Nat.reduceLT, Nat.reduceEqDiff, S1, S2, eVer, Nat.reduceMul, natOf_nat, h0, h3, h4, h5, hL12, lL12, hlt]
          refine last6 _ rfl b s F H2.length _ _ _ (sh13 _) hi (hL13 _) (by simp -implicitDefEqProofs only [op, ef, cl, sq, reduceIte, Int.reduceLT, Int.reduceLE, Int.reduceBEq, Int.reduceBNe, Int.reduceEq, Nat.reduceAdd, Nat.reduceLeDiff, Nat.reduceLT, Nat.reduceEqDiff, S1, h0, h3, h4, h5]) (by simp -implicitDefEqProofs only [op, ef, cl, sq, reduceIte, Int.reduceLT, Int.reduceLE, Int.reduceBEq, Int.reduceBNe, Int.reduceEq, Nat.reduceAdd, Nat.reduceLeDiff, Nat.reduceLT, Nat.reduceEqDiff, S1, h0, h3, h4, h5]) rfl ?_
          rintro R' H' shf hLf e0 e3 e4 e5
          simp -implicitDefEqProofs only [op, ef, cl, sq, reduceIte, Int.reduceLT, Int.reduceLE, Int.reduceBEq, Int.reduceBNe, Int.reduceEq, Nat.reduceAdd, Nat.reduceLeDiff, Nat.reduceLT, Nat.reduceEqDiff, S1, h0, h3, h4, h5] at e0 e5
          simp -implicitDefEqProofs only [op, ef, cl, sq, reduceIte, Int.reduceLT, Int.reduceLE, Int.reduceBEq, Int.reduceBNe, Int.reduceEq, Nat.reduceAdd, Nat.reduceLeDiff, Nat.reduceLT, Nat.reduceEqDiff, S1, e0, e3, e4, e5, ws]
          exact ⟨i + 1, by omega, .i ⟨s, F, shf, hi, hst, by omega, hLf, hFL⟩, rfl, by omega⟩
        · rw [hsome] at hh
          cases hh
          cases hu
          have hL10 : H10[H2.length]? = some (.cells (l3 s)) := hx10.get (hL9 _) hFL
          have hi' := fun k => SInv.drop hi k w
          have hst' := fun k => Stm.drop hi hst k w
          simp -implicitDefEqProofs only [op, ef, cl, sq, reduceIte, Int.reduceLT, Int.reduceLE, Int.reduceBEq, Int.reduceBNe, Int.reduceEq, Nat.reduceAdd, Nat.reduceLeDiff, Nat.reduceLT, Nat.reduceEqDiff, S1, h0, h3, h4, h5]
          refine callB_of _ _ _ _ _ _ _ _ (key13 _ (by omega) _) ?_
          rintro u H11 ⟨hu, rfl⟩
          cases hu
          simp -implicitDefEqProofs only [op, ef, cl, sq, reduceIte, Int.reduceLT, Int.reduceLE, Int.reduceBEq, Int.reduceBNe, Int.reduceEq, Nat.reduceAdd, Nat.reduceLeDiff, Nat.reduceLT, Nat.reduceEqDiff, S1, h0, h3, h4, h5]
          refine callB_of _ _ _ _ _ _ _ _ (byID12 b _ F (keyT _) w _ sh10 (hi' _)) ?_
          rintro u H12 ⟨hx12, ⟨_, hu⟩ | ⟨h', kk', hh, _, hu⟩⟩
          rotate_left
          · simp -implicitDefEqProofs only [Sto.drop, mcut_look hi.nd, if_pos] at hh
            cases hh
          cases hu
          have sh13 : SH (H12 ++ [B.cells [T.str ⟨#[]⟩, T.int IntKind.u64 0, T.str ⟨#[]⟩, T.sl SK.nil []]]) b _ F := (sh10.ext hx12).ext ⟨_, rfl⟩
          have hL13 := Ext.get (H' := H12 ++ [B.cells [T.str ⟨#[]⟩, T.int IntKind.u64 0, T.str ⟨#[]⟩, T.sl SK.nil []]]) ⟨_, rfl⟩ (hx12.get hL10)
          have hlt := Decidable.of_not_not fun h => hm (hsi.2 h)
          have hL12 := hx12.get hL10
          have lL12 := glt hL12
          simp -implicitDefEqProofs only [l3] at hL12
          simp -implicitDefEqProofs only [op, ef, cl, sq, reduceIte, Int.reduceLT, Int.reduceLE, Int.reduceBEq, Int.reduceBNe, Int.reduceEq, Nat.reduceAdd, Nat.reduceLeDiff, Nat.reduceLT, Nat.reduceEqDiff, S1, S2, Nat.reduceMul, natOf_nat, h0, h3, h4, h5, hL12, lL12, hlt]
          refine last6 _ rfl b _ F H2.length _ _ _ sh13 (hi' _) hL13 (by simp -implicitDefEqProofs only [op, ef, cl, sq, reduceIte, Int.reduceLT, Int.reduceLE, Int.reduceBEq, Int.reduceBNe, Int.reduceEq, Nat.reduceAdd, Nat.reduceLeDiff, Nat.reduceLT, Nat.reduceEqDiff, S1, h0, h3, h4, h5]) (by simp -implicitDefEqProofs only [op, ef, cl, sq, reduceIte, Int.reduceLT, Int.reduceLE, Int.reduceBEq, Int.reduceBNe, Int.reduceEq, Nat.reduceAdd, Nat.reduceLeDiff, Nat.reduceLT, Nat.reduceEqDiff, S1, h0, h3, h4, h5]) rfl ?_
          rintro R' H' shf hLf e0 e3 e4 e5
          simp -implicitDefEqProofs only [op, ef, cl, sq, reduceIte, Int.reduceLT, Int.reduceLE, Int.reduceBEq, Int.reduceBNe, Int.reduceEq, Nat.reduceAdd, Nat.reduceLeDiff, Nat.reduceLT, Nat.reduceEqDiff, S1, h0, h3, h4, h5] at e0 e5
          simp -implicitDefEqProofs only [op, ef, cl, sq, reduceIte, Int.reduceLT, Int.reduceLE, Int.reduceBEq, Int.reduceBNe, Int.reduceEq, Nat.reduceAdd, Nat.reduceLeDiff, Nat.reduceLT, Nat.reduceEqDiff, S1, e0, e3, e4, e5, ws]
          exact ⟨i + 1, by omega, .i ⟨_, F, shf, hi' _, hst' _, by show s.n ≤ _; omega, hLf, hFL⟩, rfl, by omega⟩
end Go.Proofs.Ytbkgokabcnogdaa.St
end

/-! text StoreRa -/
section
namespace Go.Proofs.Ytbkgokabcnogdaa
open Go.ChangeShapes Go.WideShapes Go.ChangeAt Go.RowKit
namespace Law
theorem own : ownKnob Try.prog.godebug = none := by kernel_rfl
theorem kids : Kids Try.prog (· < Try.prog.types.size) := kids_rows (by kernel_rfl) (by kernel_rfl)
noncomputable def hzB : Bool := (List.range Try.prog.types.size).all fun t => match Try.prog.underlying t with
  | some (.slice e) => decide (0 < Try.prog.cellsOf e)
  | _ => true
theorem hzB_ok : hzB = true := by kernel_rfl
theorem hz : ∀ t e, t < Try.prog.types.size → Try.prog.underlying t = some (.slice e) → 0 < Try.prog.cellsOf e := fun t e ht h => by
  have := (List.all_eq_true.1 hzB_ok) t (List.mem_range.2 ht)
  rw [h] at this
  simpa using this
mutual
theorem bulk_eq {H : Type} : ∀ d : DataW H, Go.Rmp.bulkW d = Rows.uptoBulk d
  | .lit l => by cases l <;> simp [Go.Rmp.bulkW, Rows.uptoBulk]
  | .nil => by simp [Go.Rmp.bulkW, Rows.uptoBulk]
  | .ptr d => by simp [Go.Rmp.bulkW, Rows.uptoBulk, bulk_eq d]
  | .slice elems spare => by simp [Go.Rmp.bulkW, Rows.uptoBulk, bulks_eq elems, bulks_eq spare]
  | .agg parts => by simp [Go.Rmp.bulkW, Rows.uptoBulk, bulks_eq parts]
  | .iface _ d => by simp [Go.Rmp.bulkW, Rows.uptoBulk, bulk_eq d]
  | .map entries => by simp [Go.Rmp.bulkW, Rows.uptoBulk, bulkE_eq entries]
  | .held _ => by simp [Go.Rmp.bulkW, Rows.uptoBulk]
theorem bulks_eq {H : Type} : ∀ l : List (DataW H), Go.Rmp.bulkAllW l = Rows.uptoBulkAll l
  | [] => by simp [Go.Rmp.bulkAllW, Rows.uptoBulkAll]
  | d :: r => by simp [Go.Rmp.bulkAllW, Rows.uptoBulkAll, bulk_eq d, bulks_eq r]
theorem bulkE_eq {H : Type} : ∀ l : List (Lit × DataW H), Go.Rmp.bulkEntriesW l = Rows.uptoBulkEntries l
  | [] => by simp [Go.Rmp.bulkEntriesW, Rows.uptoBulkEntries]
  | x :: r => by simp [Go.Rmp.bulkEntriesW, Rows.uptoBulkEntries, bulkEn_eq x, bulkE_eq r]
theorem bulkEn_eq {H : Type} : ∀ x : Lit × DataW H, Go.Rmp.bulkEntryW x = Rows.uptoBulkEntry x
  | (l, d) => by cases l <;> simp [Go.Rmp.bulkEntryW, Rows.uptoBulkEntry, bulk_eq d]
end
theorem bulk_ok {H : Type} {ds : List (DataW H)} (h : Rows.uptoSmall H ds = true) : Go.Rmp.bulkAllW ds ≤ 1048576 := by
  rw [bulks_eq]; simpa [Rows.uptoSmall] using h
/-! the rows -/
theorem hasS {B : Nat} {t : Go.Rmp.T} (h : Go.Rmp.HasSh B .str t) : ∃ s, t = .str s ∧ s.size ≤ B := by
  cases h with | str h hB => exact ⟨_, rfl, hB⟩
theorem hasI {B : Nat} {t : Go.Rmp.T} (h : Go.Rmp.HasSh B (.int .i64) t) : ∃ n : Int, t = .int .i64 n ∧ St.I64 n := by
  cases h with | int h =>
    rename_i n
    exact ⟨n, rfl, by simpa [St.I64, Lit.wf, IntKind.min, IntKind.max, IntKind.signed, IntKind.bits] using h⟩
end Law
namespace St
open Go.Rmp
theorem map_of {α : Type} {P : α → Prop} (enc : α → List T) (es : List (List T)) (h : ∀ c ∈ es, ∃ x, c = enc x ∧ P x) : ∃ l : List α, es = l.map enc ∧ ∀ x ∈ l, P x := by
  induction es with
  | nil => exact ⟨[], rfl, by simp⟩
  | cons c es ih =>
    obtain ⟨l, rfl, hl⟩ := ih (fun c hc => h c (List.mem_cons_of_mem _ hc))
    obtain ⟨x, rfl, hx⟩ := h _ List.mem_cons_self
    exact ⟨x :: l, rfl, fun y hy => by rcases List.mem_cons.1 hy with rfl | hy; exact hx; exact hl y hy⟩
theorem hasRs {B : Nat} {t : T} (h : HasSh B (.sl [.int .i64, .int .i64, .int .i64, .str]) t) : ∃ (k : SK) (l : List Raw), t = .sl k (l.map eR) ∧ l.length ≤ B ∧ ∀ r ∈ l, RawOk r := by
  cases h with
  | nil => exact ⟨.nil, [], rfl, Nat.zero_le _, by simp⟩
  | sl hl hB h0 h =>
    rename_i es
    obtain ⟨l, rfl, hP⟩ := map_of (P := fun r : Raw => RawOk r) eR es fun c hc => by
      have hc1 := h0 c hc
      match c, hc1 with
      | [a, b, d, e], _ =>
        obtain ⟨x, rfl, hx⟩ := Law.hasI (h _ hc 0 (.int .i64) a rfl rfl)
        obtain ⟨y, rfl, hy⟩ := Law.hasI (h _ hc 1 (.int .i64) b rfl rfl)
        obtain ⟨z, rfl, hz⟩ := Law.hasI (h _ hc 2 (.int .i64) d rfl rfl)
        obtain ⟨s, rfl, _⟩ := Law.hasS (h _ hc 3 .str e rfl rfl)
        exact ⟨⟨x, y, z, s⟩, rfl, hx, hy, hz⟩
    exact ⟨.arg, l, rfl, by simpa using hB, hP⟩
end St
namespace Law
theorem storeGreatest_w (as' : List Go.Rmp.T) (hs : Go.Rmp.HasShs 1048576 [Go.Rmp.Sh.sl [.int .i64, .int .i64, .int .i64, .str]] as') : Go.Rmp.W Ir.env (.call 3 as') [] (fun o _ => o = .val (.bool true)) := by
  cases hs with | cons h1 hs =>
  cases hs
  obtain ⟨k, l, rfl, n1, n2⟩ := St.hasRs h1
  exact St.greatest3 k l [] n2 n1

theorem storeGreatest_fn (H : Type) : ∀ ds : List (DataW H), ds.length = Try.f3.params.toList.length → Rows.storeGreatestSpec.fn H ds = { results := [.lit (.bool true)], args := ds } := by
  have hn : Try.f3.params.toList.length = 1 := by kernel_rfl
  rw [hn]
  intro ds hds
  cases ds with | nil => simp at hds | cons d0 ds =>
  cases ds with | cons => simp at hds | nil =>
  rfl
set_option maxRecDepth 100000 in
theorem storeGreatest_lifted (os : Os) (started : os.Started) (H : Type) (enc : TypeId × Value → H) (F : Stop.Interp) :
    ReturnsInHanded {} Try.checked os 3 .any ((Rows.OpenSpec.upto Rows.storeGreatestSpec).pre6 enc Try.prog Try.f3 Rows.storeGreatestUptoRow.domain false) (((Rows.OpenSpec.upto Rows.storeGreatestSpec).at F).post enc Try.prog Try.f3 false true false false) := by
  refine returnsInHanded_of_cond (C := Try.checked) (s := Rows.OpenSpec.upto Rows.storeGreatestSpec) (k := Rows.uptoSmall) rfl own started (by kernel_rfl) Try.func3
    (OpenSpec.witness (enc := enc) (C := Try.checked) (s := Rows.OpenSpec.upto Rows.storeGreatestSpec) (k := Rows.uptoSmall) rfl false ⟨#[], #[.slice .none 0 0], []⟩ 8 (by kernel_rfl) (by kernel_rfl) (by kernel_rfl)
      (x := ([.nil], [], [])) (by kernel_rfl) rfl (by kernel_rfl)) ?_
  intro W base args ds gs before hval hW _ hk _
  exact Go.Rmp.law_contract (s := Rows.storeGreatestSpec) (shs := [Go.Rmp.Sh.sl [.int .i64, .int .i64, .int .i64, .str]]) (B := 1048576) (tb := Try.f3.resultTypes[0]!) Ir.envOk kids hz (by kernel_rfl) (by intro t ht; exact of_decide_eq_true ((List.all_eq_true.1 (show Try.f3.params.toList.all (fun t => decide (t < Try.prog.types.size)) = true by kernel_rfl)) t ht)) (by kernel_rfl) (by kernel_rfl) rfl (storeGreatest_fn H) storeGreatest_w base args ds gs before hval hW (bulk_ok hk)
theorem storeGreatest_over : Rows.storeGreatestUptoRow.holds Try.pinned (Rows.OpenSpec.upto Rows.storeGreatestSpec) :=
  OpenClaim.holds_of_cond 3 Try.f3 rfl rfl rfl rfl rfl rfl rfl ⟨rfl, rfl, rfl, rfl, rfl⟩ rfl rfl rfl rfl rfl (by kernel_rfl) Try.func3 (by kernel_rfl)
    (of_decide_eq_true (by kernel_rfl)) (by unfold Func.isWrapper; first | (rw [if_pos (by decide +kernel)]; kernel_rfl) | (rw [if_neg (by decide +kernel)]; exact ⟨rfl, rfl⟩))
    (fun os started H enc _ F => storeGreatest_lifted os started H enc F)
theorem storeGreatest_proved : Rows.StoreGreatestUptoSaid := storeGreatest_over
end Law
end Go.Proofs.Ytbkgokabcnogdaa
end
