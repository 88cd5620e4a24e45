/- Part of a proof of a law of this seat: the machine of plain values, its simulation, and the contracts of the functions that the law reaches. Conditions: none beyond the given row. -/
import Derived.Test.YtodegnhallgnkaaGreatM3
import Derived.Sort.AssemblyPlain
open Int renaming reduceLT → j2, reduceLE → j3, reduceBEq → j4, reduceBNe → j5, reduceEq → j6
open Nat renaming reduceAdd → j7, reduceLeDiff → j8, reduceLT → j9, reduceEqDiff → y1
set_option linter.unusedSimpArgs false
set_option linter.unusedVariables false
set_option linter.unnecessarySimpa false
set_option maxHeartbeats 4000000
section
namespace Go.Proofs.YtodegnhallgnkaaGreat.St
open Go.Rmp Go.Proofs.YtodegnhallgnkaaGreat.Ir
set_option maxRecDepth 10000
theorem rise_pw {l : List Nat} : RiseN l ↔ l.Pairwise (· < ·) := by
  rw [List.pairwise_iff_getElem]
  constructor
  · intro h i j hi hj hij
    exact h i j _ _ hij (List.getElem?_eq_getElem hi) (List.getElem?_eq_getElem hj)
  · intro h i j a b hij ha hb
    obtain ⟨hi, e1⟩ := List.getElem?_eq_some_iff.1 ha
    obtain ⟨hj, e2⟩ := List.getElem?_eq_some_iff.1 hb
    have := h i j hi hj hij
    rw [e1, e2] at this; exact this
theorem rise_ins {l : List Nat} {i x : Nat} (h : RiseN l) (hx : x ∉ l) (h1 : ∀ p a, p < i → l[p]? = some a → a < x) (h2 : ∀ p a, i ≤ p → l[p]? = some a → x ≤ a) : RiseN (l.take i ++ x :: l.drop i) := by
  rw [rise_pw] at h ⊢
  have m1 : ∀ a ∈ l.take i, a < x := fun a ha => by
    obtain ⟨p, hp, e⟩ := List.getElem_of_mem ha
    have hp' : p < i ∧ p < l.length := by simp -implicitDefEqProofs only [List.length_take] at hp; omega
    exact h1 p a hp'.1 (by rw [← e]; simp [List.getElem?_eq_getElem hp'.2])
  have m2 : ∀ a ∈ l.drop i, x < a := fun a ha => by
    obtain ⟨p, hp, e⟩ := List.getElem_of_mem ha
    have hp' : i + p < l.length := by simp -implicitDefEqProofs only [List.length_drop] at hp; omega
    have h3 := h2 (i + p) a (by omega) (by rw [← e]; simp [List.getElem?_eq_getElem hp'])
    have : a ≠ x := by rintro rfl; exact hx (List.mem_of_mem_drop ha)
    omega
  rw [List.pairwise_append]
  refine ⟨h.sublist (List.take_sublist _ _), ?_, fun a ha b hb => ?_⟩
  · rw [List.pairwise_cons]
    exact ⟨m2, h.sublist (List.drop_sublist _ _)⟩
  · have := m1 a ha
    rcases List.mem_cons.1 hb with rfl | hb
    · exact this
    · have := m2 b hb; omega
theorem mem_ins {l : List Nat} {i x a : Nat} : a ∈ l.take i ++ x :: l.drop i ↔ a = x ∨ a ∈ l := by
  conv => rhs; rw [← List.take_append_drop i l]
  simp -implicitDefEqProofs only [List.mem_append, List.mem_cons]
  constructor
  · rintro (h | h | h)
    · exact .inr (.inl h)
    · exact .inl h
    · exact .inr (.inr h)
  · rintro (h | h | h)
    · exact .inr (.inl h)
    · exact .inl h
    · exact .inr (.inr h)
theorem blk_lkp {o : Option T} {c off len m : Nat} (h : lkpT o (.sl .nil []) false = .msl c off len m) : blk o = some c := by
  cases o with
  | none => cases h
  | some t => have h : t = _ := h; subst h; rfl
def Sto.put (s : Sto) (k : ByteArray) (n : Nat) (h : Hd) (l : List Nat) : Sto := ⟨mput s.vs (k, n) h, s.ls, fun k' => if k' = k then l else s.ids k', fun n' => if n' = n then s.pls n ++ [k] else s.pls n', s.n + 1⟩
theorem SInv.put {s : Sto} (hi : SInv s) {k : ByteArray} {n : Nat} {h : Hd} (hno : mlook s.vs (k, n) = none) (hk : KOk h.kk h.keys ∧ h.keys.length ≤ 1024) {i : Nat} (h1 : ∀ p a, p < i → (s.ids k)[p]? = some a → a < n) (h2 : ∀ p a, i ≤ p → (s.ids k)[p]? = some a → n ≤ a) : SInv (s.put k n h ((s.ids k).take i ++ n :: (s.ids k).drop i)) := by
  have hx : n ∉ s.ids k := fun hm => by rw [hi.idm, hno] at hm; cases hm
  have hp : k ∉ s.pls n := fun hm => by rw [hi.plm, hno] at hm; cases hm
  refine ⟨fun k' => ?_, fun k' n' => ?_, fun n' => ?_, fun n' k' => ?_, mput_nodup hi.nd _ _, fun m h' hm => ?_, fun k' => ?_, fun n' => ?_, hi.ndl⟩
  · simp -implicitDefEqProofs only [Sto.put]; split
    · exact rise_ins (hi.rise k) hx h1 h2
    · exact hi.rise k'
  · simp -implicitDefEqProofs only [Sto.put, mlook_put]
    by_cases e : k' = k
    · subst e
      simp -implicitDefEqProofs only [if_true, mem_ins, hi.idm, Prod.mk.injEq, true_and]
      by_cases e2 : n' = n <;> simp [e2]
    · simp [e, hi.idm]
  · simp -implicitDefEqProofs only [Sto.put]; split
    · rw [List.nodup_append]; exact ⟨hi.pnd n, by simp, fun a ha c hc => by simp at hc; subst hc; rintro rfl; exact hp ha⟩
    · exact hi.pnd n'
  · simp -implicitDefEqProofs only [Sto.put, mlook_put]
    by_cases e : n' = n
    · subst e
      simp -implicitDefEqProofs only [if_true, List.mem_append, List.mem_singleton, hi.plm, Prod.mk.injEq, and_true]
      by_cases e2 : k' = k <;> simp [e2]
    · simp [e, hi.plm]
  · simp -implicitDefEqProofs only [Sto.put, mlook_put] at hm
    split at hm
    · cases hm; exact hk
    · exact hi.kok m h' hm
  · have := hi.bi k'
    simp -implicitDefEqProofs only [Sto.put]; split
    · rename_i e; subst e; simp -implicitDefEqProofs only [List.length_append, List.length_take, List.length_cons, List.length_drop]; omega
    · omega
  · have := hi.bp n'
    simp -implicitDefEqProofs only [Sto.put]; split
    · rename_i e; subst e; simp -implicitDefEqProofs only [List.length_append, List.length_singleton]; omega
    · omega
theorem put41 (b : Bk) (s : Sto) (F : Nat → Prop) (k : ByteArray) (n : Nat) (h : Hd) (H : Heap) (hs : SH H b s F) (hi : SInv s) (hno : mlook s.vs (k, n) = none) (hn : s.n ≤ 8000000) (hk : KOk h.kk h.keys ∧ h.keys.length ≤ 1024) :
    W env (.call 30 [.ptr b.s 0, kN (k, n), encHd h]) H (fun o H' => o = .val (.tup []) ∧ ∃ s' F', SH H' b s' F' ∧ SInv s' ∧ s'.vs = mput s.vs (k, n) h ∧ s'.ls = s.ls ∧ s'.n = s.n + 1 ∧ Frm F H H' ∧ ∀ c, F' c → F c ∨ (H.length ≤ c ∧ c < H'.length)) := by
  obtain ⟨im, pm, sa⟩ := hs
  obtain ⟨sv, si, sp, sl⟩ := sa.ne
  have l0 := glt sa.hs
  have lv := glt sa.hv
  have li := glt sa.hi
  have lp := glt sa.hp
  have ll := glt sa.hl
  obtain ⟨t, ht⟩ : ∃ t, lkpT (mlook im k) (.sl .nil []) false = t := ⟨_, rfl⟩
  have hmt := (sa.oi k).mut
  rw [ht] at hmt
  have hup := fun Hx v => upmB_K kNok Hx b.v (encV s.vs) (k, n) v
  simp -implicitDefEqProofs only [kN, eN] at hup
  refine W.fnI rfl rfl rfl ?_
  simp -implicitDefEqProofs only [ir30, kN, eN, encHd, op, ef, cl, sq, reduceIte, j2, j3, j4, j5, j6, j7, j8, j9, y1, S1, S2, S3, List.length_set, sa.hs, sa.hv, l0, lv, hup, sv, li, sa.hi, sa.vi, lkpB_M, ht]
  generalize hH1 : H.set b.v (B.map (encK kN (mput (encV s.vs) (k, n) (T.agg [T.str h.value, T.sl h.kk (h.keys.map eS), T.int IntKind.i64 h.stamp])))) ++ [B.cells [T.str k, T.int IntKind.u64 n]] ++ [B.cells [T.str h.value, T.sl h.kk (h.keys.map eS), T.int IntKind.i64 h.stamp]] = H1
  have len1 : H1.length = H.length + 2 := by rw [← hH1]; simp
  have keep1 : ∀ {c x}, c ≠ b.v → H[c]? = some x → H1[c]? = some x := fun hc hx => by
    have := glt hx
    rw [← hH1, g_app (by simp; omega), g_app (by simpa using this), g_ne (Ne.symm hc)]; exact hx
  have c1 : H1[H.length]? = some (.cells [T.str k, T.int IntKind.u64 n]) := by rw [← hH1, g_app (by simp), g_tail (by simp)]
  have v1 : H1[b.v]? = some (.map (encK kN (encV (mput s.vs (k, n) h)))) := by
    rw [← hH1, g_app (by simp; omega), g_app (by simpa using lv), g_eq lv]
    congr 3; exact mput_map encHd s.vs (k, n) h
  have s1 := keep1 (Ne.symm sv) sa.hs
  have i1 := keep1 (Ne.symm sa.vi) sa.hi
  have p1 := keep1 (Ne.symm sa.vp) sa.hp
  have w1 := keep1 (Ne.symm sa.vl) sa.hl
  have hmt1 : Mut eU 1 0 H1 t (s.ids k) := by
    have := ((sa.oi k).keep (F' := F) (H' := H1) (fun c x hc hx => keep1 (sa.blkI hc).2.1 hx) (fun _ _ h => h)).mut
    rwa [ht] at this
  refine callB_of _ _ _ _ _ _ _ _ (bs59 0 t (s.ids k) n H1 hmt1 (by have := hi.bi k; omega) (hi.rise k)) ?_
  rintro u H2 ⟨i, fd, hu, rfl, hi1, hi2, hi3⟩
  cases hu
  have l10 : b.s < H2.length := glt s1
  have l11 : H.length < H2.length := glt c1
  have l12 : b.i < H2.length := glt i1
  have l13 : b.p < H2.length := glt p1
  simp -implicitDefEqProofs only [op, ef, cl, sq, reduceIte, j2, j3, j4, j5, j6, j7, j8, j9, y1, S1, S2, S3, s1, c1, i1, l10, l11, l12, lkpB_M, ht]
  have tne : ∀ c, (∀ c', blk (mlook im k) = some c' → c' ≠ c) → ∀ off len m, t ≠ .msl c off len m := fun c hc off len m he => hc c (blk_lkp (ht.trans he)) rfl
  have fr2 : ∀ y : B, Ext H2 (H2 ++ [y]) := fun y => ⟨_, rfl⟩
  have h60 := ins60 t (s.ids k) i n H2.length _ (hmt1.ext (fr2 (.cells [.int .u64 n]))) (g_tail rfl) (fun off len m he => by have := (sa.blkI (blk_lkp (ht.trans he))).2.2.2.2.2.2; omega) hi1 (by have := hi.bi k; omega)
  obtain ⟨ys, hys⟩ : ∃ ys, ys = (s.ids k).take i ++ n :: (s.ids k).drop i := ⟨_, rfl⟩
  rw [← hys] at h60
  refine callB_of _ _ _ _ _ _ _ _ h60 ?_
  rintro u H3 ⟨b', hu, hb', _, hst, hfr⟩
  cases hu
  have keep3 : ∀ {c x}, H2[c]? = some x → (∀ c', blk (mlook im k) = some c' → c' ≠ c) → H3[c]? = some x := fun hx hc => hst.get _ _ ((fr2 _).get hx) (tne _ hc)
  have s3 := keep3 s1 fun c' hc => (sa.blkI hc).1
  have v3 := keep3 v1 fun c' hc => (sa.blkI hc).2.1
  have i3 := keep3 i1 fun c' hc => (sa.blkI hc).2.2.1
  have p3 := keep3 p1 fun c' hc => (sa.blkI hc).2.2.2.1
  have w3 := keep3 w1 fun c' hc => (sa.blkI hc).2.2.2.2.1
  have c3 := keep3 c1 fun c' hc => by have := (sa.blkI hc).2.2.2.2.2.2; omega
  have l30 := glt s3
  have l31 := glt c3
  have l32 := glt i3
  have l33 := glt p3
  have len3 : H2.length + 1 ≤ H3.length := by have := hst.len; simpa using this
  have bH : b.i ≠ H.length := by omega
  obtain ⟨t2, ht2⟩ : ∃ t2, lkpT (mlook pm n) (.sl .nil []) false = t2 := ⟨_, rfl⟩
  obtain ⟨H4, hH4⟩ : ∃ H4, H4 = H3.set b.i (.map (encK T.str (mput im k (.msl b' 0 ys.length 1)))) := ⟨_, rfl⟩
  have keep4 : ∀ {c x}, H3[c]? = some x → c ≠ b.i → H4[c]? = some x := fun hx hc => by rw [hH4, g_ne (Ne.symm hc)]; exact hx
  have s4 := keep4 s3 (Ne.symm si)
  have c4 := keep4 c3 (Ne.symm bH)
  have p4 := keep4 p3 (Ne.symm sa.ip)
  have v4 := keep4 v3 sa.vi
  have w4 := keep4 w3 (Ne.symm sa.il)
  have i4 : H4[b.i]? = some (.map (encK T.str (mput im k (.msl b' 0 ys.length 1)))) := by rw [hH4, g_eq l32]
  have kP : ∀ n' c x, blk (mlook pm n') = some c → H[c]? = some x → H4[c]? = some x := fun n' c x hc hx => by
    obtain ⟨e1, e2, e3, e4, e5, _, e6⟩ := sa.blkP hc
    exact keep4 (keep3 (keep1 e2 hx) fun c' hc' e => sa.sx k n' c (e ▸ hc') hc) e3
  have hmt2 : Mut eS 1 0 H4 t2 (s.pls n) := by
    have := ((sa.op n).keep (F' := F) (H' := H4) (fun c x hc hx => kP n c x hc hx) (fun _ _ h => h)).mut
    rwa [ht2] at this
  have hfg : fgt t2 = t2 := by
    rcases hmt2 with ⟨_, rfl⟩ | ⟨_, rfl, _⟩ <;> rfl
  obtain ⟨t3, H5, hap, hm3, hst3⟩ := appM_ok (enc := eS) (n := 1) (n0 := 0) (bytes := 16) (fun _ => rfl) [k] hmt2 (Nat.zero_le _) (by simp) (roomS (by have := hi.bp n; simp; omega) (by omega))
  simp -implicitDefEqProofs only [List.map_cons, List.map_nil, eS] at hap
  have t2ne : ∀ c, (∀ c', blk (mlook pm n) = some c' → c' ≠ c) → ∀ off len m, t2 ≠ .msl c off len m := fun c hc off len m he => hc c (blk_lkp (ht2.trans he)) rfl
  have keep5 : ∀ {c x}, H4[c]? = some x → (∀ c', blk (mlook pm n) = some c' → c' ≠ c) → H5[c]? = some x := fun hx hc => hst3.get _ _ hx (t2ne _ hc)
  have s5 := keep5 s4 fun c' hc => (sa.blkP hc).1
  have v5 := keep5 v4 fun c' hc => (sa.blkP hc).2.1
  have i5 := keep5 i4 fun c' hc => (sa.blkP hc).2.2.1
  have p5 := keep5 p4 fun c' hc => (sa.blkP hc).2.2.2.1
  have w5 := keep5 w4 fun c' hc => (sa.blkP hc).2.2.2.2.1
  have c5 := keep5 c4 fun c' hc => by have := (sa.blkP hc).2.2.2.2.2.2; omega
  simp -implicitDefEqProofs only [op, ef, cl, sq, reduceIte, j2, j3, j4, j5, j6, j7, j8, j9, y1, S1, S2, s3, c3, i3, upmB_M, ← hH4, s4, c4, p4, s5, c5, p5, lkpB_N, ht2, hfg, hap, upmB_N]
  have hpl : s.pls n ++ [k] ≠ [] := by simp
  obtain ⟨b3, rfl, hb3, _⟩ : ∃ b3, t3 = .msl b3 0 (s.pls n ++ [k]).length 1 ∧ H5[b3]? = some (.cells (msC eS (s.pls n ++ [k]))) ∧ 0 ≤ b3 := by
    rcases hm3 with ⟨h, _⟩ | h
    · exact absurd h hpl
    · exact h
  have fr3 : H4.length ≤ b3 := appM_fr hap (by simp)
  have len4 : H4.length = H3.length := by rw [hH4]; simp
  have lb' := glt hb'
  have lb3 := glt hb3
  have nb : H.length ≤ b' ∨ blk (mlook im k) = some b' := by
    rcases hfr with h | ⟨off, len, m, h⟩
    · rw [List.length_append] at h; exact .inl (by omega)
    · exact .inr (blk_lkp (ht.trans h))
  have nbS : ∀ {c}, c < H.length → (∀ c', blk (mlook im k) = some c' → c' ≠ c) → b' ≠ c := fun hc hh => nb.elim (fun h => by omega) fun h => hh _ h
  have keep6 : ∀ {c x}, H5[c]? = some x → c ≠ b.p → (H5.set b.p (.map (encK kU (mput pm n (.msl b3 0 (s.pls n ++ [k]).length 1)))))[c]? = some x := fun hx hc => by rw [g_ne (Ne.symm hc)]; exact hx
  have kI : ∀ k' c x, k' ≠ k → blk (mlook im k') = some c → H[c]? = some x → (H5.set b.p (.map (encK kU (mput pm n (.msl b3 0 (s.pls n ++ [k]).length 1)))))[c]? = some x := fun k' c x hk hc hx => by
    obtain ⟨e1, e2, e3, e4, e5, _, e6⟩ := sa.blkI hc
    exact keep6 (keep5 (keep4 (keep3 (keep1 e2 hx) fun c' hc' e => hk (sa.si k' k c hc (e ▸ hc'))) e3) fun c' hc' e => sa.sx k' n c hc (e ▸ hc')) e4
  refine ⟨rfl, s.put k n h ys, fun c => F c ∨ (H.length ≤ c ∧ c < H5.length), ⟨mput im k (.msl b' 0 ys.length 1), mput pm n (.msl b3 0 (s.pls n ++ [k]).length 1), ?_⟩, by rw [hys]; exact hi.put hno hk hi2 hi3, rfl, rfl, rfl, ?_, fun c h => h⟩
  · refine ⟨keep6 s5 (Ne.symm sp), keep6 v5 sa.vp, keep6 i5 sa.ip, g_eq (glt p5), keep6 w5 (Ne.symm sa.pl), sa.vi, sa.vp, sa.vl, sa.ip, sa.il, sa.pl, ⟨.inl sa.F0.1, .inl sa.F0.2.1, .inl sa.F0.2.2.1, .inl sa.F0.2.2.2.1, .inl sa.F0.2.2.2.2⟩, fun k' => ?_, fun n' => ?_, fun k1 k2 c h1 h2 => ?_, fun n1 n2 c h1 h2 => ?_, fun k1 n1 c h1 h2 => ?_, mput_nodup sa.np _ _⟩
    · simp -implicitDefEqProofs only [Sto.put, mlook_put]
      by_cases e : k' = k
      · simp -implicitDefEqProofs only [e, if_true]
        refine ⟨b', rfl, keep6 (keep5 (keep4 hb' (nbS li fun c' hc' => (sa.blkI hc').2.2.1)) fun c' hc' e' => ?_) (nbS lp fun c' hc' => (sa.blkI hc').2.2.2.1), nb.elim (fun h => .inr ⟨h, by have := hst3.len; omega⟩) fun h => .inl (sa.blkI h).2.2.2.2.2.1⟩
        subst e'
        exact nb.elim (fun h => by have := (sa.blkP hc').2.2.2.2.2.2; omega) fun h => sa.sx k n _ h hc'
      · simp -implicitDefEqProofs only [e, if_false]
        exact (sa.oi k').keep (fun c x hc hx => kI k' c x e hc hx) fun c _ h => .inl h
    · simp -implicitDefEqProofs only [Sto.put, mlook_put]
      by_cases e : n' = n
      · simp -implicitDefEqProofs only [e, if_true]
        exact ⟨b3, rfl, keep6 hb3 (by omega), .inr ⟨by omega, lb3⟩⟩
      · simp -implicitDefEqProofs only [e, if_false]
        refine (sa.op n').keep (fun c x hc hx => keep6 (keep5 (kP n' c x hc hx) fun c' hc' e' => e (sa.sp n' n c hc (e' ▸ hc'))) (sa.blkP hc).2.2.2.1) fun c _ h => .inl h
    · simp -implicitDefEqProofs only [mlook_put] at h1 h2
      by_cases e1 : k1 = k
      · by_cases e2 : k2 = k
        · rw [e1, e2]
        · simp -implicitDefEqProofs only [e1, if_true, blk, Option.some.injEq] at h1
          simp -implicitDefEqProofs only [e2, if_false] at h2
          subst h1
          exact absurd (nb.elim (fun h => by have := (sa.blkI h2).2.2.2.2.2.2; omega) fun h => sa.si _ _ _ h2 h) e2
      · by_cases e2 : k2 = k
        · simp -implicitDefEqProofs only [e2, if_true, blk, Option.some.injEq] at h2
          simp -implicitDefEqProofs only [e1, if_false] at h1
          subst h2
          exact absurd (nb.elim (fun h => by have := (sa.blkI h1).2.2.2.2.2.2; omega) fun h => sa.si _ _ _ h1 h) e1
        · simp -implicitDefEqProofs only [e1, e2, if_false] at h1 h2
          exact sa.si _ _ _ h1 h2
    · simp -implicitDefEqProofs only [mlook_put] at h1 h2
      by_cases e1 : n1 = n
      · by_cases e2 : n2 = n
        · rw [e1, e2]
        · simp -implicitDefEqProofs only [e1, if_true, blk, Option.some.injEq] at h1
          simp -implicitDefEqProofs only [e2, if_false] at h2
          have := (sa.blkP h2).2.2.2.2.2.2; omega
      · by_cases e2 : n2 = n
        · simp -implicitDefEqProofs only [e2, if_true, blk, Option.some.injEq] at h2
          simp -implicitDefEqProofs only [e1, if_false] at h1
          have := (sa.blkP h1).2.2.2.2.2.2; omega
        · simp -implicitDefEqProofs only [e1, e2, if_false] at h1 h2
          exact sa.sp _ _ _ h1 h2
    · simp -implicitDefEqProofs only [mlook_put] at h1 h2
      by_cases e1 : k1 = k
      · simp -implicitDefEqProofs only [e1, if_true, blk, Option.some.injEq] at h1
        by_cases e2 : n1 = n
        · simp -implicitDefEqProofs only [e2, if_true, blk, Option.some.injEq] at h2
          omega
        · simp -implicitDefEqProofs only [e2, if_false] at h2
          subst h1
          exact nb.elim (fun h => by have := (sa.blkP h2).2.2.2.2.2.2; omega) fun h => sa.sx _ _ _ h h2
      · simp -implicitDefEqProofs only [e1, if_false] at h1
        by_cases e2 : n1 = n
        · simp -implicitDefEqProofs only [e2, if_true, blk, Option.some.injEq] at h2
          have := (sa.blkI h1).2.2.2.2.2.2; omega
        · simp -implicitDefEqProofs only [e2, if_false] at h2
          exact sa.sx _ _ _ h1 h2
  · refine ⟨by have := hst3.len; rw [List.length_set]; omega, fun c hc hF => ?_⟩
    obtain ⟨x, hx⟩ := getP hc
    have ne : ∀ {c'}, F c' → c ≠ c' := fun h e => hF (e ▸ h)
    rw [hx]
    exact keep6 (keep5 (keep4 (keep3 (keep1 (ne sa.F0.2.1) hx) fun c' hc' => Ne.symm (ne (sa.blkI hc').2.2.2.2.2.1)) (ne sa.F0.2.2.1)) fun c' hc' => Ne.symm (ne (sa.blkP hc').2.2.2.2.2.1)) (ne sa.F0.2.2.2.1)
end Go.Proofs.YtodegnhallgnkaaGreat.St
end

section
namespace Go.Proofs.YtodegnhallgnkaaGreat.St
open Go.Rmp Go.Proofs.YtodegnhallgnkaaGreat.Ir
set_option maxRecDepth 10000
def Sto.emp : Sto := ⟨[], [], fun _ => [], fun _ => [], 0⟩
theorem SInv.emp : SInv Sto.emp := ⟨fun _ i j a b _ h => by simp [Sto.emp] at h, fun k n => by simp [Sto.emp, mlook_nil], fun _ => by simp [Sto.emp], fun n k => by simp [Sto.emp, mlook_nil], by simp [Sto.emp], fun m h hm => by simp [Sto.emp, mlook_nil] at hm, fun _ => by simp [Sto.emp], fun _ => by simp [Sto.emp], by simp [Sto.emp]⟩
theorem new7 (H : Heap) : W env (.call 5 []) H (fun o H' => Ext H H' ∧ ∃ b F, o = .val (.ptr b.s 0) ∧ SH H' b Sto.emp F ∧ ∀ c, F c → H.length ≤ c ∧ c < H'.length) := by
  refine W.fnI rfl rfl rfl ?_
  simp -implicitDefEqProofs only [ir5, op, ef, cl, sq, reduceIte, j2, j3, j4, j5, j6, j7, j8, j9, y1, S1, S3]
  refine ⟨(((((Ext.rfl'.app _).app _).app _).app _).app _), ⟨H.length + 4, H.length, H.length + 1, H.length + 2, H.length + 3⟩, fun c => H.length ≤ c ∧ c < H.length + 5, rfl, ⟨[], [], ?_⟩, fun c h => ⟨h.1, by have := h.2; simp; omega⟩⟩
  refine ⟨?_, ?_, ?_, ?_, ?_, by simp, by simp, by simp, by simp, by simp, by simp, by simp, fun _ => rfl, fun _ => rfl, fun k k' c h => by simp [mlook_nil, blk] at h, fun k k' c h => by simp [mlook_nil, blk] at h, fun k k' c h => by simp [mlook_nil, blk] at h, by simp⟩
  · rw [g_tail (by simp)]
  · rw [g_app (by simp <;> omega), g_app (by simp <;> omega), g_app (by simp <;> omega), g_app (by simp), g_tail (by simp)]; rfl
  · rw [g_app (by simp), g_app (by simp), g_app (by simp), g_tail (by simp)]; rfl
  · rw [g_app (by simp), g_app (by simp), g_tail (by simp)]; rfl
  · rw [g_app (by simp), g_tail (by simp)]; rfl
def hdOf (o : Option Hd) : Hd := o.getD ⟨⟨#[]⟩, .nil, [], 0⟩
theorem lkp_hd (vs : List (Nm × Hd)) (n : Nm) : lkpT (mlook (encV vs) n) (.agg [.str ⟨#[]⟩, .sl .nil [], .int .i64 0]) false = encHd (hdOf (mlook vs n)) := by
  unfold encV; rw [mlook_map]
  cases mlook vs n <;> rfl
def eVer (k : ByteArray) (n : Nat) (v : ByteArray) (kk : SK) (keys : List ByteArray) : List T := [.str k, .int .u64 n, .str v, .sl kk (keys.map eS)]
def VerQ (H : Heap) (k : ByteArray) (n : Nat) (h : Hd) : Out → Heap → Prop := fun o H' => Ext H H' ∧ ∃ kk, KOk kk h.keys ∧ o = .val (.agg (eVer k n h.value kk h.keys))
theorem version30 (b : Bk) (s : Sto) (F : Nat → Prop) (k : ByteArray) (n : Nat) (H : Heap) (hs : SH H b s F) (hi : SInv s) : W env (.call 44 [.ptr b.s 0, kN (k, n)]) H (VerQ H k n (hdOf (mlook s.vs (k, n)))) := by
  obtain ⟨im, pm, sa⟩ := hs
  have l0 := glt sa.hs
  have lv := glt sa.hv
  have hlk := fun Hx z ok => lkpB_K kNok z ok Hx (encV s.vs) (k, n)
  simp -implicitDefEqProofs only [kN, eN] at hlk
  have hh := lkp_hd s.vs (k, n)
  obtain ⟨h, hh'⟩ : ∃ h, h = hdOf (mlook s.vs (k, n)) := ⟨_, rfl⟩
  have hko : KOk h.kk h.keys ∧ h.keys.length ≤ 1024 := by
    rw [hh']
    cases e : mlook s.vs (k, n) with
    | none => exact ⟨fun _ => rfl, by simp [hdOf]⟩
    | some h => exact hi.kok _ _ e
  rw [← hh'] at hh ⊢
  refine W.fnI rfl rfl rfl ?_
  simp -implicitDefEqProofs only [ir44, kN, eN, op, ef, cl, sq, reduceIte, j2, j3, j4, j5, j6, j7, j8, j9, y1, S1, S2, S3, List.length_set, sa.hs, sa.hv, l0, lv, hlk, hh, encHd]
  refine callB_of _ _ _ _ _ _ _ _ (clone42 h.kk h.keys _ hko.1 (by omega)) ?_
  rintro u H2 ⟨hx, kk, hkk, hu⟩
  cases hu
  have c0 : H2[H.length]? = some (.cells [.str k, .int .u64 n]) := hx.get (by rw [g_app (by simp <;> omega), g_app (by simp), g_tail rfl])
  have c1 : H2[H.length + 1]? = some (.cells [.str ⟨#[]⟩, .int .u64 0, .str ⟨#[]⟩, .sl .nil []]) := hx.get (by rw [g_app (by simp), g_tail (by simp)])
  have c2 : H2[H.length + 2]? = some (.cells [.str h.value, .sl h.kk (h.keys.map eS), .int .i64 h.stamp]) := hx.get (by rw [g_tail (by simp)])
  have k1 := glt c1
  simp -implicitDefEqProofs only [op, ef, cl, sq, reduceIte, j2, j3, j4, j5, j6, j7, j8, j9, y1, S1, c0, c1, c2, S2, k1]
  exact ⟨((((Ext.rfl'.app _).app _).app _).trans hx).set (by omega) _, kk, hkk, rfl⟩
theorem mlook_encL (ls : List (ByteArray × Nat)) (k : ByteArray) : mlook (encL ls) k = (mlook ls k).map fun n : Nat => T.int .u64 n := mlook_map (fun n : Nat => T.int .u64 n) ls k
def lastOf (s : Sto) (k : ByteArray) : Nat := (mlook s.ls k).getD 0
theorem lkp_last (s : Sto) (k : ByteArray) : lkpT (mlook (encL s.ls) k) (.int .u64 0) false = .int .u64 (lastOf s k) := by
  unfold lastOf; rw [mlook_encL]
  cases mlook s.ls k <;> rfl
end Go.Proofs.YtodegnhallgnkaaGreat.St
end

section
namespace Go.Proofs.YtodegnhallgnkaaGreat.St
open Go.Rmp Go.Proofs.YtodegnhallgnkaaGreat.Ir
set_option maxRecDepth 10000
structure PutV (s s' : Sto) (n : Nat) (l : List (ByteArray × ByteArray)) (ks : List ByteArray) (now : Int) (fr : Bool) : Prop where
  other : ∀ m : Nm, (m.2 ≠ n ∨ m.1 ∉ l.map (·.1)) → mlook s'.vs m = mlook s.vs m
  old : ∀ p ∈ l, ∀ h, mlook s.vs (p.1, n) = some h → mlook s'.vs (p.1, n) = some h
  new : ∀ p ∈ l, mlook s.vs (p.1, n) = none → ∃ kk, KOk kk ks ∧ mlook s'.vs (p.1, n) = some ⟨p.2, kk, ks, if n < lastOf s p.1 then now else -1⟩
  fresh : fr = true ↔ ∃ p ∈ l, mlook s.vs (p.1, n) = none
  ls : s'.ls = s.ls
theorem PutV.nil (s : Sto) (n : Nat) (ks : List ByteArray) (now : Int) : PutV s s n [] ks now false := ⟨fun _ _ => rfl, by simp, by simp, by simp, rfl⟩
theorem PutV.there {s s' : Sto} {n : Nat} {l : List (ByteArray × ByteArray)} {ks : List ByteArray} {now : Int} {fr : Bool} (h : PutV s s' n l ks now fr) {p : ByteArray × ByteArray} {hd : Hd} (hp : p.1 ∉ l.map (·.1)) (ht : mlook s'.vs (p.1, n) = some hd) : PutV s s' n (l ++ [p]) ks now fr := by
  have e := h.other (p.1, n) (.inr hp)
  rw [ht] at e
  refine ⟨fun m hm => h.other m ?_, fun q hq h' hh => ?_, fun q hq hn => ?_, ?_, h.ls⟩
  · simp -implicitDefEqProofs only [List.map_append, List.mem_append, not_or] at hm
    exact hm.imp id (·.1)
  · rcases List.mem_append.1 hq with hq | hq
    · exact h.old q hq h' hh
    · simp at hq; subst hq; rw [← e] at hh; rw [ht]; exact hh
  · rcases List.mem_append.1 hq with hq | hq
    · exact h.new q hq hn
    · simp at hq; subst hq; rw [← e] at hn; cases hn
  · rw [h.fresh]
    constructor
    · rintro ⟨q, hq, hn⟩; exact ⟨q, List.mem_append_left _ hq, hn⟩
    · rintro ⟨q, hq, hn⟩
      rcases List.mem_append.1 hq with hq | hq
      · exact ⟨q, hq, hn⟩
      · simp at hq; subst hq; rw [← e] at hn; cases hn
theorem PutV.add {s s' s2 : Sto} {n : Nat} {l : List (ByteArray × ByteArray)} {ks : List ByteArray} {now : Int} {fr : Bool} (h : PutV s s' n l ks now fr) {p : ByteArray × ByteArray} {kk : SK} (hp : p.1 ∉ l.map (·.1)) (hkk : KOk kk ks) (ht : mlook s'.vs (p.1, n) = none)
    (hv : s2.vs = mput s'.vs (p.1, n) ⟨p.2, kk, ks, if n < lastOf s p.1 then now else -1⟩) (hl : s2.ls = s'.ls) : PutV s s2 n (l ++ [p]) ks now true := by
  have e := h.other (p.1, n) (.inr hp)
  rw [ht] at e
  have key : ∀ q ∈ l, (q.1, n) ≠ (p.1, n) := fun q hq hh => hp (List.mem_map.2 ⟨q, hq, (Prod.mk.inj hh).1⟩)
  refine ⟨fun m hm => ?_, fun q hq h' hh => ?_, fun q hq hn => ?_, ⟨fun _ => ⟨p, by simp, e.symm⟩, fun _ => rfl⟩, hl.trans h.ls⟩
  · simp -implicitDefEqProofs only [List.map_append, List.mem_append, not_or] at hm
    rw [hv, mlook_put, if_neg]
    · exact h.other m (hm.imp id (·.1))
    · rintro rfl
      rcases hm with hm | hm
      · exact hm rfl
      · exact hm.2 (by simp)
  · rw [hv, mlook_put]
    rcases List.mem_append.1 hq with hq | hq
    · rw [if_neg (key q hq)]; exact h.old q hq h' hh
    · simp at hq; subst hq; rw [← e] at hh; cases hh
  · rw [hv, mlook_put]
    rcases List.mem_append.1 hq with hq | hq
    · rw [if_neg (key q hq)]; exact h.new q hq hn
    · simp at hq; subst hq; rw [if_pos rfl]; exact ⟨kk, hkk, rfl⟩
theorem pairs_lt {n : Nat} {l : List (ByteArray × ByteArray)} {ks : List ByteArray} (h : MayP n l ks) : ∀ (i j : Nat) p q, i < j → l[i]? = some p → l[j]? = some q → strLt p.1 q.1 = true
  | i, 0, _, _, hij, _, _ => by omega
  | i, j + 1, p, q, hij, hp, hq => by
    have hj := (List.getElem?_eq_some_iff.1 hq).1
    obtain ⟨r, hr⟩ := getP (l := l) (i := j) (by omega)
    have h1 := (h.2.2.2 (j + 1) hj q hq).1 (by omega) r (by simpa using hr)
    by_cases e : i = j
    · subst e; rw [hp] at hr; cases hr; exact h1
    · exact lt_trans' (pairs_lt h i j p r (by omega) hp hr) h1
def TickOk (n : Int) : Prop := 0 ≤ n ∧ n ≤ 1099511627776
def PutQ (b : Bk) (s : Sto) (F : Nat → Prop) (n : Nat) (l : List (ByteArray × ByteArray)) (ks : List ByteArray) (now : Int) (H : Heap) : Out → Heap → Prop := fun o H' =>
  ∃ s' F' fr, o = .val (.tup [.bool fr, .int .i64 0]) ∧ SH H' b s' F' ∧ SInv s' ∧ PutV s s' n l ks now fr ∧ s'.n ≤ s.n + l.length ∧ Frm F H H' ∧ ∀ c, F' c → F c ∨ (H.length ≤ c ∧ c < H'.length)
theorem put28 (b : Bk) (s : Sto) (F : Nat → Prop) (n : Nat) (k k' : SK) (l : List (ByteArray × ByteArray)) (ks : List ByteArray) (now : Int) (H : Heap) (hs : SH H b s F) (hi : SInv s) (hn : s.n + l.length ≤ 8000000) (hko : KOk k' ks) (hm : MayP n l ks) (ht : TickOk now) :
    W env (.call 8 [.ptr b.s 0, .int .u64 n, .sl k (l.map eP), .sl k' (ks.map eS), .int .i64 now]) H (PutQ b s F n l ks now H) := by
  have hks := hm.2.1.2.2
  refine W.fnI rfl rfl rfl ?_
  simp -implicitDefEqProofs only [ir8, op, ef, cl, sq, reduceIte, j2, j3, j4, j5, j6, j7, j8, j9, y1, S1]
  refine callB_of _ _ _ _ _ _ _ _ (may43 n k k' l ks _ (by omega) (by omega)) ?_
  rintro u H1 ⟨hx1, bb, hu, hb⟩
  have hbt : bb = true := hb.2 hm
  subst hbt
  cases hu
  simp -implicitDefEqProofs only [op, ef, cl, sq, reduceIte, j2, j3, j4, j5, j6, j7, j8, j9, y1, S1]
  refine callB_of _ _ _ _ _ _ _ _ (tick31 now _) ?_
  rintro u H1 ⟨hu, rfl⟩
  have htt : (decide (0 ≤ now) && decide (now ≤ 1099511627776)) = true := by simp [ht.1, ht.2]
  rw [htt] at hu
  cases hu
  simp -implicitDefEqProofs only [op, ef, cl, sq, reduceIte, j2, j3, j4, j5, j6, j7, j8, j9, y1, S1, List.length_map]
  refine W.loopI (fun (i : Nat) R H' => At H' (fun H' => ∃ s' F' fr, R 12 = .bool fr ∧ SH H' b s' F' ∧ SInv s' ∧ PutV s s' n (l.take i) ks now fr ∧ s'.n ≤ s.n + i ∧ Frm F H H' ∧ ∀ c, F' c → F c ∨ (H.length ≤ c ∧ c < H'.length)) ∧ R 0 = .ptr b.s 0 ∧ R 1 = .int .u64 n ∧ R 3 = .sl k' (ks.map eS) ∧ R 4 = .int .i64 now ∧ R 29 = .sl k (l.map eP) ∧ R 30 = .int .i64 l.length ∧ R 31 = .int .i64 i ∧ i ≤ l.length) (fun i => l.length - i) 0 ?_ ?_
  · obtain ⟨im, pm, sa⟩ := hs
    refine ⟨.i ⟨s, F, false, rfl, ⟨im, pm, sa.frm (ext_frm (F := fun _ => False) hx1) (fun _ _ _ h => h)⟩, hi, by rw [List.take_zero]; exact PutV.nil s n ks now, Nat.le_refl _, ext_frm hx1, fun c h => .inl h⟩, rfl, rfl, rfl, rfl, rfl, rfl, rfl, Nat.zero_le _⟩
  rintro i R H2 ⟨⟨s', F', fr, h12, hsh, hiv, hpv, hnn, hfr, hF⟩, h0, h1, h3, h4, h29, h30, h31, hil⟩
  by_cases hlt : i < l.length
  · obtain ⟨p, hp⟩ := getP hlt
    have ws := wrap_succ (show i < 9223372036854775807 by omega)
    have hia := iadX (e := eP) (n := 2) (fun _ => rfl) (by decide) (k := k) hp
    have hpn : p.1 ∉ (l.take i).map (·.1) := fun hh => by
      obtain ⟨q, hq, e⟩ := List.mem_map.1 hh
      obtain ⟨j, hj, e2⟩ := List.getElem_of_mem hq
      have hj' : j < i ∧ j < l.length := by simp -implicitDefEqProofs only [List.length_take] at hj; omega
      have hqj : l[j]? = some q := by rw [← e2]; simp [List.getElem?_eq_getElem hj'.2]
      have := pairs_lt hm j i q p hj'.1 hqj hp
      rw [e, lt_irr] at this; cases this
    obtain ⟨im, pm, sa⟩ := hsh
    have l0 := glt sa.hs
    have lv := glt sa.hv
    have ll := glt sa.hl
    have l01 : b.s < H2.length + 1 := by omega
    have l02 : b.s < H2.length + 2 := by omega
    have ll1 : b.l < H2.length + 1 := by omega
    have ll2 : b.l < H2.length + 2 := by omega
    have lv1 : b.v < H2.length + 1 := by omega
    have hlk := fun Hx z ok => lkpB_K kNok z ok Hx (encV s'.vs) (p.1, n)
    simp -implicitDefEqProofs only [kN, eN] at hlk
    have hhd : lkpT (mlook (encV s'.vs) (p.1, n)) (.agg [.str ⟨#[]⟩, .sl .nil [], .int .i64 0]) true = .tup [encHd (hdOf (mlook s'.vs (p.1, n))), .bool (mlook s'.vs (p.1, n)).isSome] := by
      unfold encV; rw [mlook_map]
      cases mlook s'.vs (p.1, n) <;> rfl
    have hll := lkp_last s' p.1
    have hsl : ∀ k, lastOf s' k = lastOf s k := fun k => by simp -implicitDefEqProofs only [lastOf, hpv.ls]
    rw [hsl] at hll
    cases e : mlook s'.vs (p.1, n) with
    | some h =>
      rw [e] at hhd
      simp -implicitDefEqProofs only [Option.isSome_some] at hhd
      simp -implicitDefEqProofs only [op, ef, cl, sq, reduceIte, j2, j3, j4, j5, j6, j7, j8, j9, y1, S1, S2, S3, List.length_set, h0, h1, h3, h4, h29, h30, h31, hlt, natOf_nat, hia, eP, sa.hs, sa.hv, l0, lv, hlk, hhd, encHd, ws]
      exact ⟨i + 1, by omega, .i ⟨s', F', fr, h12, ⟨im, pm, sa.frm (ext_frm (F := fun _ => False) (((Ext.rfl'.app _).app _).app _)) (fun _ _ _ h => h)⟩, hiv, by rw [take_sn hp]; exact hpv.there hpn e, by omega, ((hfr.app _).app _).app _, fun c h => (hF c h).imp id fun h => ⟨h.1, by have := h.2; simp; omega⟩⟩, rfl, by omega⟩
    | none =>
      rw [e] at hhd
      simp -implicitDefEqProofs only [Option.isSome_none] at hhd
      by_cases hlast : n < lastOf s p.1
      all_goals
        simp -implicitDefEqProofs only [op, ef, cl, sq, reduceIte, j2, j3, j4, j5, j6, j7, j8, j9, y1, S1, S2, S3, List.length_set, h0, h1, h3, h4, h29, h30, h31, hlt, natOf_nat, hia, eP, sa.hs, sa.hv, sa.hl, l0, l01, l02, lv, lv1, ll, ll1, ll2, hlk, hhd, encHd, lkpB_M, hll, hlast]
        refine callB_of _ _ _ _ _ _ _ _ (clone42 k' ks _ hko (by omega)) ?_
        rintro u H3 ⟨hx, kk, hkk, hu⟩
        cases hu
        have c0 : H3[H2.length]? = some (.cells [.str p.1, .str p.2]) := hx.get (by rw [g_app (by simp <;> omega), g_app (by simp), g_tail rfl])
        have c1 : H3[H2.length + 1]? = some (.cells [.str p.1, .int .u64 n]) := hx.get (by rw [g_app (by simp), g_tail (by simp)])
        have hxx : Ext H2 H3 := ((((Ext.rfl'.app _).app _).app _).trans hx)
        simp -implicitDefEqProofs only [op, ef, cl, sq, reduceIte, j2, j3, j4, j5, j6, j7, j8, j9, y1, S1, c0, c1]
        refine callB_of _ _ _ _ _ _ _ _ (put41 b s' F' p.1 n ⟨p.2, kk, ks, _⟩ _ ⟨im, pm, sa.frm (ext_frm (F := fun _ => False) hxx) (fun _ _ _ h => h)⟩ hiv e (by omega) ⟨hkk, by omega⟩) ?_
        rintro u H4 ⟨hu, s2, F2, hsh2, hiv2, hvs, hls, hn2, hfr2, hF2⟩
        cases hu
        have hpa : PutV s s2 n (l.take i ++ [p]) ks now true := hpv.add (kk := kk) hpn hkk e (by first | rw [if_pos hlast]; exact hvs | rw [if_neg hlast]; exact hvs) hls
        rw [← take_sn hp] at hpa
        simp -implicitDefEqProofs only [op, ef, cl, sq, reduceIte, j2, j3, j4, j5, j6, j7, j8, j9, y1, S1, h0, h1, h3, h4, h29, h30, h31, ws]
        exact ⟨i + 1, by omega, .i ⟨s2, F2, true, rfl, hsh2, hiv2, hpa, by omega, (hfr.trans (ext_frm (F := fun _ => False) hxx) (fun c h => h.elim)).trans hfr2 (fun c h => (hF c h).imp id (·.1)), fun c h => by
          have q1 := hfr.1
          have q2 := hxx.len
          have q3 := hfr2.1
          rcases hF2 c h with h | h
          · rcases hF c h with h | h
            · exact .inl h
            · exact .inr ⟨h.1, by omega⟩
          · exact .inr ⟨by omega, h.2⟩⟩, rfl, by omega⟩
  · have hil' : i = l.length := by omega
    subst hil'
    rw [List.take_length] at hpv
    simp -implicitDefEqProofs only [op, ef, cl, sq, reduceIte, j2, j3, j4, j5, j6, j7, j8, j9, y1, S1, h12, h30, h31, hlt]
    exact ⟨s', F', fr, rfl, hsh, hiv, hpv, hnn, hfr, hF⟩
end Go.Proofs.YtodegnhallgnkaaGreat.St
end

section
namespace Go.Proofs.YtodegnhallgnkaaGreat.St
open Go.Rmp Go.Proofs.YtodegnhallgnkaaGreat.Ir
set_option maxRecDepth 10000
theorem SAt.setv {H : Heap} {b : Bk} {im : List (ByteArray × T)} {pm : List (Nat × T)} {s : Sto} {F : Nat → Prop} (h : SAt H b im pm s F) (vs : List (Nm × Hd)) : SAt (H.set b.v (.map (encK kN (encV vs)))) b im pm { s with vs := vs } F := by
  obtain ⟨n1, n2, n3, n4⟩ := h.ne
  have k : ∀ {c x}, c ≠ b.v → H[c]? = some x → (H.set b.v (.map (encK kN (encV vs))))[c]? = some x := fun hc hx => by rw [g_ne (Ne.symm hc)]; exact hx
  exact ⟨k (Ne.symm n1) h.hs, g_eq (glt h.hv), k (Ne.symm h.vi) h.hi, k (Ne.symm h.vp) h.hp, k (Ne.symm h.vl) h.hl, h.vi, h.vp, h.vl, h.ip, h.il, h.pl, h.F0,
    fun q => (h.oi q).keep (fun c x hc hx => k (h.blkI hc).2.1 hx) (fun _ _ h => h), fun q => (h.op q).keep (fun c x hc hx => k (h.blkP hc).2.1 hx) (fun _ _ h => h), h.si, h.sp, h.sx, h.np⟩
theorem SAt.setl {H : Heap} {b : Bk} {im : List (ByteArray × T)} {pm : List (Nat × T)} {s : Sto} {F : Nat → Prop} (h : SAt H b im pm s F) (ls : List (ByteArray × Nat)) : SAt (H.set b.l (.map (encK T.str (encL ls)))) b im pm { s with ls := ls } F := by
  obtain ⟨n1, n2, n3, n4⟩ := h.ne
  have k : ∀ {c x}, c ≠ b.l → H[c]? = some x → (H.set b.l (.map (encK T.str (encL ls))))[c]? = some x := fun hc hx => by rw [g_ne (Ne.symm hc)]; exact hx
  exact ⟨k (Ne.symm n4) h.hs, k h.vl h.hv, k h.il h.hi, k h.pl h.hp, g_eq (glt h.hl), h.vi, h.vp, h.vl, h.ip, h.il, h.pl, h.F0,
    fun q => (h.oi q).keep (fun c x hc hx => k (h.blkI hc).2.2.2.2.1 hx) (fun _ _ h => h), fun q => (h.op q).keep (fun c x hc hx => k (h.blkP hc).2.2.2.2.1 hx) (fun _ _ h => h), h.si, h.sp, h.sx, h.np⟩
def stamped (h : Hd) (now : Int) : Hd := { h with stamp := now }
def VS (v v' : List (Nm × Hd)) (now : Int) (S : Nm → Prop) : Prop := (v'.map (·.1)).Nodup ∧ ∀ m, (mlook v m = none → mlook v' m = none) ∧ ∀ h, mlook v m = some h → (S m ∧ h.stamp = -1 → mlook v' m = some (stamped h now)) ∧ (¬ (S m ∧ h.stamp = -1) → mlook v' m = some h)
theorem VS.some {v v' : List (Nm × Hd)} {now : Int} {S : Nm → Prop} (h : VS v v' now S) (m : Nm) : (mlook v' m).isSome = (mlook v m).isSome := by
  obtain ⟨h1, h2⟩ := h.2 m
  cases e : mlook v m with
  | none => rw [h1 e]
  | some x =>
    by_cases hc : S m ∧ x.stamp = -1
    · rw [(h2 x e).1 hc]; rfl
    · rw [(h2 x e).2 hc]
theorem VS.inv {s : Sto} (hi : SInv s) {v' : List (Nm × Hd)} {now : Int} {S : Nm → Prop} (h : VS s.vs v' now S) (ls : List (ByteArray × Nat)) (hls : (ls.map (·.1)).Nodup) : SInv { s with vs := v', ls := ls } := by
  refine ⟨hi.rise, fun k n => ?_, hi.pnd, fun n k => ?_, h.1, fun m x hm => ?_, hi.bi, hi.bp, hls⟩
  · show n ∈ s.ids k ↔ (mlook v' (k, n)).isSome = true
    rw [h.some]; exact hi.idm k n
  · show k ∈ s.pls n ↔ (mlook v' (k, n)).isSome = true
    rw [h.some]; exact hi.plm n k
  · have hm : mlook v' m = .some x := hm
    obtain ⟨h1, h2⟩ := h.2 m
    cases e : mlook s.vs m with
    | none => rw [h1 e] at hm; cases hm
    | some y =>
      have hy := hi.kok m y e
      by_cases hc : S m ∧ y.stamp = -1
      · rw [(h2 y e).1 hc] at hm; cases hm; exact hy
      · rw [(h2 y e).2 hc] at hm; cases hm; exact hy
theorem VS.nil {v : List (Nm × Hd)} (hn : (v.map (·.1)).Nodup) {now : Int} : VS v v now (fun _ => False) := ⟨hn, fun m => ⟨id, fun h e => ⟨fun hh => hh.1.elim, fun _ => e⟩⟩⟩
theorem VS.mono {v v' : List (Nm × Hd)} {now : Int} {S S' : Nm → Prop} (h : VS v v' now S) (hs : ∀ m, (mlook v m).isSome = true → (S m ↔ S' m)) : VS v v' now S' := ⟨h.1, fun m => ⟨(h.2 m).1, fun x e => by
  have := hs m (by rw [e]; rfl)
  rw [← this]; exact (h.2 m).2 x e⟩⟩
theorem VS.add {v v' : List (Nm × Hd)} {now : Int} {S : Nm → Prop} (h : VS v v' now S) {m : Nm} {x : Hd} (hx : mlook v' m = .some x) (hc : x.stamp = -1) (hS : ¬ S m) : VS v (mput v' m (stamped x now)) now (fun m' => S m' ∨ m' = m) := by
  refine ⟨mput_nodup h.1 _ _, fun m' => ?_⟩
  rw [mlook_put]
  by_cases e : m' = m
  · subst e
    simp -implicitDefEqProofs only [if_true]
    have e2 := h.some m'
    rw [hx] at e2
    refine ⟨fun hn => (by rw [hn] at e2; cases e2), fun y hy => ?_⟩
    have : y = x := by
      have := ((h.2 m').2 y hy).2 fun hh => hS hh.1
      rw [hx] at this; exact (Option.some.inj this).symm
    subst this
    exact ⟨fun _ => rfl, fun hh => absurd ⟨.inr trivial, hc⟩ hh⟩
  · simp -implicitDefEqProofs only [e, if_false, or_false]
    exact h.2 m'
theorem VS.skip {v v' : List (Nm × Hd)} {now : Int} {S : Nm → Prop} (h : VS v v' now S) {m : Nm} {x : Hd} (hx : mlook v' m = .some x) (hc : x.stamp ≠ -1) (hS : ¬ S m) : VS v v' now (fun m' => S m' ∨ m' = m) := by
  refine ⟨h.1, fun m' => ⟨(h.2 m').1, fun y hy => ?_⟩⟩
  by_cases e : m' = m
  · subst e
    have := ((h.2 m').2 y hy).2 fun hh => hS hh.1
    have e2 : y = x := by rw [hx] at this; exact (Option.some.inj this).symm
    subst e2
    exact ⟨fun hh => absurd hh.2 hc, fun _ => hx⟩
  · simp -implicitDefEqProofs only [e, or_false]
    exact (h.2 m').2 y hy
structure ComV (s s' : Sto) (n : Nat) (now : Int) (D : List ByteArray) : Prop where
  vs : VS s.vs s'.vs now (fun m => m.1 ∈ D ∧ lastOf s m.1 < n ∧ m.2 < n)
  on : ∀ k, k ∈ D → lastOf s k < n → mlook s'.ls k = .some n
  off : ∀ k, ¬ (k ∈ D ∧ lastOf s k < n) → mlook s'.ls k = mlook s.ls k
  ndl : (s.ls.map (·.1)).Nodup → (s'.ls.map (·.1)).Nodup
def ComQ (b : Bk) (s : Sto) (F : Nat → Prop) (n : Nat) (now : Int) (H : Heap) : Out → Heap → Prop := fun o H' => ∃ s', o = .val (.tup [.int .i64 (s.pls n).length, .int .i64 0]) ∧ SH H' b s' F ∧ SInv s' ∧ ComV s s' n now (s.pls n) ∧ s'.n = s.n ∧ s'.pls = s.pls ∧ s'.ids = s.ids ∧ Frm F H H'
theorem ComV.skip {s s' : Sto} {n : Nat} {now : Int} {D : List ByteArray} (h : ComV s s' n now D) {k : ByteArray} (hk : n ≤ lastOf s k) : ComV s s' n now (D ++ [k]) := by
  have key : ∀ k', k' ∈ D ++ [k] ∧ lastOf s k' < n → k' ∈ D := fun k' hh => by
    rcases List.mem_append.1 hh.1 with h | h
    · exact h
    · simp at h; subst h; omega
  exact ⟨h.vs.mono fun m _ => ⟨fun hh => ⟨List.mem_append_left _ hh.1, hh.2⟩, fun hh => ⟨key _ ⟨hh.1, hh.2.1⟩, hh.2⟩⟩, fun k' h1 h2 => h.on k' (key _ ⟨h1, h2⟩) h2, fun k' hh => h.off k' fun h' => hh ⟨List.mem_append_left _ h'.1, h'.2⟩, h.ndl⟩
theorem ComV.add {s s' s2 : Sto} {n : Nat} {now : Int} {D : List ByteArray} (h : ComV s s' n now D) {k : ByteArray} (hk : lastOf s k < n) (hl : s2.ls = mput s'.ls k n)
    (hv : VS s.vs s2.vs now (fun m => (m.1 ∈ D ∧ lastOf s m.1 < n ∧ m.2 < n) ∨ (m.1 = k ∧ m.2 < n))) : ComV s s2 n now (D ++ [k]) := by
  refine ⟨hv.mono fun m _ => ?_, fun k' h1 h2 => ?_, fun k' hh => ?_, fun hh => by rw [hl]; exact mput_nodup (h.ndl hh) _ _⟩
  · simp -implicitDefEqProofs only [List.mem_append, List.mem_singleton]
    constructor
    · rintro (⟨a, b, c⟩ | ⟨a, c⟩)
      · exact ⟨.inl a, b, c⟩
      · exact ⟨.inr a, by rw [a]; exact hk, c⟩
    · rintro ⟨a | a, b, c⟩
      · exact .inl ⟨a, b, c⟩
      · exact .inr ⟨a, c⟩
  · rw [hl, mlook_put]
    by_cases e : k' = k
    · rw [if_pos e]
    · rw [if_neg e]; exact h.on k' (by simpa [e] using h1) h2
  · rw [hl, mlook_put, if_neg]
    · exact h.off k' fun h' => hh ⟨List.mem_append_left _ h'.1, h'.2⟩
    · rintro rfl; exact hh ⟨by simp, hk⟩
theorem commit14 (b : Bk) (s : Sto) (F : Nat → Prop) (n : Nat) (now : Int) (H : Heap) (hs : SH H b s F) (hi : SInv s) (hn : s.n ≤ 8000000) (hid : 65536 ≤ n) (ht : TickOk now) :
    W env (.call 11 [.ptr b.s 0, .int .u64 n, .int .i64 now]) H (ComQ b s F n now H) := by
  obtain ⟨im, pm, sa⟩ := hs
  have hid' : ¬ (n < 65536) := by omega
  obtain ⟨t, htt⟩ : ∃ t, lkpT (mlook pm n) (.sl .nil []) false = t := ⟨_, rfl⟩
  have hlt := ((sa.op n).mut).len
  rw [htt] at hlt
  have hbp := hi.bp n
  refine W.fnI rfl rfl rfl ?_
  simp -implicitDefEqProofs only [ir11, op, ef, cl, sq, reduceIte, j2, j3, j4, j5, j6, j7, j8, j9, y1, S1, hid']
  refine callB_of _ _ _ _ _ _ _ _ (tick31 now _) ?_
  rintro u H ⟨hu, rfl⟩
  have htk : (decide (0 ≤ now) && decide (now ≤ 1099511627776)) = true := by simp [ht.1, ht.2]
  rw [htk] at hu
  cases hu
  simp -implicitDefEqProofs only [op, ef, cl, sq, reduceIte, j2, j3, j4, j5, j6, j7, j8, j9, y1, S1, sa.hs, sa.hp, lkpB_N, htt]
  have hl := fun Hx (h : Mut eS 1 0 Hx t (s.pls n)) => h.len
  have hlH : ∀ Hx, lenT Hx .sl t = some (s.pls n).length := fun Hx => by
    have := (sa.op n).mut
    rw [htt] at this
    rcases this with ⟨e, rfl⟩ | ⟨c, rfl, _, _⟩
    · rw [e]; rfl
    · rfl
  simp -implicitDefEqProofs only [op, ef, cl, sq, reduceIte, j2, j3, j4, j5, j6, j7, j8, j9, y1, S1, hlH]
  refine W.loopI (fun (i : Nat) R H' => At H' (fun H' => ∃ s', SAt H' b im pm s' F ∧ s'.n = s.n ∧ s'.pls = s.pls ∧ s'.ids = s.ids ∧ ComV s s' n now ((s.pls n).take i) ∧ Frm F H H') ∧ R 0 = .ptr b.s 0 ∧ R 1 = .int .u64 n ∧ R 2 = .int .i64 now ∧ R 25 = t ∧ R 26 = .int .i64 (s.pls n).length ∧ R 27 = .int .i64 i ∧ i ≤ (s.pls n).length) (fun i => (s.pls n).length - i) 0 ?_ ?_
  · refine ⟨.i ⟨s, sa, rfl, rfl, rfl, ⟨(VS.nil hi.nd).mono fun m _ => ⟨fun h => h.elim, fun h => by simp at h⟩, by simp, fun _ _ => rfl, id⟩, Frm.refl _ _⟩, ?_, ?_, ?_, ?_, ?_, ?_, Nat.zero_le _⟩
    all_goals (simp -implicitDefEqProofs only [op, ef, cl, sq, reduceIte, j2, j3, j4, j5, j6, j7, j8, j9, y1, S1]; try rfl)
  rintro i R H2 ⟨⟨s', sa', hn', hpl, hids, hcv, hfr⟩, h0, h1, h2, h25, h26, h27, hil⟩
  by_cases hlt : i < (s.pls n).length
  · obtain ⟨k, hk⟩ := getP hlt
    have ws := wrap_succ (show i < 9223372036854775807 by omega)
    have hmt : Mut eS 1 0 H2 t (s.pls n) := by
      have := (sa'.op n).mut
      rwa [htt, hpl] at this
    obtain ⟨c, g1, g2, g3⟩ := mut_at (enc := eS) (fun _ => rfl) hmt hk
    have hkn : k ∉ (s.pls n).take i := fun hh => by
      obtain ⟨j, hj, e2⟩ := List.getElem_of_mem hh
      have hj' : j < i ∧ j < (s.pls n).length := by simp -implicitDefEqProofs only [List.length_take] at hj; omega
      have hjk : (s.pls n)[j]? = some k := by rw [← e2]; simp [List.getElem?_eq_getElem hj'.2]
      have := (List.getElem?_inj hj'.2 (hi.pnd n)).1 (hjk.trans hk.symm)
      omega
    have hlk := lkp_last s' k
    have hls : lastOf s' k = lastOf s k := by unfold lastOf; rw [hcv.off k fun h => hkn h.1]
    rw [hls] at hlk
    by_cases hge : n ≤ lastOf s k
    · simp -implicitDefEqProofs only [op, ef, cl, sq, reduceIte, j2, j3, j4, j5, j6, j7, j8, j9, y1, S1, h0, h1, h2, h25, h26, h27, hlt, natOf_nat, g1, g2, g3, eS, sa'.hs, sa'.hl, lkpB_M, hlk, hge, ws]
      exact ⟨i + 1, by omega, .i ⟨s', sa', hn', hpl, hids, by rw [take_sn hk]; exact hcv.skip hge, hfr⟩, rfl, by omega⟩
    · have hlt2 : lastOf s k < n := by omega
      have hupl : ∀ Hx, upmB (.sc .str) Hx b.l (some (.map (encK T.str (encL s'.ls)))) (.str k) (.int .u64 n) = some (undefT, Hx.set b.l (.map (encK T.str (encL (mput s'.ls k n))))) := fun Hx => by
        rw [upmB_M]; congr 4; exact congrArg (encK T.str) (mput_map (fun n : Nat => T.int .u64 n) s'.ls k n)
      have sa3 := sa'.setl (mput s'.ls k n)
      obtain ⟨t2, htt2⟩ : ∃ t2, lkpT (mlook im k) (.sl .nil []) false = t2 := ⟨_, rfl⟩
      have hlH2 : ∀ Hx, lenT Hx .sl t2 = some (s.ids k).length := fun Hx => by
        have := (sa.oi k).mut
        rw [htt2] at this
        rcases this with ⟨e, rfl⟩ | ⟨c, rfl, _, _⟩
        · rw [e]; rfl
        · rfl
      simp -implicitDefEqProofs only [op, ef, cl, sq, reduceIte, j2, j3, j4, j5, j6, j7, j8, j9, y1, S1, h0, h1, h2, h25, h26, h27, hlt, natOf_nat, g1, g2, g3, eS, sa'.hs, sa'.hl, lkpB_M, hlk, hge, hupl, sa3.hs, sa3.hi, htt2, hlH2]
      refine W.loopE 2 (fun (j : Nat) R H' => At H' (fun H' => ∃ v', SAt H' b im pm { s' with vs := v', ls := mput s'.ls k n } F ∧ VS s.vs v' now (fun m => (m.1 ∈ (s.pls n).take i ∧ lastOf s m.1 < n ∧ m.2 < n) ∨ (m.1 = k ∧ m.2 ∈ (s.ids k).take j)) ∧ Frm F H H') ∧ R 0 = .ptr b.s 0 ∧ R 1 = .int .u64 n ∧ R 2 = .int .i64 now ∧ R 9 = .str k ∧ R 25 = t ∧ R 26 = .int .i64 (s.pls n).length ∧ R 27 = .int .i64 i ∧ R 50 = t2 ∧ R 51 = .int .i64 (s.ids k).length ∧ R 52 = .int .i64 j ∧ j ≤ (s.ids k).length ∧ ∀ p a, p < j → (s.ids k)[p]? = some a → a < n) (fun j => (s.ids k).length - j) 0
        (fun R H' => At H' (fun H' => ∃ v', SAt H' b im pm { s' with vs := v', ls := mput s'.ls k n } F ∧ VS s.vs v' now (fun m => (m.1 ∈ (s.pls n).take i ∧ lastOf s m.1 < n ∧ m.2 < n) ∨ (m.1 = k ∧ m.2 < n)) ∧ Frm F H H') ∧ R 0 = .ptr b.s 0 ∧ R 1 = .int .u64 n ∧ R 2 = .int .i64 now ∧ R 25 = t ∧ R 26 = .int .i64 (s.pls n).length ∧ R 27 = .int .i64 i) ?_ ?_ ?_
      · refine ⟨.i ⟨s'.vs, sa3, hcv.vs.mono fun m _ => ⟨.inl, fun h => h.elim id fun h => by simp at h⟩, hfr.set (.inl sa.F0.2.2.2.2) _⟩, ?_, ?_, ?_, ?_, ?_, ?_, ?_, ?_, ?_, ?_, Nat.zero_le _, fun p a h => by omega⟩
        all_goals (simp -implicitDefEqProofs only [op, ef, cl, sq, reduceIte, j2, j3, j4, j5, j6, j7, j8, j9, y1, S1, h0, h1, h2, h25, h26, h27, hlH2]; try rfl)
      · rintro j R H3 ⟨⟨v', sa4, hvs, hfr4⟩, q0, q1, q2, q9, q25, q26, q27, q50, q51, q52, hjl, hall⟩
        by_cases hj : j < (s.ids k).length
        · obtain ⟨o, ho⟩ := getP hj
          have wj := wrap_succ (show j < 9223372036854775807 by have := hi.bi k; omega)
          have hmt2 : Mut eU 1 0 H3 t2 (s.ids k) := by
            have := (sa4.oi k).mut
            simp -implicitDefEqProofs only [hids] at this
            rwa [htt2] at this
          obtain ⟨c2, e1, e2, e3⟩ := mut_at (enc := eU) (fun _ => rfl) hmt2 ho
          by_cases hon : n ≤ o
          · simp -implicitDefEqProofs only [op, ef, cl, sq, reduceIte, j2, j3, j4, j5, j6, j7, j8, j9, y1, S1, q0, q1, q2, q9, q25, q26, q27, q50, q51, q52, hj, natOf_nat, e1, e2, e3, eU, hon]
            refine ⟨v', sa4, hvs.mono fun m hm => ?_, hfr4⟩
            refine or_congr Iff.rfl ⟨fun ⟨a1, a2⟩ => ⟨a1, ?_⟩, fun ⟨a1, a2⟩ => ⟨a1, ?_⟩⟩
            · obtain ⟨p, hp, e⟩ := List.getElem_of_mem a2
              have hp' : p < j ∧ p < (s.ids k).length := by simp -implicitDefEqProofs only [List.length_take] at hp; omega
              exact hall p m.2 hp'.1 (by rw [← e]; simp [List.getElem?_eq_getElem hp'.2])
            · have hin := (hi.idm k m.2).2 (by rw [← a1]; exact hm)
              obtain ⟨p, hp, e⟩ := List.getElem_of_mem hin
              have hpe : (s.ids k)[p]? = some m.2 := by rw [List.getElem?_eq_getElem hp, e]
              rcases Nat.lt_trichotomy p j with h | h | h
              · exact List.mem_of_getElem? (i := p) (by rw [List.getElem?_take, if_pos h]; exact hpe)
              · subst h; rw [ho] at hpe; cases hpe; omega
              · have := hi.rise k j p o m.2 h ho hpe; omega
          · have hoi := (hi.idm k o).1 (List.mem_of_getElem? ho)
            rw [← hvs.some] at hoi
            obtain ⟨x, hx⟩ := Option.isSome_iff_exists.1 hoi
            have hhd := lkp_hd v' (k, o)
            rw [hx] at hhd
            have hlk2 := fun Hx z ok => lkpB_K kNok z ok Hx (encV v') (k, o)
            simp -implicitDefEqProofs only [kN, eN] at hlk2
            have hnS : ¬ (((k, o) : Nm).1 ∈ (s.pls n).take i ∧ lastOf s ((k, o) : Nm).1 < n ∧ ((k, o) : Nm).2 < n ∨ ((k, o) : Nm).1 = k ∧ ((k, o) : Nm).2 ∈ (s.ids k).take j) := by
              rintro (hh | ⟨_, hh⟩)
              · exact hkn hh.1
              · obtain ⟨p, hp, e⟩ := List.getElem_of_mem hh
                have hp' : p < j ∧ p < (s.ids k).length := by simp -implicitDefEqProofs only [List.length_take] at hp; omega
                have e : ((s.ids k).take j)[p] = o := e
                have hpe : (s.ids k)[p]? = some o := by rw [← e]; simp [List.getElem?_eq_getElem hp'.2]
                have := hi.rise k p j o o hp'.1 hpe ho; omega
            have hSS : ∀ m : Nm, (((m.1 ∈ (s.pls n).take i ∧ lastOf s m.1 < n ∧ m.2 < n) ∨ (m.1 = k ∧ m.2 ∈ (s.ids k).take j)) ∨ m = (k, o)) ↔ ((m.1 ∈ (s.pls n).take i ∧ lastOf s m.1 < n ∧ m.2 < n) ∨ (m.1 = k ∧ m.2 ∈ (s.ids k).take (j + 1))) := fun m => by
              rw [take_sn ho, List.mem_append, List.mem_singleton, or_assoc]
              refine or_congr Iff.rfl ?_
              constructor
              · rintro (⟨a1, a2⟩ | rfl)
                · exact ⟨a1, .inl a2⟩
                · exact ⟨rfl, .inr rfl⟩
              · rintro ⟨a1, a2 | a2⟩
                · exact .inl ⟨a1, a2⟩
                · exact .inr (Prod.ext a1 a2)
            have hall' : ∀ p a, p < j + 1 → (s.ids k)[p]? = some a → a < n := fun p a hp ha => by
              by_cases e : p = j
              · subst e; rw [ho] at ha; cases ha; omega
              · exact hall p a (by omega) ha
            have l0 := glt sa4.hs
            have lv := glt sa4.hv
            have hup := fun Hx v => upmB_K kNok Hx b.v (encV v') (k, o) v
            simp -implicitDefEqProofs only [kN, eN] at hup
            by_cases hst : x.stamp = -1
            · simp -implicitDefEqProofs only [op, ef, cl, sq, reduceIte, j2, j3, j4, j5, j6, j7, j8, j9, y1, S1, S2, S3, List.length_set, q0, q1, q2, q9, q25, q26, q27, q50, q51, q52, hj, natOf_nat, e1, e2, e3, eU, hon, sa4.hs, sa4.hv, hlk2, hhd, hdOf, Option.getD_some, encHd, hst, l0, lv, hup, wj]
              have e : mput (encV v') (k, o) (T.agg [T.str x.value, T.sl x.kk (x.keys.map eS), T.int IntKind.i64 now]) = encV (mput v' (k, o) (stamped x now)) := mput_map encHd v' (k, o) (stamped x now)
              rw [e]
              exact ⟨j + 1, by omega, .i ⟨_, (sa4.setv (mput v' (k, o) (stamped x now))).frm (ext_frm (F := fun _ => False) (Ext.rfl'.app _)) (fun _ _ _ h => h), (hvs.add hx hst hnS).mono fun m _ => hSS m, (hfr4.set (.inl sa.F0.2.1) _).app _⟩, rfl, by omega, hall'⟩
            · have hst' : (x.stamp == -1) = false := by simpa using hst
              simp -implicitDefEqProofs only [op, ef, cl, sq, reduceIte, j2, j3, j4, j5, j6, j7, j8, j9, y1, S1, S2, S3, List.length_set, q0, q1, q2, q9, q25, q26, q27, q50, q51, q52, hj, natOf_nat, e1, e2, e3, eU, hon, sa4.hs, sa4.hv, hlk2, hhd, hdOf, Option.getD_some, encHd, hst', l0, lv, wj]
              exact ⟨j + 1, by omega, .i ⟨v', sa4.frm (ext_frm (F := fun _ => False) (Ext.rfl'.app _)) (fun _ _ _ h => h), (hvs.skip hx hst hnS).mono fun m _ => hSS m, hfr4.app _⟩, rfl, by omega, hall'⟩
        · have hje : j = (s.ids k).length := by omega
          subst hje
          simp -implicitDefEqProofs only [op, ef, cl, sq, reduceIte, j2, j3, j4, j5, j6, j7, j8, j9, y1, S1, q0, q1, q2, q9, q25, q26, q27, q50, q51, q52, hj]
          refine ⟨v', sa4, hvs.mono fun m hm => ?_, hfr4⟩
          rw [List.take_length]
          refine or_congr Iff.rfl ⟨fun ⟨a1, a2⟩ => ⟨a1, ?_⟩, fun ⟨a1, a2⟩ => ⟨a1, (hi.idm k m.2).2 (by rw [← a1]; exact hm)⟩⟩
          obtain ⟨p, hp, e⟩ := List.getElem_of_mem a2
          exact hall p m.2 hp (by rw [List.getElem?_eq_getElem hp, e])
      · rintro R H3 ⟨⟨v', sa4, hvs, hfr4⟩, q0, q1, q2, q25, q26, q27⟩
        simp -implicitDefEqProofs only [op, ef, cl, sq, reduceIte, j2, j3, j4, j5, j6, j7, j8, j9, y1, S1, q0, q1, q2, q25, q26, q27, ws]
        exact ⟨i + 1, by omega, .i ⟨_, sa4, hn', hpl, hids, by rw [take_sn hk]; exact hcv.add hlt2 rfl hvs, hfr4⟩, rfl, by omega⟩
  · have hil' : i = (s.pls n).length := by omega
    subst hil'
    rw [List.take_length] at hcv
    simp -implicitDefEqProofs only [op, ef, cl, sq, reduceIte, j2, j3, j4, j5, j6, j7, j8, j9, y1, S1, h0, h1, h26, h27, hlt, sa'.hs, sa'.hp, lkpB_N, htt, hlH]
    exact ⟨s', rfl, ⟨im, pm, sa'⟩, (hcv.vs.inv hi s'.ls (hcv.ndl hi.ndl)) |> fun h => (by have e : s' = { s with vs := s'.vs, ls := s'.ls } := (by cases s'; cases s; simp_all); rw [e]; exact h), hcv, hn', hpl, hids, hfr⟩
end Go.Proofs.YtodegnhallgnkaaGreat.St
end

section
namespace Go.Proofs.YtodegnhallgnkaaGreat.St
open Go.Rmp Go.Proofs.YtodegnhallgnkaaGreat.Ir
set_option maxRecDepth 10000
section
variable {α β γ : Type} [DecidableEq α]
theorem mcut_cons (e : α × β) (es : List (α × β)) (k : α) : mcut (e :: es) k = if k = e.1 then es else e :: mcut es k := by
  unfold mcut
  rw [List.findIdx?_cons]
  by_cases hk : k = e.1
  · simp [hk]
  · simp -implicitDefEqProofs only [hk, decide_false, if_false, Bool.false_eq_true]
    cases List.findIdx? (fun e => decide (k = e.1)) es <;> simp
theorem mcut_map (f : β → γ) (es : List (α × β)) (k : α) : mcut (es.map fun e => (e.1, f e.2)) k = (mcut es k).map fun e => (e.1, f e.2) := by
  induction es with
  | nil => rfl
  | cons e es ih => simp -implicitDefEqProofs only [List.map_cons, mcut_cons, ih]; split <;> simp
theorem mcut_look {es : List (α × β)} (h : (es.map (·.1)).Nodup) (k k' : α) : mlook (mcut es k) k' = if k' = k then none else mlook es k' := by
  induction es with
  | nil => simp [mcut, mlook_nil]
  | cons e es ih =>
    rw [List.map_cons, List.nodup_cons] at h
    rw [mcut_cons]
    by_cases hk : k = e.1
    · subst hk
      by_cases hk' : k' = e.1
      · subst hk'; simp -implicitDefEqProofs only [if_true]; exact mlook_none.2 h.1
      · simp [mlook_cons, hk']
    · simp -implicitDefEqProofs only [hk, if_false, mlook_cons, ih h.2]
      by_cases hk' : k' = e.1
      · subst hk'; simp [Ne.symm hk]
      · simp [hk']
theorem mcut_nodup {es : List (α × β)} (h : (es.map (·.1)).Nodup) (k : α) : ((mcut es k).map (·.1)).Nodup := by
  induction es with
  | nil => simp [mcut]
  | cons e es ih =>
    rw [List.map_cons, List.nodup_cons] at h
    rw [mcut_cons]; split
    · exact h.2
    · rw [List.map_cons, List.nodup_cons]
      refine ⟨fun hm => h.1 ?_, ih h.2⟩
      have : mlook (mcut es k) e.1 ≠ none := fun hn => mlook_none.1 hn hm
      rw [mcut_look h.2] at this
      split at this
      · exact absurd rfl this
      · exact Classical.byContradiction fun hh => this (mlook_none.2 hh)
end
theorem wout_mem {α : Type} [DecidableEq α] {l : List α} {x a : α} : a ∈ wout l x ↔ a ∈ l ∧ a ≠ x := by simp [wout]
theorem wout_len {α : Type} [DecidableEq α] (l : List α) (x : α) : (wout l x).length ≤ l.length := List.length_filter_le ..
def Sto.drop (s : Sto) (k : ByteArray) (n : Nat) : Sto := ⟨mcut s.vs (k, n), s.ls, fun k' => if k' = k then wout (s.ids k) n else s.ids k', fun n' => if n' = n then wout (s.pls n) k else s.pls n', s.n⟩
theorem SInv.drop {s : Sto} (hi : SInv s) (k : ByteArray) (n : Nat) : SInv (s.drop k n) := by
  refine ⟨fun k' => ?_, fun k' n' => ?_, fun n' => ?_, fun n' k' => ?_, mcut_nodup hi.nd _, fun m h hm => ?_, fun k' => ?_, fun n' => ?_, hi.ndl⟩
  · simp -implicitDefEqProofs only [Sto.drop]; split
    · exact rise_pw.2 ((rise_pw.1 (hi.rise k)).sublist List.filter_sublist)
    · exact hi.rise k'
  · simp -implicitDefEqProofs only [Sto.drop, mcut_look hi.nd]
    by_cases e : k' = k
    · subst e
      simp -implicitDefEqProofs only [if_true, wout_mem, hi.idm, Prod.mk.injEq, true_and]
      by_cases e2 : n' = n <;> simp [e2]
    · simp [e, hi.idm]
  · simp -implicitDefEqProofs only [Sto.drop]; split
    · exact (hi.pnd n).sublist List.filter_sublist
    · exact hi.pnd n'
  · simp -implicitDefEqProofs only [Sto.drop, mcut_look hi.nd]
    by_cases e : n' = n
    · subst e
      simp -implicitDefEqProofs only [if_true, wout_mem, hi.plm, Prod.mk.injEq, and_true]
      by_cases e2 : k' = k <;> simp [e2]
    · simp [e, hi.plm]
  · simp -implicitDefEqProofs only [Sto.drop, mcut_look hi.nd] at hm
    split at hm
    · cases hm
    · exact hi.kok m h hm
  · have := hi.bi k'
    simp -implicitDefEqProofs only [Sto.drop]; split
    · rename_i e; subst e; exact Nat.le_trans (wout_len _ _) this
    · exact this
  · have := hi.bp n'
    simp -implicitDefEqProofs only [Sto.drop]; split
    · rename_i e; subst e; exact Nat.le_trans (wout_len _ _) this
    · exact this
def DropQ (b : Bk) (s : Sto) (F : Nat → Prop) (k : ByteArray) (n : Nat) (H : Heap) : Out → Heap → Prop := fun o H' =>
  (mlook s.vs (k, n) = none ∧ o = .val (.int .i64 110) ∧ Ext H H') ∨ (∃ h, mlook s.vs (k, n) = some h ∧ h.stamp = -1 ∧ o = .val (.int .i64 1) ∧ Ext H H') ∨
  ∃ h, mlook s.vs (k, n) = some h ∧ h.stamp ≠ -1 ∧ o = .val (.int .i64 0) ∧ SH H' b (s.drop k n) F ∧ Frm F H H'
theorem drop15 (b : Bk) (s : Sto) (F : Nat → Prop) (k : ByteArray) (n : Nat) (H : Heap) (hs : SH H b s F) (hi : SInv s) (hn : s.n ≤ 8000000) :
    W env (.call 46 [.ptr b.s 0, .str k, .int .u64 n]) H (DropQ b s F k n H) := by
  obtain ⟨im, pm, sa⟩ := hs
  have l0 := glt sa.hs
  have lv := glt sa.hv
  have l01 : b.s < H.length + 1 := by omega
  have hlk := fun Hx z ok => lkpB_K kNok z ok Hx (encV s.vs) (k, n)
  simp -implicitDefEqProofs only [kN, eN] at hlk
  have hhd : lkpT (mlook (encV s.vs) (k, n)) (.agg [.str ⟨#[]⟩, .sl .nil [], .int .i64 0]) true = .tup [encHd (hdOf (mlook s.vs (k, n))), .bool (mlook s.vs (k, n)).isSome] := by
    unfold encV; rw [mlook_map]
    cases mlook s.vs (k, n) <;> rfl
  refine W.fnI rfl rfl rfl ?_
  cases e : mlook s.vs (k, n) with
  | none =>
    rw [e] at hhd
    simp -implicitDefEqProofs only [Option.isSome_none] at hhd
    simp -implicitDefEqProofs only [ir46, op, ef, cl, sq, reduceIte, j2, j3, j4, j5, j6, j7, j8, j9, y1, S1, S2, S3, List.length_set, sa.hs, sa.hv, l0, l01, lv, hlk, hhd, encHd]
    exact .inl ⟨e, rfl, ((Ext.rfl'.app _).app _)⟩
  | some h =>
    rw [e] at hhd
    simp -implicitDefEqProofs only [Option.isSome_some, hdOf, Option.getD_some] at hhd
    by_cases hst : h.stamp = -1
    · simp -implicitDefEqProofs only [ir46, op, ef, cl, sq, reduceIte, j2, j3, j4, j5, j6, j7, j8, j9, y1, S1, S2, S3, List.length_set, sa.hs, sa.hv, l0, l01, lv, hlk, hhd, encHd, hst]
      exact .inr (.inl ⟨h, e, hst, rfl, ((Ext.rfl'.app _).app _)⟩)
    · have hst' : (h.stamp == -1) = false := by simpa using hst
      have hdv := fun Hx => delB_K kNok Hx b.v (encV s.vs) (k, n) (v := encHd h) (by unfold encV; rw [mlook_map, e]; rfl)
      simp -implicitDefEqProofs only [kN, eN] at hdv
      have hmc : mdel (encV s.vs) (k, n) = encV (mcut s.vs (k, n)) := mcut_map encHd s.vs (k, n)
      rw [hmc] at hdv
      obtain ⟨c, hc1, hc2, hcF⟩ : ∃ c, mlook im k = some (.msl c 0 (s.ids k).length 1) ∧ H[c]? = some (.cells (msC eU (s.ids k))) ∧ F c := by
        have := sa.oi k
        cases em : mlook im k with
        | none =>
          rw [em] at this
          have h0 : s.ids k = [] := this
          have := (hi.idm k n).2 (by rw [e]; rfl)
          rw [h0] at this; cases this
        | some t => rw [em] at this; obtain ⟨c, rfl, h1, h2⟩ := this; exact ⟨c, rfl, h1, h2⟩
      obtain ⟨d, hd1, hd2, hdF⟩ : ∃ d, mlook pm n = some (.msl d 0 (s.pls n).length 1) ∧ H[d]? = some (.cells (msC eS (s.pls n))) ∧ F d := by
        have := sa.op n
        cases em : mlook pm n with
        | none =>
          rw [em] at this
          have h0 : s.pls n = [] := this
          have := (hi.plm n k).2 (by rw [e]; rfl)
          rw [h0] at this; cases this
        | some t => rw [em] at this; obtain ⟨c, rfl, h1, h2⟩ := this; exact ⟨c, rfl, h1, h2⟩
      have bc := sa.blkI (k := k) (c := c) (by rw [hc1]; rfl)
      have bd := sa.blkP (n := n) (c := d) (by rw [hd1]; rfl)
      have hcd : c ≠ d := fun h => sa.sx k n c (by rw [hc1]; rfl) (by rw [hd1, h]; rfl)
      obtain ⟨n1, n2, n3, n4⟩ := sa.ne
      have li := glt sa.hi
      simp -implicitDefEqProofs only [ir46, op, ef, cl, sq, reduceIte, j2, j3, j4, j5, j6, j7, j8, j9, y1, S1, S2, S3, List.length_set, sa.hs, sa.hv, l0, l01, lv, hlk, hhd, encHd, hst', hdv, n1, sa.hi, li, sa.vi, lkpB_M, hc1]
      generalize hH1 : H.set b.v (B.map (encK kN (encV (mcut s.vs (k, n))))) ++ [B.cells [T.str k, T.int IntKind.u64 n]] ++ [B.cells [T.str h.value, T.sl h.kk (h.keys.map eS), T.int IntKind.i64 h.stamp]] = H1
      have len1 : H1.length = H.length + 2 := by rw [← hH1]; simp
      have keep1 : ∀ {c x}, c ≠ b.v → H[c]? = some x → H1[c]? = some x := fun hc hx => by
        have := glt hx
        rw [← hH1, g_app (by simp; omega), g_app (by simpa using this), g_ne (Ne.symm hc)]; exact hx
      have v1 : H1[b.v]? = some (.map (encK kN (encV (mcut s.vs (k, n))))) := by rw [← hH1, g_app (by simp; omega), g_app (by simpa using lv), g_eq lv]
      have s1 := keep1 (Ne.symm n1) sa.hs
      have i1 := keep1 (Ne.symm sa.vi) sa.hi
      have p1 := keep1 (Ne.symm sa.vp) sa.hp
      have w1 := keep1 (Ne.symm sa.vl) sa.hl
      refine callB_of _ _ _ _ _ _ _ _ (wo32 c (s.ids k) n H1 (keep1 bc.2.1 hc2) (by have := hi.bi k; omega)) ?_
      rintro u H2 ⟨hu, c2, fr2⟩
      cases hu
      have keep2 : ∀ {a x}, a ≠ c → H1[a]? = some x → H2[a]? = some x := fun ha hx => fr2.get hx ha
      have s2 := keep2 (Ne.symm bc.1) s1
      have v2 := keep2 (Ne.symm bc.2.1) v1
      have i2 := keep2 (Ne.symm bc.2.2.1) i1
      have p2 := keep2 (Ne.symm bc.2.2.2.1) p1
      have w2 := keep2 (Ne.symm bc.2.2.2.2.1) w1
      have d2 := keep2 (Ne.symm hcd) (keep1 bd.2.1 hd2)
      obtain ⟨H3, hH3⟩ : ∃ H3, H3 = H2.set b.i (.map (encK T.str (mput im k (.msl c 0 (wout (s.ids k) n).length 1)))) := ⟨_, rfl⟩
      have keep3 : ∀ {a x}, a ≠ b.i → H2[a]? = some x → H3[a]? = some x := fun ha hx => by rw [hH3, g_ne (Ne.symm ha)]; exact hx
      have s3 := keep3 (Ne.symm n2) s2
      have v3 := keep3 sa.vi v2
      have i3 : H3[b.i]? = some (.map (encK T.str (mput im k (.msl c 0 (wout (s.ids k) n).length 1)))) := by rw [hH3, g_eq (glt i2)]
      have p3 := keep3 (Ne.symm sa.ip) p2
      have w3 := keep3 (Ne.symm sa.il) w2
      have c3 := keep3 bc.2.2.1 c2
      have d3 := keep3 bd.2.2.1 d2
      simp -implicitDefEqProofs only [op, ef, cl, sq, reduceIte, j2, j3, j4, j5, j6, j7, j8, j9, y1, S1, s2, i2, upmB_M, ← hH3, s3, p3, lkpB_N, hd1]
      refine callB_of _ _ _ _ _ _ _ _ (wo33 d (s.pls n) k H3 d3 (by have := hi.bp n; omega)) ?_
      rintro u H4 ⟨hu, d4, fr4⟩
      cases hu
      have keep4 : ∀ {a x}, a ≠ d → H3[a]? = some x → H4[a]? = some x := fun ha hx => fr4.get hx ha
      have s4 := keep4 (Ne.symm bd.1) s3
      have v4 := keep4 (Ne.symm bd.2.1) v3
      have i4 := keep4 (Ne.symm bd.2.2.1) i3
      have p4 := keep4 (Ne.symm bd.2.2.2.1) p3
      have w4 := keep4 (Ne.symm bd.2.2.2.2.1) w3
      have c4 := keep4 hcd c3
      obtain ⟨H5, hH5⟩ : ∃ H5, H5 = H4.set b.p (.map (encK kU (mput pm n (.msl d 0 (wout (s.pls n) k).length 1)))) := ⟨_, rfl⟩
      have keep5 : ∀ {a x}, a ≠ b.p → H4[a]? = some x → H5[a]? = some x := fun ha hx => by rw [hH5, g_ne (Ne.symm ha)]; exact hx
      have s5 := keep5 (Ne.symm n3) s4
      have p5 : H5[b.p]? = some (.map (encK kU (mput pm n (.msl d 0 (wout (s.pls n) k).length 1)))) := by rw [hH5, g_eq (glt p4)]
      have l2 : mlook (mput pm n (.msl d 0 (wout (s.pls n) k).length 1)) n = some (.msl d 0 (wout (s.pls n) k).length 1) := by rw [mlook_put, if_pos rfl]
      have len5 : H5.length = H4.length := by rw [hH5]; simp
      have len3 : H3.length = H2.length := by rw [hH3]; simp
      have keepP : ∀ {a x}, a ≠ b.v → a ≠ c → a ≠ b.i → a ≠ d → a ≠ b.p → H[a]? = some x → H5[a]? = some x := fun e1 e2 e3 e4 e5 hx => keep5 e5 (keep4 e4 (keep3 e3 (keep2 e2 (keep1 e1 hx))))
      have frF : Frm F H H5 := ⟨by have := fr2.1; have := fr4.1; omega, fun a ha hF => by
        obtain ⟨x, hx⟩ := getP ha
        have ne : ∀ {c'}, F c' → a ≠ c' := fun h e => hF (e ▸ h)
        rw [hx]
        exact keepP (ne sa.F0.2.1) (ne hcF) (ne sa.F0.2.2.1) (ne hdF) (ne sa.F0.2.2.2.1) hx⟩
      have hdl := fun Hx => delB_K kNat Hx b.p (mput pm n (.msl d 0 (wout (s.pls n) k).length 1)) n l2
      simp -implicitDefEqProofs only [kU] at hdl
      have fin : ∀ (pm' : List (Nat × T)) (H6 : Heap), (∀ n', mlook pm' n' = if n' = n then mlook pm' n else mlook pm n') → Own eS F H5 (mlook pm' n) (wout (s.pls n) k) → (∀ a, blk (mlook pm' n) = some a → a = d) → (pm'.map (·.1)).Nodup → H6[b.p]? = some (.map (encK kU pm')) → (∀ {a x}, a ≠ b.p → H5[a]? = some x → H6[a]? = some x) → SAt H6 b (mput im k (.msl c 0 (wout (s.ids k) n).length 1)) pm' (s.drop k n) F := by
        intro pm' H6 hl ho hb hnd hp hk
        have kI : ∀ {k' a x}, k' ≠ k → blk (mlook im k') = some a → H[a]? = some x → H6[a]? = some x := fun {k' a x} hkk ha hx => by
          obtain ⟨e1, e2, e3, e4, e5, _, e6⟩ := sa.blkI ha
          exact hk e4 (keepP e2 (fun e => hkk (sa.si k' k c (e ▸ ha) (by rw [hc1]; rfl))) e3 (fun e => sa.sx k' n d (e ▸ ha) (by rw [hd1]; rfl)) e4 hx)
        have kP : ∀ {n' a x}, n' ≠ n → blk (mlook pm n') = some a → H[a]? = some x → H6[a]? = some x := fun {n' a x} hkk ha hx => by
          obtain ⟨e1, e2, e3, e4, e5, _, e6⟩ := sa.blkP ha
          exact hk e4 (keepP e2 (fun e => sa.sx k n' c (by rw [hc1]; rfl) (e ▸ ha)) e3 (fun e => hkk (sa.sp n' n d (e ▸ ha) (by rw [hd1]; rfl))) e4 hx)
        have bI : ∀ k' a, blk (mlook (mput im k (.msl c 0 (wout (s.ids k) n).length 1)) k') = some a → blk (mlook im k') = some a := fun k' a ha => by
          rw [mlook_put] at ha
          split at ha
          · rename_i e; subst e; rw [hc1]; exact ha
          · exact ha
        have bP : ∀ n' a, blk (mlook pm' n') = some a → blk (mlook pm n') = some a := fun n' a ha => by
          rw [hl] at ha
          split at ha
          · rename_i e; subst e; rw [hd1, hb a ha]; rfl
          · exact ha
        refine ⟨hk (Ne.symm n3) s5, hk sa.vp (keep5 sa.vp v4), hk sa.ip (keep5 sa.ip i4), hp, hk (Ne.symm sa.pl) (keep5 (Ne.symm sa.pl) w4), sa.vi, sa.vp, sa.vl, sa.ip, sa.il, sa.pl, sa.F0, fun k' => ?_, fun n' => ?_, fun k1 k2 a h1 h2 => sa.si k1 k2 a (bI _ _ h1) (bI _ _ h2), fun k1 k2 a h1 h2 => sa.sp k1 k2 a (bP _ _ h1) (bP _ _ h2), fun k1 k2 a h1 h2 => sa.sx k1 k2 a (bI _ _ h1) (bP _ _ h2), hnd⟩
        · simp -implicitDefEqProofs only [Sto.drop, mlook_put]
          by_cases e : k' = k
          · simp -implicitDefEqProofs only [e, if_true]
            exact ⟨c, rfl, hk bc.2.2.2.1 (keep5 bc.2.2.2.1 c4), hcF⟩
          · simp -implicitDefEqProofs only [e, if_false]
            exact (sa.oi k').keep (fun a x ha hx => kI e ha hx) fun _ _ h => h
        · rw [hl]
          simp -implicitDefEqProofs only [Sto.drop]
          by_cases e : n' = n
          · simp -implicitDefEqProofs only [e, if_true]
            refine ho.keep (fun a x ha hx => hk ?_ hx) fun _ _ h => h
            rw [hb a ha]; exact bd.2.2.2.1
          · simp -implicitDefEqProofs only [e, if_false]
            exact (sa.op n').keep (fun a x ha hx => kP e ha hx) fun _ _ h => h
      by_cases hz : (wout (s.pls n) k).length = 0
      · have hz' : ((wout (s.pls n) k).length = 0) = True := eq_true hz
        simp -implicitDefEqProofs only [op, ef, cl, sq, reduceIte, j2, j3, j4, j5, j6, j7, j8, j9, y1, S1, s4, p4, upmB_N, ← hH5, s5, p5, lkpB_N, l2, hz', hdl]
        refine .inr (.inr ⟨h, e, hst, rfl, ⟨_, _, fin (mdel (mput pm n (.msl d 0 (wout (s.pls n) k).length 1)) n) _ (fun n' => ?_) ?_ (fun a ha => ?_) (mdel_nodup (mput_nodup sa.np _ _) _) (g_eq (glt p5)) (fun ha hx => by rw [g_ne (Ne.symm ha)]; exact hx)⟩, frF.set (.inl sa.F0.2.2.2.1) _⟩)
        · simp -implicitDefEqProofs only [mdel_look (mput_nodup sa.np _ _), mlook_put]; split <;> simp
        · rw [mdel_look (mput_nodup sa.np _ _), if_pos rfl]; exact List.eq_nil_of_length_eq_zero hz
        · rw [mdel_look (mput_nodup sa.np _ _), if_pos rfl] at ha; cases ha
      · simp -implicitDefEqProofs only [op, ef, cl, sq, reduceIte, j2, j3, j4, j5, j6, j7, j8, j9, y1, S1, s4, p4, upmB_N, ← hH5, s5, p5, lkpB_N, l2, hz]
        refine .inr (.inr ⟨h, e, hst, rfl, ⟨_, _, fin _ H5 (fun n' => ?_) ?_ (fun a ha => ?_) (mput_nodup sa.np _ _) p5 (fun _ h => h)⟩, frF⟩)
        · simp -implicitDefEqProofs only [mlook_put]; split <;> simp
        · rw [l2]; exact ⟨d, rfl, keep5 bd.2.2.2.1 d4, hdF⟩
        · rw [l2] at ha; cases ha; rfl
end Go.Proofs.YtodegnhallgnkaaGreat.St
end

section
namespace Go.Proofs.YtodegnhallgnkaaGreat.St
open Go.Rmp Go.Proofs.YtodegnhallgnkaaGreat.Ir
set_option maxRecDepth 10000
abbrev rdy (n : Nat) (R0 : Regs) (ps : List Nat) (asg body : C) : B := .loop .ready Option.none n R0 ps asg body
abbrev bsy (n : Nat) (R0 : Regs) (ps : List Nat) (asg body : C) : B := .loop .busy Option.none n R0 ps asg body
theorem ext_of {H H' : Heap} (h : ∀ (c : Nat) x, H[c]? = some x → H'[c]? = some x) : Ext H H' := by
  have hl : H.length ≤ H'.length := by
    rcases Nat.eq_zero_or_pos H.length with h0 | h0
    · omega
    · obtain ⟨x, hx⟩ := getP (l := H) (i := H.length - 1) (by omega)
      have := glt (h _ x hx)
      omega
  refine ⟨H'.drop H.length, List.ext_getElem? fun i => ?_⟩
  by_cases hi : i < H.length
  · obtain ⟨x, hx⟩ := getP hi
    rw [List.getElem?_append_left hi, hx, h i x hx]
  · rw [List.getElem?_append_right (by omega), List.getElem?_drop]
    congr 1; omega
structure RI {α β : Type} (es : List (α × β)) (ix : List Nat) (vis : List α) : Prop where
  len : ix.length + vis.length = es.length
  lt : ∀ i ∈ ix, i < es.length
  nix : ix.Nodup
  nvis : vis.Nodup
  mem : ∀ k, k ∈ vis ↔ ∃ i v, es[i]? = some (k, v) ∧ i ∉ ix
theorem RI.start {α β : Type} (es : List (α × β)) : RI es (List.range es.length) [] := ⟨by simp, fun i h => List.mem_range.1 h, List.nodup_range, by simp, fun k => by
  simp -implicitDefEqProofs only [List.not_mem_nil, false_iff, not_exists, not_and]
  intro i v h hn
  exact hn (List.mem_range.2 (List.getElem?_eq_some_iff.1 h).1)⟩
theorem RI.step {α β : Type} {es : List (α × β)} (hn : (es.map (·.1)).Nodup) {ix : List Nat} {vis : List α} (h : RI es ix vis) {i : Nat} {k : α} {v : β} (hi : i ∈ ix) (he : es[i]? = some (k, v)) : RI es (ix.erase i) (vis ++ [k]) := by
  have inj : ∀ j w, es[j]? = some (k, w) → j = i := fun j w hj => by
    have h1 : (es.map (·.1))[j]? = some k := by rw [List.getElem?_map, hj]; rfl
    have h2 : (es.map (·.1))[i]? = some k := by rw [List.getElem?_map, he]; rfl
    exact (List.getElem?_inj (List.getElem?_eq_some_iff.1 h1).1 hn).1 (h1.trans h2.symm)
  have hk : k ∉ vis := fun hk => by
    obtain ⟨j, w, hj, hn⟩ := (h.mem k).1 hk
    exact hn (inj j w hj ▸ hi)
  refine ⟨?_, fun j hj => h.lt j (List.mem_of_mem_erase hj), h.nix.erase _, ?_, fun k' => ?_⟩
  · have := h.len
    have := List.length_pos_of_mem hi
    rw [List.length_erase_of_mem hi, List.length_append, List.length_singleton]; omega
  · rw [List.nodup_append]; exact ⟨h.nvis, by simp, fun a ha c hc => by simp at hc; subst hc; rintro rfl; exact hk ha⟩
  · rw [List.mem_append, List.mem_singleton, h.mem]
    constructor
    · rintro (⟨j, w, hj, hnj⟩ | rfl)
      · exact ⟨j, w, hj, fun hm => hnj (List.mem_of_mem_erase hm)⟩
      · exact ⟨i, v, he, fun hm => (h.nix.mem_erase_iff.1 hm).1 rfl⟩
    · rintro ⟨j, w, hj, hnj⟩
      by_cases e : j = i
      · subst e; rw [he] at hj; cases hj; exact .inr rfl
      · exact .inl ⟨j, w, hj, fun hm => hnj (h.nix.mem_erase_iff.2 ⟨e, hm⟩)⟩
theorem RI.end' {α β : Type} {es : List (α × β)} {vis : List α} (h : RI es [] vis) (k : α) : k ∈ vis ↔ k ∈ es.map (·.1) := by
  rw [h.mem]
  constructor
  · rintro ⟨i, v, he, _⟩; exact List.mem_map.2 ⟨_, List.mem_of_getElem? he, rfl⟩
  · intro hk
    obtain ⟨e, he, rfl⟩ := List.mem_map.1 hk
    obtain ⟨i, hi, e2⟩ := List.getElem_of_mem he
    exact ⟨i, e.2, by rw [List.getElem?_eq_getElem hi, e2], by simp⟩
theorem keys50 {n : Nat} {R0 : Regs} {ps : List Nat} {asg body : C} (es : List (Nm × T)) (c b mb : Nat) (H : Heap) (I : List Nm → Heap → Prop) (hps : ps.length = 1) (hnd : (es.map (·.1)).Nodup) (h0 : I [] H) (hb : H[b]? = some (rdy n R0 ps asg body)) (hc : H[c]? = some (.cells [.map mb])) (hm : H[mb]? = some (.map (encK kN es)))
    (hset : ∀ vis H' y, I vis H' → I vis (H'.set mb y)) (happ : ∀ vis H' (l : Heap), I vis H' → I vis (H' ++ l))
    (hstep : ∀ vis v H', vis.length < es.length → I vis H' → H'[b]? = some (rdy n R0 ps asg body) → H.length < H'.length → wpC env asg (setps R0 ps [(kN v)]) H' (fun o H1 => ∃ R1, o = .ex .normal R1 ∧ H1[b]? = some (rdy n R0 ps asg body) ∧
      wpC env body R1 (H1.set b (bsy n R0 ps asg body)) (fun o H2 => ∃ R2, o = .ex .normal R2 ∧ H2[b]? = some (bsy n R0 ps asg body) ∧ I (vis ++ [v]) (H2.set b (rdy n R0 ps asg body)) ∧ ∀ a y, H'[a]? = some y → a = mb ∨ a = H.length → H2[a]? = some y))) :
    W env (.call 60 [.yld b, .ptr c 0]) H (fun _ H' => ∃ vis, I vis H' ∧ RI es [] vis ∧ H'[b]? = some (rdy n R0 ps asg body) ∧ H'[mb]? = some (.map (encK kN es))) := by
  have lm := glt hm
  have lb := glt hb
  have hmb : b ≠ mb := by rintro rfl; rw [hm] at hb; cases hb
  have hel : (encK kN es).length = es.length := by simp [encK]
  refine W.fnI rfl rfl rfl ?_
  simp -implicitDefEqProofs only [ir60, op, ef, cl, sq, reduceIte, j2, j3, j4, j5, j6, j7, j8, j9, y1, S1, hc, hm]
  refine W.loopI (fun (vis : List Nm) R H' => At H' (fun H' => ∃ ix cur, I vis H' ∧ RI es ix vis ∧ H'[b]? = some (rdy n R0 ps asg body) ∧ H'[mb]? = some (.rmap (encK kN es) ix H.length cur) ∧ H'[H.length]? = some (.itr mb)) ∧ R 0 = .yld b ∧ R 5 = .ptr H.length 0) (fun vis => es.length - vis.length) [] ?_ ?_
  · refine ⟨.i ⟨List.range (encK kN es).length, none, happ _ _ _ (hset _ _ _ h0), by rw [hel]; exact RI.start es, ?_, ?_, ?_⟩, rfl, rfl⟩
    · rw [g_app (by simpa using lb), g_ne (Ne.symm hmb)]; exact hb
    · rw [g_app (by simpa using lm), g_eq lm]
    · rw [g_tail (by simp)]
  rintro vis R H1 ⟨⟨ix, cur, hI, hri, hb1, hm1, hi1⟩, r0, r5⟩
  have lb1 := glt hb1
  have lm1 := glt hm1
  have li1 := glt hi1
  have hbi : b ≠ H.length := by rintro rfl; rw [hi1] at hb1; cases hb1
  have hmi : mb ≠ H.length := by omega
  simp -implicitDefEqProofs only [op, ef, cl, sq, reduceIte, j2, j3, j4, j5, j6, j7, j8, j9, y1, S1, r5]
  refine step_x _ _ _ _ _ _ _ r5 hm1 ?_
  rintro t H2 (⟨rfl, rfl, rfl⟩ | ⟨i, e, hi, he, rfl, rfl⟩)
  · simp -implicitDefEqProofs only [op, ef, cl, sq, reduceIte, j2, j3, j4, j5, j6, j7, j8, j9, y1, S1]
    exact ⟨vis, hset _ _ _ hI, hri, by rw [g_ne (Ne.symm hmb)]; exact hb1, g_eq lm1⟩
  obtain ⟨⟨k, v0⟩, hkv⟩ := getP (hri.lt i hi)
  have he' : e = (kN k, v0) := by
    rw [encK, List.getElem?_map, hkv] at he; exact (Option.some.inj he).symm
  subst he'
  have b2 : (H1.set mb (.rmap (encK kN es) (ix.erase i) H.length (some i)))[b]? = some (rdy n R0 ps asg body) := by rw [g_ne (Ne.symm hmb)]; exact hb1
  have m2 : (H1.set mb (.rmap (encK kN es) (ix.erase i) H.length (some i)))[mb]? = some (.rmap (encK kN es) (ix.erase i) H.length (some i)) := g_eq lm1
  have i2 : (H1.set mb (.rmap (encK kN es) (ix.erase i) H.length (some i)))[H.length]? = some (.itr mb) := by rw [g_ne hmi]; exact hi1
  have len2 : (H1.set mb (.rmap (encK kN es) (ix.erase i) H.length (some i))).length = H1.length := by simp
  have hI2 := hset vis H1 (.rmap (encK kN es) (ix.erase i) H.length (some i)) hI
  generalize H1.set mb (.rmap (encK kN es) (ix.erase i) H.length (some i)) = H2 at *
  have hvl : vis.length < es.length := by have := hri.len; have := List.length_pos_of_mem hi; omega
  have fin : ∀ H3, Ext H2 H3 → I vis H3 → wpC env asg (setps R0 ps [kN k]) H3 (fun o H1 => ∃ R1, o = .ex .normal R1 ∧ H1[b]? = some (rdy n R0 ps asg body) ∧ wpC env body R1 (H1.set b (bsy n R0 ps asg body)) (fun o H2 => ∃ R2, o = .ex .normal R2 ∧ H2[b]? = some (bsy n R0 ps asg body) ∧
      ∃ y : List Nm, es.length - y.length < es.length - vis.length ∧ At (H2.set b (rdy n R0 ps asg body)) (fun H' => ∃ ix cur, I y H' ∧ RI es ix y ∧ H'[b]? = some (rdy n R0 ps asg body) ∧ H'[mb]? = some (.rmap (encK kN es) ix H.length cur) ∧ H'[H.length]? = some (.itr mb)) ∧ R 0 = .yld b ∧ R 5 = .ptr H.length 0)) := by
    intro H3 hx h3
    have hxl := hx.len
    refine wpC_mono _ _ _ (fun o H4 => ?_) (hstep vis k H3 hvl h3 (hx.get b2) (by omega))
    rintro ⟨R1, rfl, hr, hw⟩
    refine ⟨R1, rfl, hr, wpC_mono _ _ _ (fun o H5 => ?_) hw⟩
    rintro ⟨R2, rfl, hr2, hI3, hkp⟩
    have hb3 := glt hr2
    have hm3 := hkp mb _ (hx.get m2) (.inl rfl)
    have hi3 := hkp H.length _ (hx.get i2) (.inr rfl)
    exact ⟨R2, rfl, hr2, vis ++ [k], by rw [List.length_append, List.length_singleton]; omega, .i ⟨_, _, hI3, hri.step hnd hi hkv, g_eq hb3, by rw [g_ne hmb]; exact hm3, by rw [g_ne hbi]; exact hi3⟩, r0, r5⟩
  have lb2 := glt b2
  simp -implicitDefEqProofs only [op, ef, cl, sq, reduceIte, j2, j3, j4, j5, j6, j7, j8, j9, y1, S1, r0, r5, i2, m2, he, kN, eN, S2]
  refine b_yld (b := b) (n := n) (R0 := R0) (ps := ps) (asg := asg) (body := body) (by simp -implicitDefEqProofs only [op, ef, cl, sq, reduceIte, j2, j3, j4, j5, j6, j7, j8, j9, y1, S1, r0]) (by first | exact b2 | (rw [g_app lb2]; exact b2)) (by rw [hps]; rfl) ?_
  simp -implicitDefEqProofs only [op, ef, cl, sq, reduceIte, j2, j3, j4, j5, j6, j7, j8, j9, y1, S1]
  first
    | exact fin _ ⟨_, rfl⟩ (happ _ _ _ hI2)
    | exact fin _ Ext.rfl' hI2
theorem keys56 {n : Nat} {R0 : Regs} {ps : List Nat} {asg body : C} (es : List (ByteArray × T)) (c b mb : Nat) (H : Heap) (I : List ByteArray → Heap → Prop) (hps : ps.length = 1) (hnd : (es.map (·.1)).Nodup) (h0 : I [] H) (hb : H[b]? = some (rdy n R0 ps asg body)) (hc : H[c]? = some (.cells [.map mb])) (hm : H[mb]? = some (.map (encK T.str es)))
    (hset : ∀ vis H' y, I vis H' → I vis (H'.set mb y)) (happ : ∀ vis H' (l : Heap), I vis H' → I vis (H' ++ l))
    (hstep : ∀ vis v H', vis.length < es.length → I vis H' → H'[b]? = some (rdy n R0 ps asg body) → H.length < H'.length → wpC env asg (setps R0 ps [(T.str v)]) H' (fun o H1 => ∃ R1, o = .ex .normal R1 ∧ H1[b]? = some (rdy n R0 ps asg body) ∧
      wpC env body R1 (H1.set b (bsy n R0 ps asg body)) (fun o H2 => ∃ R2, o = .ex .normal R2 ∧ H2[b]? = some (bsy n R0 ps asg body) ∧ I (vis ++ [v]) (H2.set b (rdy n R0 ps asg body)) ∧ ∀ a y, H'[a]? = some y → a = mb ∨ a = H.length → H2[a]? = some y))) :
    W env (.call 68 [.yld b, .ptr c 0]) H (fun _ H' => ∃ vis, I vis H' ∧ RI es [] vis ∧ H'[b]? = some (rdy n R0 ps asg body) ∧ H'[mb]? = some (.map (encK T.str es))) := by
  have lm := glt hm
  have lb := glt hb
  have hmb : b ≠ mb := by rintro rfl; rw [hm] at hb; cases hb
  have hel : (encK T.str es).length = es.length := by simp [encK]
  refine W.fnI rfl rfl rfl ?_
  simp -implicitDefEqProofs only [ir68, op, ef, cl, sq, reduceIte, j2, j3, j4, j5, j6, j7, j8, j9, y1, S1, hc, hm]
  refine W.loopI (fun (vis : List ByteArray) R H' => At H' (fun H' => ∃ ix cur, I vis H' ∧ RI es ix vis ∧ H'[b]? = some (rdy n R0 ps asg body) ∧ H'[mb]? = some (.rmap (encK T.str es) ix H.length cur) ∧ H'[H.length]? = some (.itr mb)) ∧ R 0 = .yld b ∧ R 5 = .ptr H.length 0) (fun vis => es.length - vis.length) [] ?_ ?_
  · refine ⟨.i ⟨List.range (encK T.str es).length, none, happ _ _ _ (hset _ _ _ h0), by rw [hel]; exact RI.start es, ?_, ?_, ?_⟩, rfl, rfl⟩
    · rw [g_app (by simpa using lb), g_ne (Ne.symm hmb)]; exact hb
    · rw [g_app (by simpa using lm), g_eq lm]
    · rw [g_tail (by simp)]
  rintro vis R H1 ⟨⟨ix, cur, hI, hri, hb1, hm1, hi1⟩, r0, r5⟩
  have lb1 := glt hb1
  have lm1 := glt hm1
  have li1 := glt hi1
  have hbi : b ≠ H.length := by rintro rfl; rw [hi1] at hb1; cases hb1
  have hmi : mb ≠ H.length := by omega
  simp -implicitDefEqProofs only [op, ef, cl, sq, reduceIte, j2, j3, j4, j5, j6, j7, j8, j9, y1, S1, r5]
  refine step_x _ _ _ _ _ _ _ r5 hm1 ?_
  rintro t H2 (⟨rfl, rfl, rfl⟩ | ⟨i, e, hi, he, rfl, rfl⟩)
  · simp -implicitDefEqProofs only [op, ef, cl, sq, reduceIte, j2, j3, j4, j5, j6, j7, j8, j9, y1, S1]
    exact ⟨vis, hset _ _ _ hI, hri, by rw [g_ne (Ne.symm hmb)]; exact hb1, g_eq lm1⟩
  obtain ⟨⟨k, v0⟩, hkv⟩ := getP (hri.lt i hi)
  have he' : e = (T.str k, v0) := by
    rw [encK, List.getElem?_map, hkv] at he; exact (Option.some.inj he).symm
  subst he'
  have b2 : (H1.set mb (.rmap (encK T.str es) (ix.erase i) H.length (some i)))[b]? = some (rdy n R0 ps asg body) := by rw [g_ne (Ne.symm hmb)]; exact hb1
  have m2 : (H1.set mb (.rmap (encK T.str es) (ix.erase i) H.length (some i)))[mb]? = some (.rmap (encK T.str es) (ix.erase i) H.length (some i)) := g_eq lm1
  have i2 : (H1.set mb (.rmap (encK T.str es) (ix.erase i) H.length (some i)))[H.length]? = some (.itr mb) := by rw [g_ne hmi]; exact hi1
  have len2 : (H1.set mb (.rmap (encK T.str es) (ix.erase i) H.length (some i))).length = H1.length := by simp
  have hI2 := hset vis H1 (.rmap (encK T.str es) (ix.erase i) H.length (some i)) hI
  generalize H1.set mb (.rmap (encK T.str es) (ix.erase i) H.length (some i)) = H2 at *
  have hvl : vis.length < es.length := by have := hri.len; have := List.length_pos_of_mem hi; omega
  have fin : ∀ H3, Ext H2 H3 → I vis H3 → wpC env asg (setps R0 ps [T.str k]) H3 (fun o H1 => ∃ R1, o = .ex .normal R1 ∧ H1[b]? = some (rdy n R0 ps asg body) ∧ wpC env body R1 (H1.set b (bsy n R0 ps asg body)) (fun o H2 => ∃ R2, o = .ex .normal R2 ∧ H2[b]? = some (bsy n R0 ps asg body) ∧
      ∃ y : List ByteArray, es.length - y.length < es.length - vis.length ∧ At (H2.set b (rdy n R0 ps asg body)) (fun H' => ∃ ix cur, I y H' ∧ RI es ix y ∧ H'[b]? = some (rdy n R0 ps asg body) ∧ H'[mb]? = some (.rmap (encK T.str es) ix H.length cur) ∧ H'[H.length]? = some (.itr mb)) ∧ R 0 = .yld b ∧ R 5 = .ptr H.length 0)) := by
    intro H3 hx h3
    have hxl := hx.len
    refine wpC_mono _ _ _ (fun o H4 => ?_) (hstep vis k H3 hvl h3 (hx.get b2) (by omega))
    rintro ⟨R1, rfl, hr, hw⟩
    refine ⟨R1, rfl, hr, wpC_mono _ _ _ (fun o H5 => ?_) hw⟩
    rintro ⟨R2, rfl, hr2, hI3, hkp⟩
    have hb3 := glt hr2
    have hm3 := hkp mb _ (hx.get m2) (.inl rfl)
    have hi3 := hkp H.length _ (hx.get i2) (.inr rfl)
    exact ⟨R2, rfl, hr2, vis ++ [k], by rw [List.length_append, List.length_singleton]; omega, .i ⟨_, _, hI3, hri.step hnd hi hkv, g_eq hb3, by rw [g_ne hmb]; exact hm3, by rw [g_ne hbi]; exact hi3⟩, r0, r5⟩
  have lb2 := glt b2
  simp -implicitDefEqProofs only [op, ef, cl, sq, reduceIte, j2, j3, j4, j5, j6, j7, j8, j9, y1, S1, r0, r5, i2, m2, he, kN, eN, S2]
  refine b_yld (b := b) (n := n) (R0 := R0) (ps := ps) (asg := asg) (body := body) (by simp -implicitDefEqProofs only [op, ef, cl, sq, reduceIte, j2, j3, j4, j5, j6, j7, j8, j9, y1, S1, r0]) (by first | exact b2 | (rw [g_app lb2]; exact b2)) (by rw [hps]; rfl) ?_
  simp -implicitDefEqProofs only [op, ef, cl, sq, reduceIte, j2, j3, j4, j5, j6, j7, j8, j9, y1, S1]
  first
    | exact fin _ ⟨_, rfl⟩ (happ _ _ _ hI2)
    | exact fin _ Ext.rfl' hI2
end Go.Proofs.YtodegnhallgnkaaGreat.St
end

section
namespace Go.Proofs.YtodegnhallgnkaaGreat.St
open Go.Rmp Go.Proofs.YtodegnhallgnkaaGreat.Ir
set_option maxRecDepth 10000
def SeqQ {α : Type} (enc : α → List T) (n : Nat) (es : List (α × T)) (H : Heap) : Out → Heap → Prop := fun o H' => Ext H H' ∧ ∃ t vis, o = .val t ∧ Mut enc n H.length H' t vis ∧ RI es [] vis
def deadT (H : Heap) : T → Heap
  | .msl b _ _ _ => H.set b .dead
  | _ => H
theorem dead_len (H : Heap) (t : T) : (deadT H t).length = H.length := by cases t <;> simp [deadT]
theorem dead_get {H : Heap} {t : T} {a : Nat} (h : ∀ off len m, t ≠ .msl a off len m) : (deadT H t)[a]? = H[a]? := by
  cases t with
  | msl b off len m => exact g_ne (fun e => h off len m (by rw [e]))
  | _ => rfl
theorem appM_fun {α : Type} {enc : α → List T} {n n0 bytes : Nat} (hn : ∀ x, (enc x).length = n) {H : Heap} {t : T} {l : List α} (h : Mut enc n n0 H t l) (v : α) (hr : roomOk (l.length + 1) bytes = true) : appM H n bytes t [enc v] = some (.msl H.length 0 (l.length + 1) n, deadT H t ++ [.cells (msC enc (l ++ [v]))]) := by
  have happ : msC enc l ++ enc v = msC enc (l ++ [v]) := by simp [msC]
  rcases h with ⟨rfl, rfl⟩ | ⟨b, rfl, hb, _⟩
  · simp -implicitDefEqProofs only [List.length_nil, Nat.zero_add] at hr
    simp [appM, hr, deadT, msC]
  · have hc : l.length * n = (msC enc l).length := (msC_len hn l).symm
    simp [appM, hb, hc, hr, deadT, happ]
theorem seq63 (es : List (Nm × T)) (c mb : Nat) (H : Heap) (hnd : (es.map (·.1)).Nodup) (hes : es.length ≤ 8000000) (hc : H[c]? = some (.cells [.map mb])) (hm : H[mb]? = some (.map (encK kN es))) :
    W env (.call 76 [.sl .nil [], .fn 60 [.ptr c 0]]) H (SeqQ eN 2 es H) := by
  have lm := glt hm
  have lc := glt hc
  refine W.fnrI rfl rfl ?_
  simp -implicitDefEqProofs only [ir76, op, ef, cl, sq, reduceIte, j2, j3, j4, j5, j6, j7, j8, j9, y1, S1, S2]
  generalize hR : upd (upd (upd (regs0 [T.sl SK.nil [], T.fn 60 [T.ptr c 0]]) 2 (T.ptr H.length 0)) 4 (T.sl SK.nil [])) 6 (T.fn 60 [T.ptr c 0]) = R0
  have r2 : R0 2 = .ptr H.length 0 := by rw [← hR]; simp -implicitDefEqProofs only [op, ef, cl, sq, reduceIte, j2, j3, j4, j5, j6, j7, j8, j9, y1, S1]
  have r6 : R0 6 = .fn 60 [.ptr c 0] := by rw [← hR]; simp -implicitDefEqProofs only [op, ef, cl, sq, reduceIte, j2, j3, j4, j5, j6, j7, j8, j9, y1, S1]
  have r13 : R0 13 = .tup [] := by rw [← hR]; rfl
  refine W.rangeI (f := 60) (cs := [.ptr c 0]) (by simp -implicitDefEqProofs only [op, ef, cl, sq, reduceIte, j2, j3, j4, j5, j6, j7, j8, j9, y1, S1, r6]) ?_
  have a1 : (H ++ [B.cells [T.sl SK.nil []]]).length = H.length + 1 := by simp
  rw [a1, r13, push0]
  have e1 : H.length + 1 + 1 = H.length + 2 := rfl
  rw [e1]
  generalize hnn : H.length = f at *
  have n02 : ¬ (f = f + 2) := by omega
  have n12 : ¬ (f + 1 = f + 2) := by omega
  have hbl : ∀ x y : B, (H ++ [B.cells [T.sl SK.nil []]] ++ [y, x])[f + 2]? = some x := fun x y => by
    rw [List.getElem?_append_right (by omega), a1]
    have : f + 2 - (f + 1) = 1 := by omega
    rw [this]; rfl
  have hql : ∀ x y : B, (H ++ [B.cells [T.sl SK.nil []]] ++ [y, x]).length = f + 3 := fun x y => by simp [hnn]
  have hq0 : ∀ (x y : B) (a : Nat) z, H[a]? = some z → (H ++ [B.cells [T.sl SK.nil []]] ++ [y, x])[a]? = some z := fun x y a z hz => by
    have := glt hz
    rw [g_app (by omega), g_app (by omega)]; exact hz
  refine W.use (keys50 (hb := hbl _ _) es c (f + 2) mb _ (fun vis H' => At H' fun H' => ∃ t, H'[f]? = some (.cells [t]) ∧ Mut eN 2 (f + 4) H' t vis ∧ H'[f + 1]? = some .dfr ∧ ∀ (a : Nat) y, H[a]? = some y → a ≠ mb → H'[a]? = some y) rfl hnd ?_ (hq0 _ _ _ _ hc) (hq0 _ _ _ _ hm) ?_ ?_ ?_) ?_
  · refine .i ⟨.sl .nil [], ?_, mut_nil _ _ _ _, ?_, fun a y hy _ => hq0 _ _ _ _ hy⟩
    · rw [g_app (by omega), g_tail (by omega)]
    · rw [g_tail (by omega)]
  · rintro vis H' y ⟨t, h1, h2, h3, h4⟩
    refine .i ⟨t, by rw [g_ne (by omega)]; exact h1, ?_, by rw [g_ne (by omega)]; exact h3, fun a z hz ha => by rw [g_ne (Ne.symm ha)]; exact h4 a z hz ha⟩
    rcases h2 with h2 | ⟨d, e1, e2, e3⟩
    · exact .inl h2
    · exact .inr ⟨d, e1, by rw [g_ne (by omega)]; exact e2, e3⟩
  · rintro vis H' l ⟨t, h1, h2, h3, h4⟩
    exact .i ⟨t, by rw [g_app (glt h1)]; exact h1, h2.ext ⟨_, rfl⟩, by rw [g_app (glt h3)]; exact h3, fun a z hz ha => by rw [g_app (glt (h4 a z hz ha))]; exact h4 a z hz ha⟩
  · rintro vis v H' hvl ⟨t, h1, h2, h3, h4⟩ hb hlen
    rw [hql] at hlen
    have mf := glt h1
    have m1 := glt h3
    have m2 := glt hb
    have hne : ∀ a, a < f + 4 → ∀ off len m, t ≠ .msl a off len m := fun a ha off len m he => by
      rcases h2 with ⟨_, e⟩ | ⟨d, e, _, e3⟩
      · rw [e] at he; cases he
      · rw [e] at he; cases he; omega
    have hfg : fgt t = t := by rcases h2 with ⟨_, rfl⟩ | ⟨d, rfl, _⟩ <;> rfl
    have hL : ∀ y : B, (H'.set (f + 2) y ++ [B.cells (eN v)]).length = H'.length + 1 := fun y => by simp
    have hap : ∀ y : B, appM (H'.set (f + 2) y ++ [B.cells (eN v)]) 2 24 t [eN v] = some (.msl (H'.length + 1) 0 (vis ++ [v]).length 2, deadT (H'.set (f + 2) y ++ [B.cells (eN v)]) t ++ [.cells (msC eN (vis ++ [v]))]) := fun y => by
      have := appM_fun (enc := eN) (n := 2) (bytes := 24) (n0 := f + 4) (H := H'.set (f + 2) y ++ [B.cells (eN v)]) (t := t) (l := vis) (fun _ => rfl) (by
        rcases h2 with h2 | ⟨d, e1, e2, e3⟩
        · exact .inl h2
        · refine .inr ⟨d, e1, ?_, e3⟩
          first
            | (rw [g_app (by rw [List.length_set]; exact glt e2), g_ne (by omega)]; exact e2)
            | (rw [g_ne (by omega)]; exact e2)) v (roomS (by omega) (by omega))
      rw [hL] at this
      rw [this, List.length_append]; rfl
    simp -implicitDefEqProofs only [eN] at hap
    have hpre : ∀ (y : B) (a : Nat) z, H'[a]? = some z → a ≠ f + 2 → a < f + 4 → (deadT (H'.set (f + 2) y ++ [B.cells (eN v)]) t ++ [.cells (msC eN (vis ++ [v]))])[a]? = some z := fun y a z hz h2 h4 => by
      have := glt hz
      rw [g_app (by rw [dead_len]; simp; omega), dead_get (hne a h4)]
      first
        | (rw [g_app (by rw [List.length_set]; exact this), g_ne (Ne.symm h2)]; exact hz)
        | (rw [g_ne (Ne.symm h2)]; exact hz)
    have n2H : ¬ (f + 2 = H'.length) := by omega
    have n2f : ¬ (f + 2 = f) := by omega
    have nHf : ¬ (H'.length = f) := by omega
    simp -implicitDefEqProofs only [op, ef, cl, sq, reduceIte, j2, j3, j4, j5, j6, j7, j8, j9, y1, S1, S2, setps, kN, eN]
    refine ⟨_, rfl, ?_, ?_⟩
    · first
        | exact hb
        | (rw [g_app m2]; exact hb)
    have hpf := fun y => hpre y f _ h1 (by omega) (by omega)
    have hpb : ∀ y : B, (deadT (H'.set (f + 2) y ++ [B.cells (eN v)]) t ++ [.cells (msC eN (vis ++ [v]))])[f + 2]? = some y := fun y => by
      rw [g_app (by rw [dead_len]; simp; omega), dead_get (hne _ (by omega))]
      first
        | (rw [g_app (by rw [List.length_set]; exact m2), g_eq m2])
        | (rw [g_eq m2])
    have hpt : ∀ y : B, (deadT (H'.set (f + 2) y ++ [B.cells (eN v)]) t ++ [.cells (msC eN (vis ++ [v]))])[H'.length + 1]? = some (.cells (msC eN (vis ++ [v]))) := fun y => by
      rw [g_tail (by rw [dead_len, hL])]
    try simp -implicitDefEqProofs only [eN] at hpf
    try simp -implicitDefEqProofs only [eN] at hpb
    try simp -implicitDefEqProofs only [eN] at hpt
    try simp -implicitDefEqProofs only [eN] at hpre
    simp -implicitDefEqProofs only [op, ef, cl, sq, reduceIte, j2, j3, j4, j5, j6, j7, j8, j9, y1, S1, S2, List.length_set, r2, mf, m2, n2H, n2f, nHf, h1, hfg, hap, hpf]
    refine ⟨_, rfl, by rw [g_ne (by omega)]; exact hpb _, .i ⟨_, by rw [g_ne (by omega), g_eq (glt (hpf _))], .inr ⟨_, rfl, by rw [g_ne (by omega), g_ne (by omega)]; exact hpt _, by omega⟩, by rw [g_ne (by omega), g_ne (by omega)]; exact hpre _ _ _ h3 (by omega) (by omega), fun a y hy ha => ?_⟩, fun a y hy ha => ?_⟩
    · have := glt hy
      rw [g_ne (by omega), g_ne (by omega)]; exact hpre _ _ _ (h4 a y hy ha) (by omega) (by omega)
    · rw [hql] at ha
      rw [g_ne (by omega)]; exact hpre _ _ _ hy (by omega) (by omega)
  · rintro o H' ⟨vis, ⟨t, h1, h2, h3, h4⟩, hri, hb, hm'⟩
    refine ⟨hb, ?_⟩
    have k2 : ¬ (f + 2 = f + 1) := by omega
    have n20 : ¬ (f + 2 = f) := by omega
    simp -implicitDefEqProofs only [op, ef, cl, sq, reduceIte, j2, j3, j4, j5, j6, j7, j8, j9, y1, S1, S2, r2, n20, h1]
    refine endR_r (b := f + 1) (by simp -implicitDefEqProofs only [op, ef, cl, sq, reduceIte, j2, j3, j4, j5, j6, j7, j8, j9, y1, S1]) (by rw [g_ne (by omega)]; exact h3) ?_
    simp -implicitDefEqProofs only [op, ef, cl, sq, reduceIte, j2, j3, j4, j5, j6, j7, j8, j9, y1, S1]
    refine ⟨ext_of fun a y hy => ?_, t, vis, rfl, ?_, hri⟩
    · have := glt hy
      rw [g_ne (by omega), g_ne (by omega)]
      by_cases ha : a = mb
      · subst ha; rw [hm] at hy; cases hy; exact hm'
      · exact h4 a y hy ha
    · rcases h2 with h2 | ⟨d, e1, e2, e3⟩
      · exact .inl h2
      · exact .inr ⟨d, e1, by rw [g_ne (by omega), g_ne (by omega)]; exact e2, by omega⟩
theorem seq68 (es : List (ByteArray × T)) (c mb : Nat) (H : Heap) (hnd : (es.map (·.1)).Nodup) (hes : es.length ≤ 8000000) (hc : H[c]? = some (.cells [.map mb])) (hm : H[mb]? = some (.map (encK T.str es))) :
    W env (.call 85 [.sl .nil [], .fn 68 [.ptr c 0]]) H (SeqQ eS 1 es H) := by
  have lm := glt hm
  have lc := glt hc
  refine W.fnrI rfl rfl ?_
  simp -implicitDefEqProofs only [ir85, op, ef, cl, sq, reduceIte, j2, j3, j4, j5, j6, j7, j8, j9, y1, S1, S2]
  generalize hR : upd (upd (upd (regs0 [T.sl SK.nil [], T.fn 68 [T.ptr c 0]]) 2 (T.ptr H.length 0)) 4 (T.sl SK.nil [])) 6 (T.fn 68 [T.ptr c 0]) = R0
  have r2 : R0 2 = .ptr H.length 0 := by rw [← hR]; simp -implicitDefEqProofs only [op, ef, cl, sq, reduceIte, j2, j3, j4, j5, j6, j7, j8, j9, y1, S1]
  have r6 : R0 6 = .fn 68 [.ptr c 0] := by rw [← hR]; simp -implicitDefEqProofs only [op, ef, cl, sq, reduceIte, j2, j3, j4, j5, j6, j7, j8, j9, y1, S1]
  have r13 : R0 13 = .tup [] := by rw [← hR]; rfl
  refine W.rangeI (f := 68) (cs := [.ptr c 0]) (by simp -implicitDefEqProofs only [op, ef, cl, sq, reduceIte, j2, j3, j4, j5, j6, j7, j8, j9, y1, S1, r6]) ?_
  have a1 : (H ++ [B.cells [T.sl SK.nil []]]).length = H.length + 1 := by simp
  rw [a1, r13, push0]
  have e1 : H.length + 1 + 1 = H.length + 2 := rfl
  rw [e1]
  generalize hnn : H.length = f at *
  have n02 : ¬ (f = f + 2) := by omega
  have n12 : ¬ (f + 1 = f + 2) := by omega
  have hbl : ∀ x y : B, (H ++ [B.cells [T.sl SK.nil []]] ++ [y, x])[f + 2]? = some x := fun x y => by
    rw [List.getElem?_append_right (by omega), a1]
    have : f + 2 - (f + 1) = 1 := by omega
    rw [this]; rfl
  have hql : ∀ x y : B, (H ++ [B.cells [T.sl SK.nil []]] ++ [y, x]).length = f + 3 := fun x y => by simp [hnn]
  have hq0 : ∀ (x y : B) (a : Nat) z, H[a]? = some z → (H ++ [B.cells [T.sl SK.nil []]] ++ [y, x])[a]? = some z := fun x y a z hz => by
    have := glt hz
    rw [g_app (by omega), g_app (by omega)]; exact hz
  refine W.use (keys56 (hb := hbl _ _) es c (f + 2) mb _ (fun vis H' => At H' fun H' => ∃ t, H'[f]? = some (.cells [t]) ∧ Mut eS 1 (f + 4) H' t vis ∧ H'[f + 1]? = some .dfr ∧ ∀ (a : Nat) y, H[a]? = some y → a ≠ mb → H'[a]? = some y) rfl hnd ?_ (hq0 _ _ _ _ hc) (hq0 _ _ _ _ hm) ?_ ?_ ?_) ?_
  · refine .i ⟨.sl .nil [], ?_, mut_nil _ _ _ _, ?_, fun a y hy _ => hq0 _ _ _ _ hy⟩
    · rw [g_app (by omega), g_tail (by omega)]
    · rw [g_tail (by omega)]
  · rintro vis H' y ⟨t, h1, h2, h3, h4⟩
    refine .i ⟨t, by rw [g_ne (by omega)]; exact h1, ?_, by rw [g_ne (by omega)]; exact h3, fun a z hz ha => by rw [g_ne (Ne.symm ha)]; exact h4 a z hz ha⟩
    rcases h2 with h2 | ⟨d, e1, e2, e3⟩
    · exact .inl h2
    · exact .inr ⟨d, e1, by rw [g_ne (by omega)]; exact e2, e3⟩
  · rintro vis H' l ⟨t, h1, h2, h3, h4⟩
    exact .i ⟨t, by rw [g_app (glt h1)]; exact h1, h2.ext ⟨_, rfl⟩, by rw [g_app (glt h3)]; exact h3, fun a z hz ha => by rw [g_app (glt (h4 a z hz ha))]; exact h4 a z hz ha⟩
  · rintro vis v H' hvl ⟨t, h1, h2, h3, h4⟩ hb hlen
    rw [hql] at hlen
    have mf := glt h1
    have m1 := glt h3
    have m2 := glt hb
    have hne : ∀ a, a < f + 4 → ∀ off len m, t ≠ .msl a off len m := fun a ha off len m he => by
      rcases h2 with ⟨_, e⟩ | ⟨d, e, _, e3⟩
      · rw [e] at he; cases he
      · rw [e] at he; cases he; omega
    have hfg : fgt t = t := by rcases h2 with ⟨_, rfl⟩ | ⟨d, rfl, _⟩ <;> rfl
    have hL : ∀ y : B, (H'.set (f + 2) y).length = H'.length := fun y => by simp
    have hap : ∀ y : B, appM (H'.set (f + 2) y) 1 16 t [eS v] = some (.msl (H'.length) 0 (vis ++ [v]).length 1, deadT (H'.set (f + 2) y) t ++ [.cells (msC eS (vis ++ [v]))]) := fun y => by
      have := appM_fun (enc := eS) (n := 1) (bytes := 16) (n0 := f + 4) (H := H'.set (f + 2) y) (t := t) (l := vis) (fun _ => rfl) (by
        rcases h2 with h2 | ⟨d, e1, e2, e3⟩
        · exact .inl h2
        · refine .inr ⟨d, e1, ?_, e3⟩
          first
            | (rw [g_app (by rw [List.length_set]; exact glt e2), g_ne (by omega)]; exact e2)
            | (rw [g_ne (by omega)]; exact e2)) v (roomS (by omega) (by omega))
      rw [hL] at this
      rw [this, List.length_append]; rfl
    simp -implicitDefEqProofs only [eS] at hap
    have hpre : ∀ (y : B) (a : Nat) z, H'[a]? = some z → a ≠ f + 2 → a < f + 4 → (deadT (H'.set (f + 2) y) t ++ [.cells (msC eS (vis ++ [v]))])[a]? = some z := fun y a z hz h2 h4 => by
      have := glt hz
      rw [g_app (by rw [dead_len]; simp; omega), dead_get (hne a h4)]
      first
        | (rw [g_app (by rw [List.length_set]; exact this), g_ne (Ne.symm h2)]; exact hz)
        | (rw [g_ne (Ne.symm h2)]; exact hz)
    have n2H : ¬ (f + 2 = H'.length) := by omega
    have n2f : ¬ (f + 2 = f) := by omega
    have nHf : ¬ (H'.length = f) := by omega
    simp -implicitDefEqProofs only [op, ef, cl, sq, reduceIte, j2, j3, j4, j5, j6, j7, j8, j9, y1, S1, S2, setps, kN, eN]
    refine ⟨_, rfl, ?_, ?_⟩
    · first
        | exact hb
        | (rw [g_app m2]; exact hb)
    have hpf := fun y => hpre y f _ h1 (by omega) (by omega)
    have hpb : ∀ y : B, (deadT (H'.set (f + 2) y) t ++ [.cells (msC eS (vis ++ [v]))])[f + 2]? = some y := fun y => by
      rw [g_app (by rw [dead_len]; simp; omega), dead_get (hne _ (by omega))]
      first
        | (rw [g_app (by rw [List.length_set]; exact m2), g_eq m2])
        | (rw [g_eq m2])
    have hpt : ∀ y : B, (deadT (H'.set (f + 2) y) t ++ [.cells (msC eS (vis ++ [v]))])[H'.length]? = some (.cells (msC eS (vis ++ [v]))) := fun y => by
      rw [g_tail (by rw [dead_len, hL])]
    try simp -implicitDefEqProofs only [eS] at hpf
    try simp -implicitDefEqProofs only [eS] at hpb
    try simp -implicitDefEqProofs only [eS] at hpt
    try simp -implicitDefEqProofs only [eS] at hpre
    simp -implicitDefEqProofs only [op, ef, cl, sq, reduceIte, j2, j3, j4, j5, j6, j7, j8, j9, y1, S1, S2, List.length_set, r2, mf, m2, n2H, n2f, nHf, h1, hfg, hap, hpf]
    refine ⟨_, rfl, by rw [g_ne (by omega)]; exact hpb _, .i ⟨_, by rw [g_ne (by omega), g_eq (glt (hpf _))], .inr ⟨_, rfl, by rw [g_ne (by omega), g_ne (by omega)]; exact hpt _, by omega⟩, by rw [g_ne (by omega), g_ne (by omega)]; exact hpre _ _ _ h3 (by omega) (by omega), fun a y hy ha => ?_⟩, fun a y hy ha => ?_⟩
    · have := glt hy
      rw [g_ne (by omega), g_ne (by omega)]; exact hpre _ _ _ (h4 a y hy ha) (by omega) (by omega)
    · rw [hql] at ha
      rw [g_ne (by omega)]; exact hpre _ _ _ hy (by omega) (by omega)
  · rintro o H' ⟨vis, ⟨t, h1, h2, h3, h4⟩, hri, hb, hm'⟩
    refine ⟨hb, ?_⟩
    have k2 : ¬ (f + 2 = f + 1) := by omega
    have n20 : ¬ (f + 2 = f) := by omega
    simp -implicitDefEqProofs only [op, ef, cl, sq, reduceIte, j2, j3, j4, j5, j6, j7, j8, j9, y1, S1, S2, r2, n20, h1]
    refine endR_r (b := f + 1) (by simp -implicitDefEqProofs only [op, ef, cl, sq, reduceIte, j2, j3, j4, j5, j6, j7, j8, j9, y1, S1]) (by rw [g_ne (by omega)]; exact h3) ?_
    simp -implicitDefEqProofs only [op, ef, cl, sq, reduceIte, j2, j3, j4, j5, j6, j7, j8, j9, y1, S1]
    refine ⟨ext_of fun a y hy => ?_, t, vis, rfl, ?_, hri⟩
    · have := glt hy
      rw [g_ne (by omega), g_ne (by omega)]
      by_cases ha : a = mb
      · subst ha; rw [hm] at hy; cases hy; exact hm'
      · exact h4 a y hy ha
    · rcases h2 with h2 | ⟨d, e1, e2, e3⟩
      · exact .inl h2
      · exact .inr ⟨d, e1, by rw [g_ne (by omega), g_ne (by omega)]; exact e2, by omega⟩
end Go.Proofs.YtodegnhallgnkaaGreat.St
end

section
namespace Go.Proofs.YtodegnhallgnkaaGreat.St
open Go.Rmp Go.Proofs.YtodegnhallgnkaaGreat.Ir
set_option maxRecDepth 10000
theorem coll48 (es : List (Nm × T)) (c mb : Nat) (H : Heap) (hnd : (es.map (·.1)).Nodup) (hes : es.length ≤ 8000000) (hc : H[c]? = some (.cells [.map mb])) (hm : H[mb]? = some (.map (encK kN es))) :
    W env (.call 58 [.fn 60 [.ptr c 0]]) H (SeqQ eN 2 es H) := by
  refine W.fnI rfl rfl rfl ?_
  simp -implicitDefEqProofs only [ir58, op, ef, cl, sq, reduceIte, j2, j3, j4, j5, j6, j7, j8, j9, y1, S1]
  refine callB_of _ _ _ _ _ _ _ _ (seq63 es c mb H hnd hes hc hm) ?_
  rintro u H1 ⟨hx, t, vis, hu, h1, h2⟩
  cases hu
  simp -implicitDefEqProofs only [op, ef, cl, sq, reduceIte, j2, j3, j4, j5, j6, j7, j8, j9, y1, S1]
  exact ⟨hx, _, vis, rfl, h1, h2⟩
theorem coll54 (es : List (ByteArray × T)) (c mb : Nat) (H : Heap) (hnd : (es.map (·.1)).Nodup) (hes : es.length ≤ 8000000) (hc : H[c]? = some (.cells [.map mb])) (hm : H[mb]? = some (.map (encK T.str es))) :
    W env (.call 66 [.fn 68 [.ptr c 0]]) H (SeqQ eS 1 es H) := by
  refine W.fnI rfl rfl rfl ?_
  simp -implicitDefEqProofs only [ir66, op, ef, cl, sq, reduceIte, j2, j3, j4, j5, j6, j7, j8, j9, y1, S1]
  refine callB_of _ _ _ _ _ _ _ _ (seq68 es c mb H hnd hes hc hm) ?_
  rintro u H1 ⟨hx, t, vis, hu, h1, h2⟩
  cases hu
  simp -implicitDefEqProofs only [op, ef, cl, sq, reduceIte, j2, j3, j4, j5, j6, j7, j8, j9, y1, S1]
  exact ⟨hx, _, vis, rfl, h1, h2⟩
theorem arr_get {α : Type} [Inhabited α] {d : Array α} {i : Nat} (h : i < d.size) : d.toList[i]? = some d[i]! := by
  rw [Array.getElem?_toList, Array.getElem?_eq_getElem h, getElem!_pos d i h]
theorem swp_list {α : Type} [Inhabited α] (d : Array α) (i j : Nat) : (Go.Sort.swp d i j).toList = (d.toList.set i d[j]!).set j d[i]! := by
  simp [Go.Sort.swp, Array.toList_setIfInBounds]
theorem swp_size {α : Type} [Inhabited α] (d : Array α) (i j : Nat) : (Go.Sort.swp d i j).size = d.size := by simp [Go.Sort.swp]
def ltM (a b : Nm) : Bool := decide (cmpM a b < 0)
def SrtQ (c : Nat) (d' : Array Nm) (H : Heap) : Out → Heap → Prop := fun o H' => o = .val (.tup []) ∧ H'[c]? = some (.cells (msC eN d'.toList)) ∧ Frm (fun x => x = c) H H'
theorem swp_set {Hx : Heap} {c : Nat} (d : Array Nm) {i j : Nat} (hi : i < d.size) (hj : j < d.size) :
    stcB Hx c [.str d[j]!.1, .int .u64 d[j]!.2] (i * 2) (some (.cells (msC eN d.toList))) = some (Hx.set c (.cells (msC eN (d.toList.set i d[j]!)))) ∧
    ∀ Hy, stcB Hy c [.str d[i]!.1, .int .u64 d[i]!.2] (j * 2) (some (.cells (msC eN (d.toList.set i d[j]!)))) = some (Hy.set c (.cells (msC eN (Go.Sort.swp d i j).toList))) := by
  have g1 := msC_set (enc := eN) (n := 2) (y := d[j]!) (fun _ => rfl) (arr_get hi) Hx c (eN d[j]!) 0 (by simp [eN]) (by simp [eN])
  obtain ⟨z, hz⟩ := getP (l := d.toList.set i d[j]!) (i := j) (by simpa using hj)
  have g2 := fun Hy => msC_set (enc := eN) (n := 2) (y := d[i]!) (fun _ => rfl) hz Hy c (eN d[i]!) 0 (by simp [eN]) (by simp [eN])
  refine ⟨by simpa [eN] using g1, fun Hy => ?_⟩
  rw [swp_list]
  simpa [eN] using g2 Hy
theorem ld_at {d : Array Nm} {i : Nat} (h : i < d.size) : ldcB 2 (i * 2) (some (.cells (msC eN d.toList))) = some [.str d[i]!.1, .int .u64 d[i]!.2] := by
  have := msC_get (enc := eN) (n := 2) (fun _ => rfl) (arr_get h) 0 2 (by decide)
  simpa [eN] using this
open Go.Sort in
theorem ins75 (c : Nat) (d : Array Nm) (a b : Nat) (H : Heap) (hc : H[c]? = some (.cells (msC eN d.toList))) (hb : b ≤ d.size) (hab : a ≤ b) (hs : d.size < 4611686018427387903) :
    W env (.call 90 [.msl c 0 d.size 2, .int .i64 a, .int .i64 b, .fn 43 []]) H (SrtQ c (insertionSort ltM d a b) H) := by
  refine W.fnI rfl rfl rfl ?_
  have wa := wrap_succ (show a < 9223372036854775807 by omega)
  simp -implicitDefEqProofs only [ir90, op, ef, cl, sq, reduceIte, j2, j3, j4, j5, j6, j7, j8, j9, y1, S1, wa]
  refine W.loopI (fun (i : Nat) R H' => At H' (fun H' => ∃ di : Array Nm, H'[c]? = some (.cells (msC eN di.toList)) ∧ di.size = d.size ∧ insOuter ltM a b i di = insertionSort ltM d a b ∧ Frm (fun x => x = c) H H') ∧ R 0 = .msl c 0 d.size 2 ∧ R 1 = .int .i64 a ∧ R 2 = .int .i64 b ∧ R 3 = .fn 43 [] ∧ R 8 = .int .i64 i ∧ a + 1 ≤ i) (fun i => b - i) (a + 1) ⟨.i ⟨d, hc, rfl, rfl, Frm.refl _ _⟩, rfl, rfl, rfl, rfl, rfl, Nat.le_refl _⟩ ?_
  rintro i R H1 ⟨⟨di, hd, hsz, hins, hfr⟩, h0, h1, h2, h3, h8, hia⟩
  by_cases hlt : i < b
  · have wi := wrap_succ (show i < 9223372036854775807 by omega)
    simp -implicitDefEqProofs only [op, ef, cl, sq, reduceIte, j2, j3, j4, j5, j6, j7, j8, j9, y1, S1, h0, h1, h2, h3, h8, hlt]
    refine W.loopE 2 (fun (j : Nat) R H' => At H' (fun H' => ∃ dj : Array Nm, H'[c]? = some (.cells (msC eN dj.toList)) ∧ dj.size = d.size ∧ insInner ltM a j dj = insInner ltM a i di ∧ Frm (fun x => x = c) H H') ∧ R 0 = .msl c 0 d.size 2 ∧ R 1 = .int .i64 a ∧ R 2 = .int .i64 b ∧ R 3 = .fn 43 [] ∧ R 8 = .int .i64 i ∧ R 9 = .int .i64 j ∧ j ≤ i) (fun j => j) i
      (fun R H' => At H' (fun H' => ∃ dj : Array Nm, H'[c]? = some (.cells (msC eN dj.toList)) ∧ dj.size = d.size ∧ dj = insInner ltM a i di ∧ Frm (fun x => x = c) H H') ∧ R 0 = .msl c 0 d.size 2 ∧ R 1 = .int .i64 a ∧ R 2 = .int .i64 b ∧ R 3 = .fn 43 [] ∧ R 8 = .int .i64 i) ?_ ?_ ?_
    · refine ⟨.i ⟨di, hd, hsz, rfl, hfr⟩, ?_, ?_, ?_, ?_, ?_, ?_, Nat.le_refl _⟩
      all_goals (simp -implicitDefEqProofs only [op, ef, cl, sq, reduceIte, j2, j3, j4, j5, j6, j7, j8, j9, y1, S1, h0, h1, h2, h3, h8])
    · rintro j R H2 ⟨⟨dj, hd2, hsz2, hinn, hfr2⟩, q0, q1, q2, q3, q8, q9, hji⟩
      by_cases hja : a < j
      · obtain ⟨j', rfl⟩ : ∃ j', j = j' + 1 := ⟨j - 1, by omega⟩
        have wp : IntKind.i64.wrap (((j' + 1 : Nat) : Int) - 1) = (j' : Int) := by rw [wrap64 (by omega)]; omega
        have j1 : j' + 1 < d.size := by omega
        have j0 : j' < d.size := by omega
        have i1 : iadT 2 (j' + 1) (.msl c 0 d.size 2) = some (.ptr c ((j' + 1) * 2)) := by rw [iad_m]; simp [j1]
        have i0 : iadT 2 j' (.msl c 0 d.size 2) = some (.ptr c (j' * 2)) := by rw [iad_m]; simp [j0]
        have v1 := ld_at (d := dj) (i := j' + 1) (by omega)
        have v0 := ld_at (d := dj) (i := j') (by omega)
        simp -implicitDefEqProofs only [op, ef, cl, sq, reduceIte, j2, j3, j4, j5, j6, j7, j8, j9, y1, S1, q0, q1, q2, q3, q8, q9, hja, natOf_nat, i1, i0, wp, hd2, v1, v0]
        refine b_vg _ _ _ _ _ _ _ (by simp -implicitDefEqProofs only [op, ef, cl, sq, reduceIte, j2, j3, j4, j5, j6, j7, j8, j9, y1, S1]) ?_
        simp -implicitDefEqProofs only [op, ef, cl, sq, reduceIte, j2, j3, j4, j5, j6, j7, j8, j9, y1, S1, callvB, q0, q1, q2, q3, q8, q9, List.append_nil]
        refine callB_of _ _ _ _ _ _ _ _ (byName36 dj[j' + 1]! dj[j']! _) ?_
        rintro u H3 ⟨hu, hx⟩
        cases hu
        have hx : Ext H2 H3 := hx
        have hd3 := hx.get hd2
        obtain ⟨s1, s2⟩ := swp_set (Hx := H3) (c := c) dj (i := j' + 1) (j := j') (by omega) (by omega)
        have hfr3 : Frm (fun x => x = c) H H3 := hfr2.trans (ext_frm (F := fun _ => False) hx) (fun _ h => h.elim)
        have ltd : ltM dj[j' + 1]! dj[j']! = decide (cmpM dj[j' + 1]! dj[j']! < 0) := rfl
        by_cases hc0 : cmpM dj[j' + 1]! dj[j']! < 0
        · simp -implicitDefEqProofs only [op, ef, cl, sq, reduceIte, j2, j3, j4, j5, j6, j7, j8, j9, y1, S1, q0, q1, q2, q3, q8, q9, hc0, natOf_nat, i1, i0, wp, hd3, v1, v0, s1, S2, s2, glt hd3]
          exact ⟨j', by omega, .i ⟨swp dj (j' + 1) j', g_eq (by rw [List.length_set]; exact glt hd3), by rw [swp_size]; exact hsz2, by rw [← hinn]; conv => { rhs; rw [insInner, if_pos (by simp -implicitDefEqProofs only [Bool.and_eq_true, decide_eq_true_eq, ltd]; exact ⟨hja, hc0⟩)] }, (hfr3.set (.inl rfl) _).set (.inl rfl) _⟩, rfl, by omega⟩
        · simp -implicitDefEqProofs only [op, ef, cl, sq, reduceIte, j2, j3, j4, j5, j6, j7, j8, j9, y1, S1, q0, q1, q2, q3, q8, q9, hc0]
          exact .i ⟨dj, hd3, hsz2, by rw [← hinn, insInner, ltd]; simp [hc0], hfr3⟩
      · simp -implicitDefEqProofs only [op, ef, cl, sq, reduceIte, j2, j3, j4, j5, j6, j7, j8, j9, y1, S1, q0, q1, q2, q3, q8, q9, hja]
        refine .i ⟨dj, hd2, hsz2, ?_, hfr2⟩
        rw [← hinn]
        cases j with
        | zero => rfl
        | succ j => rw [insInner, if_neg (by simp -implicitDefEqProofs only [Bool.and_eq_true, decide_eq_true_eq]; omega)]
    · rintro R H2 ⟨⟨dj, hd2, hsz2, hinn, hfr2⟩, q0, q1, q2, q3, q8⟩
      simp -implicitDefEqProofs only [op, ef, cl, sq, reduceIte, j2, j3, j4, j5, j6, j7, j8, j9, y1, S1, q0, q1, q2, q3, q8, wi]
      refine ⟨i + 1, by omega, .i ⟨dj, hd2, hsz2, ?_, hfr2⟩, rfl, by omega⟩
      rw [← hins, hinn]
      conv => rhs; rw [insOuter, if_pos hlt]
  · simp -implicitDefEqProofs only [op, ef, cl, sq, reduceIte, j2, j3, j4, j5, j6, j7, j8, j9, y1, S1, h0, h1, h2, h3, h8, hlt]
    rw [insOuter, if_neg hlt] at hins
    subst hins
    exact ⟨rfl, hd, hfr⟩
theorem map_get {β : Type} {K : Option β → Prop} {A : Array UInt8} {n : Nat} (hn : n < A.size) (f : UInt8 → β) (h : ∀ c, K (some (f c))) : K (Option.map f A[n]?) := by rw [Array.getElem?_eq_getElem hn]; exact h _
theorem lenN (n : Nat) (hn : n < 256) (H : Heap) : W env (.call 78 [.int .u64 n]) H (fun o H' => H' = H ∧ ∃ m : Nat, o = .val (.int .i64 m)) := by
  refine W.fnI rfl rfl rfl ?_
  simp -implicitDefEqProofs only [ir78, op, ef, cl, sq, reduceIte, j2, j3, j4, j5, j6, j7, j8, j9, y1, S1]
  refine callB_of _ _ _ _ _ _ _ (fun o H' => H' = H ∧ ∃ m : Nat, o = .val (.int .i64 m)) ?_ ?_
  · refine W.fnI rfl rfl rfl ?_
    have h1 : ¬ (4294967296 ≤ n) := by omega
    have h2 : ¬ (65536 ≤ n) := by omega
    have h3 : ¬ (256 ≤ n) := by omega
    have w8' := wrap8 hn
    simp -implicitDefEqProofs only [ir99, op, ef, cl, sq, reduceIte, j2, j3, j4, j5, j6, j7, j8, j9, y1, S1, h1, h2, h3, w8', natOf_nat]
    refine map_get (K := stepB env _ _ _ _ _ _ _ _) (by show n < 256; exact hn) _ fun ch => ?_
    have hch : ch.toNat < 256 := ch.toNat_lt
    have wc : IntKind.i64.wrap ((ch.toNat : Nat) : Int) = ((ch.toNat : Nat) : Int) := wrap64 (by omega)
    have wc2 : IntKind.i64.wrap (0 + ((ch.toNat : Nat) : Int)) = ((ch.toNat : Nat) : Int) := by rw [wrap64 (by omega)]; omega
    simp -implicitDefEqProofs only [op, ef, cl, sq, reduceIte, j2, j3, j4, j5, j6, j7, j8, j9, y1, S1, wc, wc2]
    exact ⟨ch.toNat, rfl⟩
  · rintro u H' ⟨rfl, m, hu⟩
    cases hu
    simp -implicitDefEqProofs only [op, ef, cl, sq, reduceIte, j2, j3, j4, j5, j6, j7, j8, j9, y1, S1]
    exact ⟨m, rfl⟩
end Go.Proofs.YtodegnhallgnkaaGreat.St
end

section
namespace Go.Proofs.YtodegnhallgnkaaGreat.St
open Go.Rmp Go.Proofs.YtodegnhallgnkaaGreat.Ir
set_option maxRecDepth 10000
set_option maxHeartbeats 8000000
theorem wA {a b : Nat} (h : a + b < 9223372036854775808) : IntKind.i64.wrap ((a : Int) + (b : Int)) = ((a + b : Nat) : Int) := by rw [wrap64 (by omega)]; omega
theorem wA1 {a : Nat} (h : a + 1 < 9223372036854775808) : IntKind.i64.wrap ((a : Int) + 1) = ((a + 1 : Nat) : Int) := by rw [wrap64 (by omega)]; omega
theorem wS {a b : Nat} (h : b ≤ a ∧ a < 9223372036854775808) : IntKind.i64.wrap ((a : Int) - (b : Int)) = ((a - b : Nat) : Int) := by rw [wrap64 (by omega)]; omega
theorem wS1 {a : Nat} (h : 1 ≤ a ∧ a < 9223372036854775808) : IntKind.i64.wrap ((a : Int) - 1) = ((a - 1 : Nat) : Int) := by rw [wrap64 (by omega)]; omega
theorem wM {a : Nat} (h : 2 * a < 9223372036854775808) : IntKind.i64.wrap (2 * (a : Int)) = ((2 * a : Nat) : Int) := by rw [wrap64 (by omega)]; omega
section
variable {c n i j : Nat} {d : Array Nm}
theorem iadm (h : i < n) : iadT 2 i (.msl c 0 n 2) = some (.ptr c (i * 2)) := by rw [iad_m]; simp [h]
theorem len_ms {l : List Nm} : (msC eN l).length = l.length * 2 := by rw [msC_len (n := 2) (fun _ => rfl)]
theorem ldm1 (h : i < d.size) : (i * 2 + 2 ≤ (msC eN d.toList).length) = True := by rw [len_ms]; simp; omega
theorem ldm2 (h : i < d.size) : List.take 2 (List.drop (i * 2) (msC eN d.toList)) = [.str d[i]!.1, .int .u64 d[i]!.2] := by
  have := ld_at h
  rw [ldcB_c, if_pos (by rw [len_ms]; simp; omega)] at this
  exact Option.some.inj this
theorem stm0 {x : Nm} (h : i < d.size) : (i * 2 + 2 ≤ (msC eN (d.toList.set j x)).length) = True := by rw [len_ms]; simp; omega
theorem stm1 (h : i < d.size) (h' : j < d.size) : (List.take (i * 2) (msC eN d.toList) ++ [.str d[j]!.1, .int .u64 d[j]!.2]) ++ List.drop (i * 2 + 2) (msC eN d.toList) = msC eN (d.toList.set i d[j]!) := by
  have := (swp_set (Hx := [.cells []]) (c := 0) d h h').1
  rw [stcB_c, if_pos (by rw [len_ms]; simp; omega)] at this
  simpa using this
theorem stm2 (h : i < d.size) (h' : j < d.size) : (List.take (j * 2) (msC eN (d.toList.set i d[j]!)) ++ [.str d[i]!.1, .int .u64 d[i]!.2]) ++ List.drop (j * 2 + 2) (msC eN (d.toList.set i d[j]!)) = msC eN (Go.Sort.swp d i j).toList := by
  have := (swp_set (Hx := [.cells []]) (c := 0) d h h').2 [.cells []]
  rw [stcB_c, if_pos (by rw [len_ms]; simp; omega)] at this
  simpa using this
end
theorem dect {p : Prop} [Decidable p] (h : p) : decide p = true := decide_eq_true h
theorem decf {p : Prop} [Decidable p] (h : ¬ p) : decide p = false := decide_eq_false h
theorem and_t {a b : Bool} (h : a = true) (h' : b = true) : (a && b) = true := by rw [h, h']; rfl
theorem and_f1 {a b : Bool} (h : a = false) : ¬ ((a && b) = true) := by rw [h]; simp
theorem and_f2 {a b : Bool} (h : b = false) : ¬ ((a && b) = true) := by rw [h]; simp
theorem not_t {a : Bool} (h : a = true) : ¬ ((!a) = true) := by rw [h]; simp
theorem not_f {a : Bool} (h : a = false) : (!a) = true := by rw [h]; rfl
def SC (c n : Nat) (H : Heap) (P : Array Nm → Prop) (H' : Heap) : Prop := ∃ d : Array Nm, H'[c]? = some (.cells (msC eN d.toList)) ∧ d.size = n ∧ P d ∧ Frm (fun x => x = c) H H'
theorem SC.swp {c n : Nat} {H H1 : Heap} {P : Array Nm → Prop} {y x : B} {d' : Array Nm} (hd : H1[c]? = some y) (hs : d'.size = n) (hP : P d') (hf : Frm (fun x => x = c) H H1) : SC c n H P ((H1.set c x).set c (.cells (msC eN d'.toList))) :=
  ⟨d', g_eq (by rw [List.length_set]; exact glt hd), hs, hP, (hf.set (.inl rfl) _).set (.inl rfl) _⟩
def SrtN (c n : Nat) (d' : Array Nm) (H : Heap) : Out → Heap → Prop := fun o H' => o = .val (.tup []) ∧ SC c n H (fun x => x = d') H'
open Go.Sort in
theorem rev79 (c n : Nat) (d : Array Nm) (a b : Nat) (H : Heap) (hn : d.size = n) (hc : H[c]? = some (.cells (msC eN d.toList))) (hb : b ≤ n) (hab : a < b) (hs : n < 4611686018427387903) :
    W env (.call 94 [.msl c 0 n 2, .int .i64 a, .int .i64 b, .fn 43 []]) H (SrtN c n (reverseRange d a b) H) := by
  refine W.fnI rfl rfl rfl ?_
  simp -implicitDefEqProofs (maxSteps := 1000000) (disch := omega) only [ir94, op, ef, cl, sq, reduceIte, j2, j3, j4, j5, j6, j7, j8, j9, y1, S1, wS1]
  refine W.loopI (fun (i : Nat) R H' => At H' (fun H' => ∃ j, R 9 = .int .i64 (j : Nat) ∧ i + j = a + b - 1 ∧ a ≤ i ∧ SC c n H (fun di => reverseLoop i j di = reverseRange d a b) H') ∧ R 0 = .msl c 0 n 2 ∧ R 8 = .int .i64 i) (fun i => a + b - i) a ⟨.i ⟨b - 1, rfl, by omega, Nat.le_refl _, d, hc, hn, rfl, Frm.refl _ _⟩, rfl, rfl⟩ ?_
  rintro i R H1 ⟨⟨j, h9, hij, hai, di, hd, hsz, hrev, hfr⟩, h0, h8⟩
  have lc := glt hd
  by_cases hlt : i < j
  · simp -implicitDefEqProofs (maxSteps := 1000000) (disch := omega) only [natOf_nat, iadm, ldm1, ldm2, stm0, stm1, stm2, wA, wA1, wS, wS1, wM, S2, op, ef, cl, sq, reduceIte, j2, j3, j4, j5, j6, j7, j8, j9, y1, S1, h0, h8, h9, hlt, hd, lc]
    exact ⟨i + 1, by omega, .i ⟨j - 1, rfl, by omega, by omega, .swp hd (by rw [swp_size]; exact hsz) (by rw [← hrev]; conv => { rhs; rw [reverseLoop, if_pos hlt] }) hfr⟩, rfl⟩
  · simp -implicitDefEqProofs only [op, ef, cl, sq, reduceIte, j2, j3, j4, j5, j6, j7, j8, j9, y1, S1, h0, h8, h9, hlt]
    rw [reverseLoop, if_neg hlt] at hrev
    exact ⟨rfl, di, hd, hsz, hrev, hfr⟩
end Go.Proofs.YtodegnhallgnkaaGreat.St
end

section
namespace Go.Proofs.YtodegnhallgnkaaGreat.St
open Go.Rmp Go.Proofs.YtodegnhallgnkaaGreat.Ir
set_option maxRecDepth 10000
set_option maxHeartbeats 8000000
open Go.Sort in
theorem sift96 (c n : Nat) (d : Array Nm) (lo hi first : Nat) (H : Heap) (hn : d.size = n) (hc : H[c]? = some (.cells (msC eN d.toList))) (hb : first + hi ≤ n) (hlo : lo ≤ n) (hs : n < 2305843009213693951) :
    W env (.call 111 [.msl c 0 n 2, .int .i64 lo, .int .i64 hi, .int .i64 first, .fn 43 []]) H (SrtN c n (siftDown ltM hi first lo d) H) := by
  refine W.fnI rfl rfl rfl ?_
  simp -implicitDefEqProofs only [ir111, op, ef, cl, sq, reduceIte, j2, j3, j4, j5, j6, j7, j8, j9, y1, S1]
  refine W.loopI (fun (r : Nat) R H' => At H' (fun H' => SC c n H (fun di => siftDown ltM hi first r di = siftDown ltM hi first lo d) H') ∧ R 0 = .msl c 0 n 2 ∧ R 2 = .int .i64 hi ∧ R 3 = .int .i64 first ∧ R 4 = .fn 43 [] ∧ R 10 = .int .i64 r ∧ r ≤ n) (fun r => hi - r) lo ⟨.i ⟨d, hc, hn, rfl, Frm.refl _ _⟩, rfl, rfl, rfl, rfl, rfl, hlo⟩ ?_
  rintro r R H1 ⟨⟨di, hd, hsz, hP, hfr⟩, h0, h2, h3, h4, h10, hr⟩
  have lc := glt hd
  by_cases hge : 2 * r + 1 ≥ hi
  · simp -implicitDefEqProofs (maxSteps := 1000000) (disch := omega) only [natOf_nat, iadm, ldm1, ldm2, stm0, stm1, stm2, wA, wA1, wS, wS1, wM, S2, op, ef, cl, sq, reduceIte, j2, j3, j4, j5, j6, j7, j8, j9, y1, S1, h0, h2, h3, h4, h10, hge]
    rw [siftDown, dif_pos hge] at hP
    exact ⟨rfl, di, hd, hsz, hP, hfr⟩
  by_cases h2hi : 2 * r + 1 + 1 < hi
  · simp -implicitDefEqProofs (maxSteps := 1000000) (disch := omega) only [natOf_nat, iadm, ldm1, ldm2, stm0, stm1, stm2, wA, wA1, wS, wS1, wM, S2, op, ef, cl, sq, reduceIte, j2, j3, j4, j5, j6, j7, j8, j9, y1, S1, h0, h2, h3, h4, h10, hge, h2hi, hd, lc]
    refine b_vg _ _ _ _ _ _ _ (by simp -implicitDefEqProofs (maxSteps := 1000000) (disch := omega) only [natOf_nat, iadm, ldm1, ldm2, stm0, stm1, stm2, wA, wA1, wS, wS1, wM, S2, op, ef, cl, sq, reduceIte, j2, j3, j4, j5, j6, j7, j8, j9, y1, S1, h0, h2, h3, h4, h10, hge, h2hi, hd, lc]) ?_
    simp -implicitDefEqProofs (maxSteps := 1000000) (disch := omega) only [natOf_nat, iadm, ldm1, ldm2, stm0, stm1, stm2, wA, wA1, wS, wS1, wM, S2, op, ef, cl, sq, reduceIte, j2, j3, j4, j5, j6, j7, j8, j9, y1, S1, callvB, h0, h2, h3, h4, h10, hge, h2hi, hd, lc, List.append_nil]
    refine callB_of _ _ _ _ _ _ _ _ (byName36 di[first + (2 * r + 1)]! di[first + (2 * r + 1) + 1]! _) ?_
    rintro u H2 ⟨hu, hx⟩
    cases hu
    have hx : Ext H1 H2 := hx
    have hd := hx.get hd
    have lc := glt hd
    have hfr := hfr.trans (ext_frm (F := fun _ => False) hx) (fun _ h => h.elim)
    have lt1 : ltM di[first + (2 * r + 1)]! di[first + (2 * r + 1) + 1]! = decide (cmpM di[first + (2 * r + 1)]! di[first + (2 * r + 1) + 1]! < 0) := rfl
    by_cases c1 : cmpM di[first + (2 * r + 1)]! di[first + (2 * r + 1) + 1]! < 0
    · simp -implicitDefEqProofs (maxSteps := 1000000) (disch := omega) only [natOf_nat, iadm, ldm1, ldm2, stm0, stm1, stm2, wA, wA1, wS, wS1, wM, S2, op, ef, cl, sq, reduceIte, j2, j3, j4, j5, j6, j7, j8, j9, y1, S1, h0, h2, h3, h4, h10, hge, h2hi, hd, lc, c1]
      refine b_vg _ _ _ _ _ _ _ (by simp -implicitDefEqProofs (maxSteps := 1000000) (disch := omega) only [natOf_nat, iadm, ldm1, ldm2, stm0, stm1, stm2, wA, wA1, wS, wS1, wM, S2, op, ef, cl, sq, reduceIte, j2, j3, j4, j5, j6, j7, j8, j9, y1, S1, h0, h2, h3, h4, h10, hge, h2hi, hd, lc]) ?_
      simp -implicitDefEqProofs (maxSteps := 1000000) (disch := omega) only [natOf_nat, iadm, ldm1, ldm2, stm0, stm1, stm2, wA, wA1, wS, wS1, wM, S2, op, ef, cl, sq, reduceIte, j2, j3, j4, j5, j6, j7, j8, j9, y1, S1, callvB, h0, h2, h3, h4, h10, hge, h2hi, hd, lc, List.append_nil]
      refine callB_of _ _ _ _ _ _ _ _ (byName36 di[first + r]! di[first + (2 * r + 1 + 1)]! _) ?_
      rintro u H3 ⟨hu, hx⟩
      cases hu
      have hx : Ext H2 H3 := hx
      have hd := hx.get hd
      have lc := glt hd
      have hfr := hfr.trans (ext_frm (F := fun _ => False) hx) (fun _ h => h.elim)
      have lt2 : ltM di[first + r]! di[first + (2 * r + 1 + 1)]! = decide (cmpM di[first + r]! di[first + (2 * r + 1 + 1)]! < 0) := rfl
      by_cases c2 : cmpM di[first + r]! di[first + (2 * r + 1 + 1)]! < 0
      · simp -implicitDefEqProofs (maxSteps := 1000000) (disch := omega) only [natOf_nat, iadm, ldm1, ldm2, stm0, stm1, stm2, wA, wA1, wS, wS1, wM, S2, op, ef, cl, sq, reduceIte, j2, j3, j4, j5, j6, j7, j8, j9, y1, S1, h0, h2, h3, h4, h10, hge, h2hi, hd, lc, c2]
        refine ⟨2 * r + 1 + 1, by omega, .i (.swp hd (by rw [swp_size]; exact hsz) ?_ hfr), rfl, by omega⟩
        rw [← hP]
        conv => { rhs; rw [siftDown, dif_neg hge, if_pos (and_t (dect h2hi) (lt1.trans (dect c1))), if_neg (not_t (lt2.trans (dect c2))), dif_pos h2hi] }
      · simp -implicitDefEqProofs (maxSteps := 1000000) (disch := omega) only [natOf_nat, iadm, ldm1, ldm2, stm0, stm1, stm2, wA, wA1, wS, wS1, wM, S2, op, ef, cl, sq, reduceIte, j2, j3, j4, j5, j6, j7, j8, j9, y1, S1, h0, h2, h3, h4, h10, hge, h2hi, hd, lc, c2]
        rw [siftDown, dif_neg hge, if_pos (and_t (dect h2hi) (lt1.trans (dect c1))), if_pos (not_f (lt2.trans (decf c2)))] at hP
        exact ⟨rfl, di, hd, hsz, hP, hfr⟩
    · simp -implicitDefEqProofs (maxSteps := 1000000) (disch := omega) only [natOf_nat, iadm, ldm1, ldm2, stm0, stm1, stm2, wA, wA1, wS, wS1, wM, S2, op, ef, cl, sq, reduceIte, j2, j3, j4, j5, j6, j7, j8, j9, y1, S1, h0, h2, h3, h4, h10, hge, h2hi, hd, lc, c1]
      refine b_vg _ _ _ _ _ _ _ (by simp -implicitDefEqProofs (maxSteps := 1000000) (disch := omega) only [natOf_nat, iadm, ldm1, ldm2, stm0, stm1, stm2, wA, wA1, wS, wS1, wM, S2, op, ef, cl, sq, reduceIte, j2, j3, j4, j5, j6, j7, j8, j9, y1, S1, h0, h2, h3, h4, h10, hge, h2hi, hd, lc]) ?_
      simp -implicitDefEqProofs (maxSteps := 1000000) (disch := omega) only [natOf_nat, iadm, ldm1, ldm2, stm0, stm1, stm2, wA, wA1, wS, wS1, wM, S2, op, ef, cl, sq, reduceIte, j2, j3, j4, j5, j6, j7, j8, j9, y1, S1, callvB, h0, h2, h3, h4, h10, hge, h2hi, hd, lc, List.append_nil]
      refine callB_of _ _ _ _ _ _ _ _ (byName36 di[first + r]! di[first + (2 * r + 1)]! _) ?_
      rintro u H3 ⟨hu, hx⟩
      cases hu
      have hx : Ext H2 H3 := hx
      have hd := hx.get hd
      have lc := glt hd
      have hfr := hfr.trans (ext_frm (F := fun _ => False) hx) (fun _ h => h.elim)
      have lt2 : ltM di[first + r]! di[first + (2 * r + 1)]! = decide (cmpM di[first + r]! di[first + (2 * r + 1)]! < 0) := rfl
      by_cases c2 : cmpM di[first + r]! di[first + (2 * r + 1)]! < 0
      · simp -implicitDefEqProofs (maxSteps := 1000000) (disch := omega) only [natOf_nat, iadm, ldm1, ldm2, stm0, stm1, stm2, wA, wA1, wS, wS1, wM, S2, op, ef, cl, sq, reduceIte, j2, j3, j4, j5, j6, j7, j8, j9, y1, S1, h0, h2, h3, h4, h10, hge, h2hi, hd, lc, c2]
        refine ⟨2 * r + 1, by omega, .i (.swp hd (by rw [swp_size]; exact hsz) ?_ hfr), rfl, by omega⟩
        rw [← hP]
        conv => { rhs; rw [siftDown, dif_neg hge, if_neg (and_f2 (lt1.trans (decf c1))), if_neg (not_t (lt2.trans (dect c2)))] }
      · simp -implicitDefEqProofs (maxSteps := 1000000) (disch := omega) only [natOf_nat, iadm, ldm1, ldm2, stm0, stm1, stm2, wA, wA1, wS, wS1, wM, S2, op, ef, cl, sq, reduceIte, j2, j3, j4, j5, j6, j7, j8, j9, y1, S1, h0, h2, h3, h4, h10, hge, h2hi, hd, lc, c2]
        rw [siftDown, dif_neg hge, if_neg (and_f2 (lt1.trans (decf c1))), if_pos (not_f (lt2.trans (decf c2)))] at hP
        exact ⟨rfl, di, hd, hsz, hP, hfr⟩
  · simp -implicitDefEqProofs (maxSteps := 1000000) (disch := omega) only [natOf_nat, iadm, ldm1, ldm2, stm0, stm1, stm2, wA, wA1, wS, wS1, wM, S2, op, ef, cl, sq, reduceIte, j2, j3, j4, j5, j6, j7, j8, j9, y1, S1, h0, h2, h3, h4, h10, hge, h2hi, hd, lc]
    simp -implicitDefEqProofs only [op, ef, cl, sq, reduceIte, j2, j3, j4, j5, j6, j7, j8, j9, y1, S1]
    simp -implicitDefEqProofs (maxSteps := 1000000) (disch := omega) only [natOf_nat, iadm, ldm1, ldm2, stm0, stm1, stm2, wA, wA1, wS, wS1, wM, S2, op, ef, cl, sq, reduceIte, j2, j3, j4, j5, j6, j7, j8, j9, y1, S1, h0, h2, h3, h4, h10, hge, h2hi, hd, lc]
    refine b_vg _ _ _ _ _ _ _ (by simp -implicitDefEqProofs (maxSteps := 1000000) (disch := omega) only [natOf_nat, iadm, ldm1, ldm2, stm0, stm1, stm2, wA, wA1, wS, wS1, wM, S2, op, ef, cl, sq, reduceIte, j2, j3, j4, j5, j6, j7, j8, j9, y1, S1, h0, h2, h3, h4, h10, hge, h2hi, hd, lc]) ?_
    simp -implicitDefEqProofs (maxSteps := 1000000) (disch := omega) only [natOf_nat, iadm, ldm1, ldm2, stm0, stm1, stm2, wA, wA1, wS, wS1, wM, S2, op, ef, cl, sq, reduceIte, j2, j3, j4, j5, j6, j7, j8, j9, y1, S1, callvB, h0, h2, h3, h4, h10, hge, h2hi, hd, lc, List.append_nil]
    refine callB_of _ _ _ _ _ _ _ _ (byName36 di[first + r]! di[first + (2 * r + 1)]! _) ?_
    rintro u H3 ⟨hu, hx⟩
    cases hu
    have hx : Ext H1 H3 := hx
    have hd := hx.get hd
    have lc := glt hd
    have hfr := hfr.trans (ext_frm (F := fun _ => False) hx) (fun _ h => h.elim)
    have lt2 : ltM di[first + r]! di[first + (2 * r + 1)]! = decide (cmpM di[first + r]! di[first + (2 * r + 1)]! < 0) := rfl
    by_cases c2 : cmpM di[first + r]! di[first + (2 * r + 1)]! < 0
    · simp -implicitDefEqProofs (maxSteps := 1000000) (disch := omega) only [natOf_nat, iadm, ldm1, ldm2, stm0, stm1, stm2, wA, wA1, wS, wS1, wM, S2, op, ef, cl, sq, reduceIte, j2, j3, j4, j5, j6, j7, j8, j9, y1, S1, h0, h2, h3, h4, h10, hge, h2hi, hd, lc, c2]
      refine ⟨2 * r + 1, by omega, .i (.swp hd (by rw [swp_size]; exact hsz) ?_ hfr), rfl, by omega⟩
      rw [← hP]
      conv => { rhs; rw [siftDown, dif_neg hge, if_neg (and_f1 (decf h2hi)), if_neg (not_t (lt2.trans (dect c2)))] }
    · simp -implicitDefEqProofs (maxSteps := 1000000) (disch := omega) only [natOf_nat, iadm, ldm1, ldm2, stm0, stm1, stm2, wA, wA1, wS, wS1, wM, S2, op, ef, cl, sq, reduceIte, j2, j3, j4, j5, j6, j7, j8, j9, y1, S1, h0, h2, h3, h4, h10, hge, h2hi, hd, lc, c2]
      rw [siftDown, dif_neg hge, if_neg (and_f1 (decf h2hi)), if_pos (not_f (lt2.trans (decf c2)))] at hP
      exact ⟨rfl, di, hd, hsz, hP, hfr⟩
end Go.Proofs.YtodegnhallgnkaaGreat.St
end

section
namespace Go.Proofs.YtodegnhallgnkaaGreat.St
open Go.Rmp Go.Proofs.YtodegnhallgnkaaGreat.Ir
set_option maxRecDepth 10000
set_option maxHeartbeats 8000000
theorem wQ2 {a : Nat} (h : a < 9223372036854775808) : IntKind.i64.wrap ((a : Int).tdiv 2) = ((a / 2 : Nat) : Int) := by rw [Int.tdiv_eq_ediv_of_nonneg (by omega), wrap64 (by omega)]; omega
theorem wS0 {a : Nat} (h : a < 9223372036854775808) : IntKind.i64.wrap ((a : Int) - 1) = (a : Int) - 1 := wrap64 (by omega)
theorem nge0 {a : Nat} : (((a : Nat) : Int) ≥ 0) = True := by simp
open Go.Sort in
theorem heap76 (c n : Nat) (d : Array Nm) (a b : Nat) (H : Heap) (hn : d.size = n) (hc : H[c]? = some (.cells (msC eN d.toList))) (hb : b ≤ n) (hab : a < b) (hs : n < 2305843009213693951) :
    W env (.call 91 [.msl c 0 n 2, .int .i64 a, .int .i64 b, .fn 43 []]) H (SrtN c n (heapSort ltM d a b) H) := by
  refine W.fnI rfl rfl rfl ?_
  simp -implicitDefEqProofs (maxSteps := 1000000) (disch := omega) only [ir91, natOf_nat, iadm, ldm1, ldm2, stm0, stm1, stm2, wA, wA1, wS, wS1, wM, S2, op, ef, cl, sq, reduceIte, j2, j3, j4, j5, j6, j7, j8, j9, y1, S1, wQ2]
  refine W.loopE 0 (fun (k : Nat) R H' => At H' (fun H' => SC c n H (fun di => heapBuild ltM (b - a) a k di = heapBuild ltM (b - a) a ((b - a - 1) / 2 + 1) d) H') ∧ R 0 = .msl c 0 n 2 ∧ R 3 = .fn 43 [] ∧ R 8 = .int .i64 a ∧ R 9 = .int .i64 0 ∧ R 10 = .int .i64 (b - a : Nat) ∧ R 11 = .int .i64 ((k : Int) - 1) ∧ k ≤ b - a) (fun k => k) ((b - a - 1) / 2 + 1)
    (fun R H' => At H' (fun H' => SC c n H (fun di => di = heapBuild ltM (b - a) a ((b - a - 1) / 2 + 1) d) H') ∧ R 0 = .msl c 0 n 2 ∧ R 3 = .fn 43 [] ∧ R 8 = .int .i64 a ∧ R 9 = .int .i64 0 ∧ R 10 = .int .i64 (b - a : Nat))
    ⟨.i ⟨d, hc, hn, rfl, Frm.refl _ _⟩, rfl, rfl, rfl, rfl, rfl, by simp [upd], by omega⟩ ?_ ?_
  · rintro k R H1 ⟨⟨di, hd, hsz, hP, hfr⟩, h0, h3, h8, h9, h10, h11, hk⟩
    cases k with
    | zero =>
      rw [show (((0 : Nat) : Int) - 1) = -1 from rfl] at h11
      simp -implicitDefEqProofs (maxSteps := 1000000) (disch := omega) only [natOf_nat, iadm, ldm1, ldm2, stm0, stm1, stm2, wA, wA1, wS, wS1, wM, S2, op, ef, cl, sq, reduceIte, j2, j3, j4, j5, j6, j7, j8, j9, y1, S1, h0, h3, h8, h9, h10, h11]
      exact .i ⟨di, hd, hsz, hP, hfr⟩
    | succ k =>
      rw [show (((k + 1 : Nat) : Int) - 1) = (k : Int) by omega] at h11
      simp -implicitDefEqProofs (maxSteps := 1000000) (disch := omega) only [natOf_nat, iadm, ldm1, ldm2, stm0, stm1, stm2, wA, wA1, wS, wS1, wM, S2, op, ef, cl, sq, reduceIte, j2, j3, j4, j5, j6, j7, j8, j9, y1, S1, h0, h3, h8, h9, h10, h11, nge0]
      refine callB_of _ _ _ _ _ _ _ _ (sift96 c n di k (b - a) a _ hsz hd (by omega) (by omega) hs) ?_
      rintro u H2 ⟨hu, d2, hd2, hs2, rfl, hf2⟩
      cases hu
      simp -implicitDefEqProofs (maxSteps := 1000000) (disch := omega) only [wS0, op, ef, cl, sq, reduceIte, j2, j3, j4, j5, j6, j7, j8, j9, y1, S1, h0, h3, h8, h9, h10, h11]
      exact ⟨k, by omega, .i ⟨_, hd2, hs2, hP, hfr.trans hf2 fun _ h => .inl h⟩, rfl, by omega⟩
  · rintro R H1 ⟨⟨di, hd, hsz, hP, hfr⟩, h0, h3, h8, h9, h10⟩
    simp -implicitDefEqProofs (maxSteps := 1000000) (disch := omega) only [natOf_nat, iadm, ldm1, ldm2, stm0, stm1, stm2, wA, wA1, wS, wS1, wM, S2, op, ef, cl, sq, reduceIte, j2, j3, j4, j5, j6, j7, j8, j9, y1, S1, h0, h3, h8, h9, h10]
    refine W.loopI (fun (k : Nat) R H' => At H' (fun H' => SC c n H (fun di => heapPop ltM a k di = heapSort ltM d a b) H') ∧ R 0 = .msl c 0 n 2 ∧ R 3 = .fn 43 [] ∧ R 8 = .int .i64 a ∧ R 9 = .int .i64 0 ∧ R 10 = .int .i64 (b - a : Nat) ∧ R 12 = .int .i64 ((k : Int) - 1) ∧ k ≤ b - a) (fun k => k) (b - a) ⟨.i ⟨di, hd, hsz, by rw [hP]; rfl, hfr⟩, ?_, ?_, ?_, ?_, ?_, ?_, Nat.le_refl _⟩ ?_
    · simp -implicitDefEqProofs only [op, ef, cl, sq, reduceIte, j2, j3, j4, j5, j6, j7, j8, j9, y1, S1, h0]
    · simp -implicitDefEqProofs only [op, ef, cl, sq, reduceIte, j2, j3, j4, j5, j6, j7, j8, j9, y1, S1, h3]
    · simp -implicitDefEqProofs only [op, ef, cl, sq, reduceIte, j2, j3, j4, j5, j6, j7, j8, j9, y1, S1, h8]
    · simp -implicitDefEqProofs only [op, ef, cl, sq, reduceIte, j2, j3, j4, j5, j6, j7, j8, j9, y1, S1, h9]
    · simp -implicitDefEqProofs only [op, ef, cl, sq, reduceIte, j2, j3, j4, j5, j6, j7, j8, j9, y1, S1, h10]
    · simp -implicitDefEqProofs only [op, ef, cl, sq, reduceIte, j2, j3, j4, j5, j6, j7, j8, j9, y1, S1]; omega
    rintro k R H1 ⟨⟨di, hd, hsz, hP, hfr⟩, h0, h3, h8, h9, h10, h12, hk⟩
    have lc := glt hd
    cases k with
    | zero =>
      rw [show (((0 : Nat) : Int) - 1) = -1 from rfl] at h12
      simp -implicitDefEqProofs (maxSteps := 1000000) (disch := omega) only [natOf_nat, iadm, ldm1, ldm2, stm0, stm1, stm2, wA, wA1, wS, wS1, wM, S2, op, ef, cl, sq, reduceIte, j2, j3, j4, j5, j6, j7, j8, j9, y1, S1, h0, h3, h8, h9, h10, h12]
      exact ⟨rfl, di, hd, hsz, hP, hfr⟩
    | succ k =>
      rw [show (((k + 1 : Nat) : Int) - 1) = (k : Int) by omega] at h12
      simp -implicitDefEqProofs (maxSteps := 1000000) (disch := omega) only [natOf_nat, iadm, ldm1, ldm2, stm0, stm1, stm2, wA, wA1, wS, wS1, wM, S2, op, ef, cl, sq, reduceIte, j2, j3, j4, j5, j6, j7, j8, j9, y1, S1, h0, h3, h8, h9, h10, h12, nge0, hd, lc]
      obtain ⟨d1, hd1, hs1, rfl, hf1⟩ := SC.swp (n := n) (P := fun x => x = swp di a (a + k)) (x := .cells (msC eN (di.toList.set a di[a + k]!))) hd (by rw [Go.Sort.swp_size]; exact hsz) rfl hfr
      refine callB_of _ _ _ _ _ _ _ _ (sift96 c n _ 0 k a _ hs1 hd1 (by omega) (by omega) hs) ?_
      rintro u H2 ⟨hu, d2, hd2, hs2, rfl, hf2⟩
      cases hu
      simp -implicitDefEqProofs (maxSteps := 1000000) (disch := omega) only [wS0, op, ef, cl, sq, reduceIte, j2, j3, j4, j5, j6, j7, j8, j9, y1, S1, h0, h3, h8, h9, h10, h12]
      exact ⟨k, by omega, .i ⟨_, hd2, hs2, hP, hf1.trans hf2 fun _ h => .inl h⟩, rfl, by omega⟩
end Go.Proofs.YtodegnhallgnkaaGreat.St
end

section
namespace Go.Proofs.YtodegnhallgnkaaGreat.St
open Go.Rmp Go.Proofs.YtodegnhallgnkaaGreat.Ir
set_option maxRecDepth 10000
set_option maxHeartbeats 8000000
def OrdQ (p : Nat) (r : Nat × Nat × Nat) (H : Heap) : Out → Heap → Prop := fun o H' => o = .val (.tup [.int .i64 r.1, .int .i64 r.2.1]) ∧ H'[p]? = some (.cells [.int .i64 r.2.2]) ∧ Frm (fun x => x = p) H H'
open Go.Sort in
theorem ord105 (c n p sw : Nat) (d : Array Nm) (a b : Nat) (H : Heap) (hn : d.size = n) (hc : H[c]? = some (.cells (msC eN d.toList))) (hp : H[p]? = some (.cells [.int .i64 sw])) (ha : a < n) (hb : b < n) (hs : n < 2305843009213693951) (hsw : sw < 1000) :
    W env (.call 119 [.msl c 0 n 2, .int .i64 a, .int .i64 b, .ptr p 0, .fn 43 []]) H (OrdQ p (order2 ltM d a b sw) H) := by
  refine W.fnI rfl rfl rfl ?_
  have hd := hc
  have hfr := Frm.refl (fun x => x = p) H
  simp -implicitDefEqProofs (maxSteps := 1000000) (disch := omega) only [ir119, natOf_nat, iadm, ldm1, ldm2, stm0, stm1, stm2, wA, wA1, wS, wS1, wM, S2, op, ef, cl, sq, reduceIte, j2, j3, j4, j5, j6, j7, j8, j9, y1, S1, hd]
  refine b_vg _ _ _ _ _ _ _ (by simp -implicitDefEqProofs (maxSteps := 1000000) (disch := omega) only [natOf_nat, iadm, ldm1, ldm2, stm0, stm1, stm2, wA, wA1, wS, wS1, wM, S2, op, ef, cl, sq, reduceIte, j2, j3, j4, j5, j6, j7, j8, j9, y1, S1, hd]) ?_
  simp -implicitDefEqProofs (maxSteps := 1000000) (disch := omega) only [natOf_nat, iadm, ldm1, ldm2, stm0, stm1, stm2, wA, wA1, wS, wS1, wM, S2, op, ef, cl, sq, reduceIte, j2, j3, j4, j5, j6, j7, j8, j9, y1, S1, callvB, hd, List.append_nil]
  refine callB_of _ _ _ _ _ _ _ _ (byName36 d[b]! d[a]! _) ?_
  rintro u H1 ⟨hu, hx⟩
  cases hu
  have hx : Ext H H1 := hx
  have hd := hx.get hd
  have lc := glt hd
  have hfr := hfr.trans (ext_frm (F := fun _ => False) hx) (fun _ h => h.elim)
  have hp1 := hx.get hp
  have lp := glt hp1
  have lt1 : ltM d[b]! d[a]! = decide (cmpM d[b]! d[a]! < 0) := rfl
  by_cases c1 : cmpM d[b]! d[a]! < 0
  · simp -implicitDefEqProofs (maxSteps := 1000000) (disch := omega) only [natOf_nat, iadm, ldm1, ldm2, stm0, stm1, stm2, wA, wA1, wS, wS1, wM, S2, op, ef, cl, sq, reduceIte, j2, j3, j4, j5, j6, j7, j8, j9, y1, S1, hd, c1, hp1, lp]
    refine ⟨?_, ?_, ?_⟩
    · rw [order2, if_pos (lt1.trans (dect c1))]
    · rw [order2, if_pos (lt1.trans (dect c1))]; exact g_eq lp
    · exact hfr.set (.inl rfl) _
  · simp -implicitDefEqProofs (maxSteps := 1000000) (disch := omega) only [natOf_nat, iadm, ldm1, ldm2, stm0, stm1, stm2, wA, wA1, wS, wS1, wM, S2, op, ef, cl, sq, reduceIte, j2, j3, j4, j5, j6, j7, j8, j9, y1, S1, hd, c1, hp1, lp]
    refine ⟨?_, ?_, ?_⟩
    · rw [order2, if_neg (by rw [lt1, decf c1]; simp)]
    · rw [order2, if_neg (by rw [lt1, decf c1]; simp)]; exact hp1
    · exact hfr
theorem ord_lt (d : Array Nm) {n a b sw : Nat} (ha : a < n) (hb : b < n) : (Go.Sort.order2 ltM d a b sw).1 < n ∧ (Go.Sort.order2 ltM d a b sw).2.1 < n ∧ (Go.Sort.order2 ltM d a b sw).2.2 ≤ sw + 1 := by
  unfold Go.Sort.order2
  split
  · exact ⟨hb, ha, Nat.le_refl _⟩
  · exact ⟨ha, hb, Nat.le_succ _⟩
def MedQ (p : Nat) (r : Nat × Nat) (H : Heap) : Out → Heap → Prop := fun o H' => o = .val (.int .i64 r.1) ∧ H'[p]? = some (.cells [.int .i64 r.2]) ∧ Frm (fun x => x = p) H H'
open Go.Sort in
theorem med100 (c n p sw : Nat) (d : Array Nm) (a b e : Nat) (H : Heap) (hn : d.size = n) (hc : H[c]? = some (.cells (msC eN d.toList))) (hp : H[p]? = some (.cells [.int .i64 sw])) (hcp : ¬ c = p) (ha : a < n) (hb : b < n) (he : e < n) (hs : n < 2305843009213693951) (hsw : sw < 900) :
    W env (.call 115 [.msl c 0 n 2, .int .i64 a, .int .i64 b, .int .i64 e, .ptr p 0, .fn 43 []]) H (fun o H' => MedQ p (median ltM d a b e sw) H o H' ∧ (median ltM d a b e sw).1 < n ∧ (median ltM d a b e sw).2 ≤ sw + 3) := by
  refine W.fnI rfl rfl rfl ?_
  simp -implicitDefEqProofs only [ir115, op, ef, cl, sq, reduceIte, j2, j3, j4, j5, j6, j7, j8, j9, y1, S1]
  refine callB_of _ _ _ _ _ _ _ _ (ord105 c n p sw d a b _ hn hc hp ha hb hs (by omega)) ?_
  rintro u H1 ⟨hu, hp1, hf1⟩
  cases hu
  have hc1 := hf1.get hc hcp
  obtain ⟨r1, hr1⟩ : ∃ r, r = order2 ltM d a b sw := ⟨_, rfl⟩
  obtain ⟨q1, q2, q3⟩ := ord_lt d (sw := sw) ha hb
  rw [← hr1] at q1 q2 q3 hp1 ⊢
  simp -implicitDefEqProofs only [op, ef, cl, sq, reduceIte, j2, j3, j4, j5, j6, j7, j8, j9, y1, S1]
  refine callB_of _ _ _ _ _ _ _ _ (ord105 c n p r1.2.2 d r1.2.1 e _ hn hc1 hp1 q2 he hs (by omega)) ?_
  rintro u H2 ⟨hu, hp2, hf2⟩
  cases hu
  have hc2 := hf2.get hc1 hcp
  obtain ⟨r2, hr2⟩ : ∃ r, r = order2 ltM d r1.2.1 e r1.2.2 := ⟨_, rfl⟩
  obtain ⟨q4, q5, q6⟩ := ord_lt d (sw := r1.2.2) q2 he
  rw [← hr2] at q4 q5 q6 hp2 ⊢
  simp -implicitDefEqProofs only [op, ef, cl, sq, reduceIte, j2, j3, j4, j5, j6, j7, j8, j9, y1, S1]
  refine callB_of _ _ _ _ _ _ _ _ (ord105 c n p r2.2.2 d r1.1 r2.1 _ hn hc2 hp2 q1 q4 hs (by omega)) ?_
  rintro u H3 ⟨hu, hp3, hf3⟩
  cases hu
  obtain ⟨q7, q8, q9⟩ := ord_lt d (sw := r2.2.2) q1 q4
  have e : median ltM d a b e sw = ((order2 ltM d r1.1 r2.1 r2.2.2).2.1, (order2 ltM d r1.1 r2.1 r2.2.2).2.2) := by rw [median, ← hr1, ← hr2]
  rw [e]
  simp -implicitDefEqProofs only [op, ef, cl, sq, reduceIte, j2, j3, j4, j5, j6, j7, j8, j9, y1, S1]
  exact ⟨⟨rfl, hp3, (hf1.trans hf2 fun _ h => .inl h).trans hf3 fun _ h => .inl h⟩, q8, by omega⟩
open Go.Sort in
theorem madj99 (c n p sw : Nat) (d : Array Nm) (a : Nat) (H : Heap) (hn : d.size = n) (hc : H[c]? = some (.cells (msC eN d.toList))) (hp : H[p]? = some (.cells [.int .i64 sw])) (hcp : ¬ c = p) (ha : 1 ≤ a) (ha2 : a + 1 < n) (hs : n < 2305843009213693951) (hsw : sw < 900) :
    W env (.call 114 [.msl c 0 n 2, .int .i64 a, .ptr p 0, .fn 43 []]) H (fun o H' => MedQ p (medianAdjacent ltM d a sw) H o H' ∧ (medianAdjacent ltM d a sw).1 < n ∧ (medianAdjacent ltM d a sw).2 ≤ sw + 3) := by
  refine W.fnI rfl rfl rfl ?_
  simp -implicitDefEqProofs (maxSteps := 1000000) (disch := omega) only [ir114, natOf_nat, iadm, ldm1, ldm2, stm0, stm1, stm2, wA, wA1, wS, wS1, wM, S2, op, ef, cl, sq, reduceIte, j2, j3, j4, j5, j6, j7, j8, j9, y1, S1]
  refine callB_of _ _ _ _ _ _ _ _ (med100 c n p sw d (a - 1) a (a + 1) _ hn hc hp hcp (by omega) (by omega) ha2 hs hsw) ?_
  rintro u H1 ⟨⟨hu, hp1, hf1⟩, q1, q2⟩
  cases hu
  simp -implicitDefEqProofs only [op, ef, cl, sq, reduceIte, j2, j3, j4, j5, j6, j7, j8, j9, y1, S1]
  exact ⟨⟨rfl, hp1, hf1⟩, q1, q2⟩
theorem wQ4 {a : Nat} (h : a < 9223372036854775808) : IntKind.i64.wrap ((a : Int).tdiv 4) = ((a / 4 : Nat) : Int) := by rw [Int.tdiv_eq_ediv_of_nonneg (by omega), wrap64 (by omega)]; omega
theorem wM1 {a : Nat} (h : a < 9223372036854775808) : IntKind.i64.wrap ((a : Int) * 1) = ((a * 1 : Nat) : Int) := by rw [wrap64 (by omega)]; omega
theorem wM2 {a : Nat} (h : a * 2 < 9223372036854775808) : IntKind.i64.wrap ((a : Int) * 2) = ((a * 2 : Nat) : Int) := by rw [wrap64 (by omega)]; omega
theorem wM3 {a : Nat} (h : a * 3 < 9223372036854775808) : IntKind.i64.wrap ((a : Int) * 3) = ((a * 3 : Nat) : Int) := by rw [wrap64 (by omega)]; omega
def hintN : Go.Sort.Hint → Int
  | .unknown => 0
  | .increasing => 1
  | .decreasing => 2
open Go.Sort in
theorem choose78 (c n : Nat) (d : Array Nm) (a b : Nat) (H : Heap) (hn : d.size = n) (hc : H[c]? = some (.cells (msC eN d.toList))) (hb : b ≤ n) (hab : a + 12 < b) (hs : n < 1305843009213693951) :
    W env (.call 93 [.msl c 0 n 2, .int .i64 a, .int .i64 b, .fn 43 []]) H (fun o H' => o = .val (.tup [.int .i64 (choosePivot ltM d a b).1, .int .i64 (hintN (choosePivot ltM d a b).2)]) ∧ Ext H H') := by
  refine W.fnI rfl rfl rfl ?_
  have h8 : 8 ≤ b - a := by omega
  have lc := glt hc
  have hcp : ¬ c = H.length := by omega
  have hc0 : (H ++ [B.cells [T.int IntKind.i64 0]])[c]? = some (.cells (msC eN d.toList)) := by rw [g_app lc]; exact hc
  have hp0 : (H ++ [B.cells [T.int IntKind.i64 0]])[H.length]? = some (.cells [.int .i64 ((0 : Nat) : Int)]) := g_tail rfl
  have fin : ∀ H2 : Heap, Frm (fun x => x = H.length) (H ++ [B.cells [T.int IntKind.i64 0]]) H2 → Ext H H2 := fun H2 hf => ext_of fun x y hx => hf.get (by rw [g_app (glt hx)]; exact hx) (by have := glt hx; omega)
  by_cases h50 : 50 ≤ b - a
  · simp -implicitDefEqProofs (maxSteps := 1000000) (disch := omega) only [ir93, natOf_nat, iadm, ldm1, ldm2, stm0, stm1, stm2, wA, wA1, wS, wS1, wM, S2, op, ef, cl, sq, reduceIte, j2, j3, j4, j5, j6, j7, j8, j9, y1, S1, wQ4, wM1, wM2, wM3, h8, h50]
    refine callB_of _ _ _ _ _ _ _ _ (madj99 c n H.length 0 d _ _ hn hc0 hp0 hcp (by omega) (by omega) (by omega) (by omega)) ?_
    rintro u H1 ⟨⟨hu, hp1, hf1⟩, q1, q2⟩
    cases hu
    obtain ⟨ri, hri⟩ : ∃ r, r = medianAdjacent ltM d (a + (b - a) / 4 * 1) 0 := ⟨_, rfl⟩
    rw [← hri] at q1 q2 hp1 ⊢
    have hc1 := hf1.get hc0 hcp
    simp -implicitDefEqProofs only [op, ef, cl, sq, reduceIte, j2, j3, j4, j5, j6, j7, j8, j9, y1, S1]
    refine callB_of _ _ _ _ _ _ _ _ (madj99 c n H.length ri.2 d _ _ hn hc1 hp1 hcp (by omega) (by omega) (by omega) (by omega)) ?_
    rintro u H2 ⟨⟨hu, hp2, hf2⟩, q3, q4⟩
    cases hu
    obtain ⟨rj, hrj⟩ : ∃ r, r = medianAdjacent ltM d (a + (b - a) / 4 * 2) ri.2 := ⟨_, rfl⟩
    rw [← hrj] at q3 q4 hp2 ⊢
    have hc2 := hf2.get hc1 hcp
    simp -implicitDefEqProofs only [op, ef, cl, sq, reduceIte, j2, j3, j4, j5, j6, j7, j8, j9, y1, S1]
    refine callB_of _ _ _ _ _ _ _ _ (madj99 c n H.length rj.2 d _ _ hn hc2 hp2 hcp (by omega) (by omega) (by omega) (by omega)) ?_
    rintro u H3 ⟨⟨hu, hp3, hf3⟩, q5, q6⟩
    cases hu
    obtain ⟨rk, hrk⟩ : ∃ r, r = medianAdjacent ltM d (a + (b - a) / 4 * 3) rj.2 := ⟨_, rfl⟩
    rw [← hrk] at q5 q6 hp3 ⊢
    have hc3 := hf3.get hc2 hcp
    simp -implicitDefEqProofs only [op, ef, cl, sq, reduceIte, j2, j3, j4, j5, j6, j7, j8, j9, y1, S1]
    refine callB_of _ _ _ _ _ _ _ _ (med100 c n H.length rk.2 d ri.1 rj.1 rk.1 _ hn hc3 hp3 hcp q1 q3 q5 (by omega) (by omega)) ?_
    rintro u H4 ⟨⟨hu, hp4, hf4⟩, q7, q8⟩
    cases hu
    have e : choosePivot ltM d a b = ((median ltM d ri.1 rj.1 rk.1 rk.2).1, if (median ltM d ri.1 rj.1 rk.1 rk.2).2 = 0 then .increasing else if (median ltM d ri.1 rj.1 rk.1 rk.2).2 = 12 then .decreasing else .unknown) := by
      simp -implicitDefEqProofs only [choosePivot, ge_iff_le, if_pos h8, if_pos h50, ← hri, ← hrj, ← hrk]
    rw [e]
    have hx := fin _ (((hf1.trans hf2 fun _ h => .inl h).trans hf3 fun _ h => .inl h).trans hf4 fun _ h => .inl h)
    generalize median ltM d ri.1 rj.1 rk.1 rk.2 = r at *
    obtain ⟨m, sw⟩ := r
    simp only at hp4 ⊢
    by_cases s0 : sw = 0
    · subst s0
      have e0 : (((0 : Nat) : Int) == 0) = true := rfl
      simp -implicitDefEqProofs only [op, ef, cl, sq, reduceIte, j2, j3, j4, j5, j6, j7, j8, j9, y1, S1, hp4, e0]
      exact ⟨rfl, hx⟩
    have e0 : (((sw : Nat) : Int) == 0) = false := by simp; omega
    by_cases s1 : sw = 12
    · subst s1
      have e1 : (((12 : Nat) : Int) == 12) = true := rfl
      simp -implicitDefEqProofs only [op, ef, cl, sq, reduceIte, j2, j3, j4, j5, j6, j7, j8, j9, y1, S1, hp4, e0, e1]
      exact ⟨rfl, hx⟩
    have e1 : (((sw : Nat) : Int) == 12) = false := by simp; omega
    simp -implicitDefEqProofs only [op, ef, cl, sq, reduceIte, j2, j3, j4, j5, j6, j7, j8, j9, y1, S1, hp4, e0, e1, s0, s1]
    exact ⟨rfl, hx⟩
  · simp -implicitDefEqProofs (maxSteps := 1000000) (disch := omega) only [ir93, natOf_nat, iadm, ldm1, ldm2, stm0, stm1, stm2, wA, wA1, wS, wS1, wM, S2, op, ef, cl, sq, reduceIte, j2, j3, j4, j5, j6, j7, j8, j9, y1, S1, wQ4, wM1, wM2, wM3, h8, h50]
    refine callB_of _ _ _ _ _ _ _ _ (med100 c n H.length 0 d _ _ _ _ hn hc0 hp0 hcp (by omega) (by omega) (by omega) (by omega) (by omega)) ?_
    rintro u H4 ⟨⟨hu, hp4, hf4⟩, q7, q8⟩
    cases hu
    have e : choosePivot ltM d a b = ((median ltM d (a + (b - a) / 4 * 1) (a + (b - a) / 4 * 2) (a + (b - a) / 4 * 3) 0).1, if (median ltM d (a + (b - a) / 4 * 1) (a + (b - a) / 4 * 2) (a + (b - a) / 4 * 3) 0).2 = 0 then .increasing else if (median ltM d (a + (b - a) / 4 * 1) (a + (b - a) / 4 * 2) (a + (b - a) / 4 * 3) 0).2 = 12 then .decreasing else .unknown) := by
      simp -implicitDefEqProofs only [choosePivot, ge_iff_le, if_pos h8, if_neg h50]
    rw [e]
    have hx := fin _ hf4
    generalize median ltM d (a + (b - a) / 4 * 1) (a + (b - a) / 4 * 2) (a + (b - a) / 4 * 3) 0 = r at *
    obtain ⟨m, sw⟩ := r
    simp only at hp4 ⊢
    by_cases s0 : sw = 0
    · subst s0
      have e0 : (((0 : Nat) : Int) == 0) = true := rfl
      simp -implicitDefEqProofs only [op, ef, cl, sq, reduceIte, j2, j3, j4, j5, j6, j7, j8, j9, y1, S1, hp4, e0]
      exact ⟨rfl, hx⟩
    have e0 : (((sw : Nat) : Int) == 0) = false := by simp; omega
    by_cases s1 : sw = 12
    · subst s1
      have e1 : (((12 : Nat) : Int) == 12) = true := rfl
      simp -implicitDefEqProofs only [op, ef, cl, sq, reduceIte, j2, j3, j4, j5, j6, j7, j8, j9, y1, S1, hp4, e0, e1]
      exact ⟨rfl, hx⟩
    have e1 : (((sw : Nat) : Int) == 12) = false := by simp; omega
    simp -implicitDefEqProofs only [op, ef, cl, sq, reduceIte, j2, j3, j4, j5, j6, j7, j8, j9, y1, S1, hp4, e0, e1, s0, s1]
    exact ⟨rfl, hx⟩
end Go.Proofs.YtodegnhallgnkaaGreat.St
end

section
namespace Go.Proofs.YtodegnhallgnkaaGreat.St
open Go.Rmp Go.Proofs.YtodegnhallgnkaaGreat.Ir
set_option maxRecDepth 10000
set_option maxHeartbeats 8000000
open Go.Sort (bitsLen)
theorem log2_div {n k : Nat} (h : 2 ^ k ≤ n) : (n / 2 ^ k).log2 + k = n.log2 := by
  have h0 : 0 < 2 ^ k := Nat.two_pow_pos k
  have hn : n ≠ 0 := by omega
  have hq : n / 2 ^ k ≠ 0 := by have := Nat.div_pos h h0; omega
  have h1 := Nat.log2_self_le hq
  have h2 := Nat.lt_log2_self (n := n / 2 ^ k)
  refine ((Nat.log2_eq_iff hn).2 ⟨?_, ?_⟩).symm
  · rw [Nat.pow_add]; exact (Nat.le_div_iff_mul_le h0).1 h1
  · rw [show (n / 2 ^ k).log2 + k + 1 = ((n / 2 ^ k).log2 + 1) + k by omega, Nat.pow_add]; exact (Nat.div_lt_iff_lt_mul h0).1 h2
theorem bits_div {n k : Nat} (h : 2 ^ k ≤ n) : bitsLen (n / 2 ^ k) + k = bitsLen n := by
  have h0 : 0 < 2 ^ k := Nat.two_pow_pos k
  have hq : n / 2 ^ k ≠ 0 := by have := Nat.div_pos h h0; omega
  have := log2_div h
  unfold bitsLen
  rw [if_neg hq, if_neg (by omega)]
  omega
theorem bits_lt {n k : Nat} (h : n < 2 ^ k) : bitsLen n ≤ k := by
  unfold bitsLen
  split
  · omega
  · rename_i h0; have := (Nat.log2_lt h0).2 h; omega
def tbl : Array UInt8 := #[0, 1, 2, 2, 3, 3, 3, 3, 4, 4, 4, 4, 4, 4, 4, 4, 5, 5, 5, 5, 5, 5, 5, 5, 5, 5, 5, 5, 5, 5, 5, 5, 6, 6, 6, 6, 6, 6, 6, 6, 6, 6, 6, 6, 6, 6, 6, 6, 6, 6, 6, 6, 6, 6, 6, 6, 6, 6, 6, 6, 6, 6, 6, 6, 7, 7, 7, 7, 7, 7, 7, 7, 7, 7, 7, 7, 7, 7, 7, 7, 7, 7, 7, 7, 7, 7, 7, 7, 7, 7, 7, 7, 7, 7, 7, 7, 7, 7, 7, 7, 7, 7, 7, 7, 7, 7, 7, 7, 7, 7, 7, 7, 7, 7, 7, 7, 7, 7, 7, 7, 7, 7, 7, 7, 7, 7, 7, 7, 8, 8, 8, 8, 8, 8, 8, 8, 8, 8, 8, 8, 8, 8, 8, 8, 8, 8, 8, 8, 8, 8, 8, 8, 8, 8, 8, 8, 8, 8, 8, 8, 8, 8, 8, 8, 8, 8, 8, 8, 8, 8, 8, 8, 8, 8, 8, 8, 8, 8, 8, 8, 8, 8, 8, 8, 8, 8, 8, 8, 8, 8, 8, 8, 8, 8, 8, 8, 8, 8, 8, 8, 8, 8, 8, 8, 8, 8, 8, 8, 8, 8, 8, 8, 8, 8, 8, 8, 8, 8, 8, 8, 8, 8, 8, 8, 8, 8, 8, 8, 8, 8, 8, 8, 8, 8, 8, 8, 8, 8, 8, 8, 8, 8, 8, 8, 8, 8, 8, 8, 8, 8, 8, 8, 8, 8, 8, 8]
def tblB : Bool := (List.range 256).all fun n => match tbl[n]? with | some c => c.toNat == bitsLen n | none => false
theorem tblB_ok : tblB = true := by decide +kernel
theorem tbl_at {β : Type} {K : Option β → Prop} {n : Nat} (hn : n < 256) (f : UInt8 → β) (h : ∀ c : UInt8, c.toNat = bitsLen n → K (some (f c))) : K (Option.map f tbl[n]?) := by
  have := List.all_eq_true.1 tblB_ok n (List.mem_range.2 hn)
  split at this
  · rename_i c hc
    rw [hc]; exact h c (by simpa using this)
  · cases this
theorem len84 (n : Nat) (hn : n < 16777216) (H : Heap) : W env (.call 99 [.int .u64 n]) H (fun o H' => o = .val (.int .i64 (bitsLen n)) ∧ H' = H) := by
  refine W.fnI rfl rfl rfl ?_
  have h1 : ¬ (4294967296 ≤ n) := by omega
  have fin : ∀ (m k : Nat), m < 256 → k ≤ 16 → IntKind.i64.wrap ((k : Int) + ((bitsLen m : Nat) : Int)) = ((bitsLen m + k : Nat) : Int) := fun m k hm hk => by
    have := bits_lt (n := m) (k := 8) hm
    rw [wrap64 (by omega)]; omega
  by_cases h2 : 65536 ≤ n
  · have e16 : (n : Int).fdiv (2 ^ (min (16 : Int).toNat IntKind.u64.bits)) = ((n / 65536 : Nat) : Int) := by
      show (n : Int).fdiv 65536 = _
      rw [Int.fdiv_eq_ediv_of_nonneg _ (by decide)]; omega
    have h3 : ¬ (256 ≤ n / 65536) := by omega
    have w8' := wrap8 (n := n / 65536) (by omega)
    have w16 : IntKind.i64.wrap (0 + 16) = 16 := by decide
    have := fin (n / 65536) 16 (by omega) (by omega)
    rw [show bitsLen (n / 65536) + 16 = bitsLen n from bits_div (k := 16) h2] at this
    simp -implicitDefEqProofs only [ir99, op, ef, cl, sq, reduceIte, j2, j3, j4, j5, j6, j7, j8, j9, y1, S1, h1, h2, e16, h3, w8', w16, natOf_nat]
    refine tbl_at (K := stepB env _ _ _ _ _ _ _ _) (by omega) _ fun ch hch => ?_
    have wc : IntKind.i64.wrap ((ch.toNat : Nat) : Int) = ((ch.toNat : Nat) : Int) := wrap64 (by have := ch.toNat_lt; omega)
    rw [hch] at wc
    simp -implicitDefEqProofs only [op, ef, cl, sq, reduceIte, j2, j3, j4, j5, j6, j7, j8, j9, y1, S1, hch, wc]
    exact congrArg (fun x => Out.val (.int .i64 x)) this
  by_cases h3 : 256 ≤ n
  · have e8 : (n : Int).fdiv (2 ^ (min (8 : Int).toNat IntKind.u64.bits)) = ((n / 256 : Nat) : Int) := by
      show (n : Int).fdiv 256 = _
      rw [Int.fdiv_eq_ediv_of_nonneg _ (by decide)]; omega
    have w8' := wrap8 (n := n / 256) (by omega)
    have w80 : IntKind.i64.wrap (0 + 8) = 8 := by decide
    have := fin (n / 256) 8 (by omega) (by omega)
    rw [show bitsLen (n / 256) + 8 = bitsLen n from bits_div (k := 8) h3] at this
    simp -implicitDefEqProofs only [ir99, op, ef, cl, sq, reduceIte, j2, j3, j4, j5, j6, j7, j8, j9, y1, S1, h1, h2, e8, h3, w8', w80, natOf_nat]
    refine tbl_at (K := stepB env _ _ _ _ _ _ _ _) (by omega) _ fun ch hch => ?_
    have wc : IntKind.i64.wrap ((ch.toNat : Nat) : Int) = ((ch.toNat : Nat) : Int) := wrap64 (by have := ch.toNat_lt; omega)
    rw [hch] at wc
    simp -implicitDefEqProofs only [op, ef, cl, sq, reduceIte, j2, j3, j4, j5, j6, j7, j8, j9, y1, S1, hch, wc]
    exact congrArg (fun x => Out.val (.int .i64 x)) this
  · have w8' := wrap8 (n := n) (by omega)
    have := fin n 0 (by omega) (by omega)
    simp -implicitDefEqProofs only [ir99, op, ef, cl, sq, reduceIte, j2, j3, j4, j5, j6, j7, j8, j9, y1, S1, h1, h2, h3, w8', natOf_nat]
    refine tbl_at (K := stepB env _ _ _ _ _ _ _ _) (by omega) _ fun ch hch => ?_
    have wc : IntKind.i64.wrap ((ch.toNat : Nat) : Int) = ((ch.toNat : Nat) : Int) := wrap64 (by have := ch.toNat_lt; omega)
    rw [hch] at wc
    simp -implicitDefEqProofs only [op, ef, cl, sq, reduceIte, j2, j3, j4, j5, j6, j7, j8, j9, y1, S1, hch, wc]
    exact congrArg (fun x => Out.val (.int .i64 x)) this
theorem len65 (n : Nat) (hn : n < 16777216) (H : Heap) : W env (.call 78 [.int .u64 n]) H (fun o H' => o = .val (.int .i64 (bitsLen n)) ∧ H' = H) := by
  refine W.fnI rfl rfl rfl ?_
  simp -implicitDefEqProofs only [ir78, op, ef, cl, sq, reduceIte, j2, j3, j4, j5, j6, j7, j8, j9, y1, S1]
  refine callB_of _ _ _ _ _ _ _ _ (len84 n hn _) ?_
  rintro u H1 ⟨hu, rfl⟩
  cases hu
  simp -implicitDefEqProofs only [op, ef, cl, sq, reduceIte, j2, j3, j4, j5, j6, j7, j8, j9, y1, S1]
theorem next97 (n : Nat) (hn : n < 16777216) (H : Heap) : W env (.call 112 [.int .i64 n]) H (fun o H' => o = .val (.int .u64 ((1 <<< bitsLen n : Nat) : Int)) ∧ H' = H) := by
  refine W.fnI rfl rfl rfl ?_
  have wu := wrapu (n := n) (by omega)
  simp -implicitDefEqProofs only [ir112, op, ef, cl, sq, reduceIte, j2, j3, j4, j5, j6, j7, j8, j9, y1, S1, wu]
  refine callB_of _ _ _ _ _ _ _ _ (len65 n hn _) ?_
  rintro u H1 ⟨hu, rfl⟩
  cases hu
  have hb := bits_lt (n := n) (k := 24) hn
  have n0 : ¬ (((bitsLen n : Nat) : Int) < 0) := by omega
  have e : IntKind.u64.wrap (1 * 2 ^ (min ((bitsLen n : Nat) : Int).toNat IntKind.u64.bits)) = ((1 <<< bitsLen n : Nat) : Int) := by
    rw [Int.toNat_natCast, Nat.min_eq_left (by show bitsLen n ≤ 64; omega), Nat.one_shiftLeft, Int.one_mul]
    have : (2 : Nat) ^ bitsLen n ≤ 2 ^ 24 := Nat.pow_le_pow_right (by decide) hb
    have h2 : ((2 : Int) ^ bitsLen n) = ((2 ^ bitsLen n : Nat) : Int) := by simp
    rw [h2]
    exact wrapu (by omega)
  simp -implicitDefEqProofs only [op, ef, cl, sq, reduceIte, j2, j3, j4, j5, j6, j7, j8, j9, y1, S1, n0, e]
end Go.Proofs.YtodegnhallgnkaaGreat.St
end

section
namespace Go.Proofs.YtodegnhallgnkaaGreat.St
open Go.Rmp Go.Proofs.YtodegnhallgnkaaGreat.Ir
set_option maxRecDepth 10000
set_option maxHeartbeats 8000000
open Go.Sort (bitsLen)
theorem wrapU (x : Int) : IntKind.u64.wrap x = x % 18446744073709551616 := by
  unfold IntKind.wrap
  simp -implicitDefEqProofs only [IntKind.signed, IntKind.bits]
  simp
theorem u_shl13 (r : UInt64) : IntKind.u64.wrap ((r.toNat : Int) * 2 ^ (min (13 : Int).toNat IntKind.u64.bits)) = ((r <<< 13).toNat : Int) := by
  rw [wrapU, UInt64.toNat_shiftLeft, Nat.shiftLeft_eq]
  show (r.toNat : Int) * 8192 % _ = ((r.toNat * 8192 % 18446744073709551616 : Nat) : Int)
  omega
theorem u_shl17 (r : UInt64) : IntKind.u64.wrap ((r.toNat : Int) * 2 ^ (min (17 : Int).toNat IntKind.u64.bits)) = ((r <<< 17).toNat : Int) := by
  rw [wrapU, UInt64.toNat_shiftLeft, Nat.shiftLeft_eq]
  show (r.toNat : Int) * 131072 % _ = ((r.toNat * 131072 % 18446744073709551616 : Nat) : Int)
  omega
theorem u_shr7 (r : UInt64) : (r.toNat : Int).fdiv (2 ^ (min (7 : Int).toNat IntKind.u64.bits)) = ((r >>> 7).toNat : Int) := by
  rw [UInt64.toNat_shiftRight, Nat.shiftRight_eq_div_pow]
  show (r.toNat : Int).fdiv 128 = ((r.toNat / 128 : Nat) : Int)
  rw [Int.fdiv_eq_ediv_of_nonneg _ (by decide)]; omega
theorem u_bv (r : UInt64) : BitVec.ofInt IntKind.u64.bits (r.toNat : Int) = r.toBitVec := by
  apply BitVec.eq_of_toNat_eq
  rw [BitVec.toNat_ofInt]
  have := r.toNat_lt
  show ((r.toNat : Int) % 18446744073709551616).toNat = r.toNat
  omega
theorem u_xor (r s : UInt64) : IntKind.u64.wrap ((BitVec.ofInt IntKind.u64.bits (r.toNat : Int) ^^^ BitVec.ofInt IntKind.u64.bits (s.toNat : Int)).toNat : Int) = ((r ^^^ s).toNat : Int) := by
  refine Eq.trans ?_ (wrapu (r ^^^ s).toNat_lt)
  rw [u_bv, u_bv]
  rfl
theorem u_and (r : UInt64) (k : Nat) (hk : k < 18446744073709551616) : IntKind.u64.wrap ((BitVec.ofInt IntKind.u64.bits (r.toNat : Int) &&& BitVec.ofInt IntKind.u64.bits (k : Int)).toNat : Int) = ((r.toNat &&& k : Nat) : Int) := by
  have h : (BitVec.ofInt IntKind.u64.bits (r.toNat : Int) &&& BitVec.ofInt IntKind.u64.bits (k : Int)).toNat = r.toNat &&& k := by
    rw [BitVec.toNat_and, BitVec.toNat_ofInt, BitVec.toNat_ofInt]
    have := r.toNat_lt
    have e1 : ((r.toNat : Int) % ((2 ^ IntKind.u64.bits : Nat) : Int)).toNat = r.toNat := by
      show ((r.toNat : Int) % 18446744073709551616).toNat = r.toNat
      omega
    have e2 : ((k : Int) % ((2 ^ IntKind.u64.bits : Nat) : Int)).toNat = k := by
      show ((k : Int) % 18446744073709551616).toNat = k
      omega
    rw [e1, e2]
  rw [h]
  exact wrapu (Nat.lt_of_le_of_lt Nat.and_le_right hk)
theorem xor98 (p : Nat) (r : UInt64) (H : Heap) (hp : H[p]? = some (.cells [.int .u64 r.toNat])) :
    W env (.call 113 [.ptr p 0]) H (fun o H' => o = .val (.int .u64 (Go.Sort.xorNext r).toNat) ∧ H'[p]? = some (.cells [.int .u64 (Go.Sort.xorNext r).toNat]) ∧ Frm (fun x => x = p) H H') := by
  refine W.fnI rfl rfl rfl ?_
  have lp := glt hp
  have n13 : ¬ ((13 : Int) < 0) := by decide
  have n7 : ¬ ((7 : Int) < 0) := by decide
  have n17 : ¬ ((17 : Int) < 0) := by decide
  simp -implicitDefEqProofs only [u_shl13, u_shl17, u_shr7, u_xor, ir113, op, ef, cl, sq, reduceIte, j2, j3, j4, j5, j6, j7, j8, j9, y1, S1, hp, lp, S2, n13, n7, n17]
  exact ⟨rfl, rfl, (((Frm.refl (fun x => x = p) _).set (.inl rfl) _).set (.inl rfl) _).set (.inl rfl) _⟩
theorem two_bits {n : Nat} (h : n ≠ 0) : 1 <<< bitsLen n ≤ 2 * n := by
  rw [Nat.one_shiftLeft, bitsLen, if_neg h, Nat.pow_succ]
  have := Nat.log2_self_le h
  omega
def brk (a len md : Nat) (d : Array Nm) : Nat → UInt64 × Array Nm
  | 0 => (UInt64.ofNat len, d)
  | j + 1 => Go.Sort.breakStep a len md (brk a len md d j) (a + len / 4 * 2 - 1 + j)
theorem wSu {a : Nat} (h : 1 ≤ a ∧ a < 18446744073709551616) : IntKind.u64.wrap ((a : Int) - 1) = ((a - 1 : Nat) : Int) := by rw [wrapu64 (by omega)]; omega
theorem wN {a : Nat} (h : a < 9223372036854775808) : IntKind.i64.wrap (a : Int) = (a : Int) := wrap64 (by omega)
open Go.Sort in
theorem break77 (c n : Nat) (d : Array Nm) (a b : Nat) (H : Heap) (hn : d.size = n) (hc : H[c]? = some (.cells (msC eN d.toList))) (hb : b ≤ n) (hab : a + 12 < b) (hs : n < 16777216) :
    W env (.call 92 [.msl c 0 n 2, .int .i64 a, .int .i64 b, .fn 43 []]) H (SrtN c n (breakPatterns d a b) H) := by
  refine W.fnI rfl rfl rfl ?_
  have h8 : 8 ≤ b - a := by omega
  have lc := glt hc
  obtain ⟨len, hlen⟩ : ∃ len, len = b - a := ⟨_, rfl⟩
  have wl : IntKind.u64.wrap ((len : Nat) : Int) = (len : Int) := wrapu (by omega)
  rw [← hlen] at h8
  simp -implicitDefEqProofs (maxSteps := 1000000) (disch := omega) only [ir92, natOf_nat, iadm, ldm1, ldm2, stm0, stm1, stm2, wA, wA1, wS, wS1, wM, S2, op, ef, cl, sq, reduceIte, j2, j3, j4, j5, j6, j7, j8, j9, y1, S1, wQ4, wM2, ← hlen, wl, h8]
  refine callB_of _ _ _ _ _ _ _ _ (next97 len (by omega) _) ?_
  rintro u H1 ⟨hu, rfl⟩
  cases hu
  obtain ⟨md, hmd⟩ : ∃ md, md = 1 <<< bitsLen len := ⟨_, rfl⟩
  have hm2 := two_bits (n := len) (by omega)
  have hm1 : 1 ≤ 1 <<< bitsLen len := by rw [Nat.one_shiftLeft]; exact Nat.one_le_two_pow
  rw [← hmd] at hm1 hm2 ⊢
  have hq : len / 4 * 2 ≤ len := by omega
  obtain ⟨ix, hix⟩ : ∃ ix, ix = a + len / 4 * 2 - 1 := ⟨_, rfl⟩
  have hfin : breakPatterns d a b = (brk a len md d 3).2 := by
    simp -implicitDefEqProofs only [breakPatterns, ← hlen, ge_iff_le, if_pos h8, brk, ← hmd, Nat.add_zero]
  simp -implicitDefEqProofs (maxSteps := 1000000) (disch := omega) only [natOf_nat, iadm, ldm1, ldm2, stm0, stm1, stm2, wA, wA1, wS, wS1, wM, S2, op, ef, cl, sq, reduceIte, j2, j3, j4, j5, j6, j7, j8, j9, y1, S1, wQ4, wM2, ← hix]
  have hc1 : (H ++ [B.cells [T.int IntKind.u64 len]])[c]? = some (.cells (msC eN d.toList)) := by rw [g_app lc]; exact hc
  have hp1 : (H ++ [B.cells [T.int IntKind.u64 len]])[H.length]? = some (.cells [.int .u64 (UInt64.ofNat len).toNat]) := by
    rw [g_tail rfl, UInt64.toNat_ofNat_of_lt' (by show len < 18446744073709551616; omega)]
  refine W.loopI (fun (j : Nat) R H' => At H' (fun H' => ∃ d' : Array Nm, H'[c]? = some (.cells (msC eN d'.toList)) ∧ d'.size = n ∧ d' = (brk a len md d j).2 ∧ H'[H.length]? = some (.cells [.int .u64 (brk a len md d j).1.toNat]) ∧ Frm (fun x => x = c ∨ x = H.length) (H ++ [B.cells [T.int IntKind.u64 len]]) H') ∧ R 0 = .msl c 0 n 2 ∧ R 1 = .int .i64 a ∧ R 8 = .int .i64 len ∧ R 9 = .ptr H.length 0 ∧ R 10 = .int .u64 md ∧ R 11 = .int .i64 (ix + j : Nat) ∧ j ≤ 3) (fun j => 3 - j) 0 ⟨.i ⟨d, hc1, hn, rfl, hp1, Frm.refl _ _⟩, rfl, rfl, rfl, rfl, rfl, rfl, by omega⟩ ?_
  rintro j R H1 ⟨⟨di, hd, hsz, hdj, hp, hfr⟩, h0, h1, h8', h9, h10, h11, hj⟩
  by_cases hj3 : j < 3
  · have hle : ix + j ≤ a + len / 4 * 2 + 1 := by omega
    simp -implicitDefEqProofs (maxSteps := 1000000) (disch := omega) only [natOf_nat, iadm, ldm1, ldm2, stm0, stm1, stm2, wA, wA1, wS, wS1, wM, S2, op, ef, cl, sq, reduceIte, j2, j3, j4, j5, j6, j7, j8, j9, y1, S1, wQ4, wM2, h0, h1, h8', h9, h10, h11, hle]
    refine callB_of _ _ _ _ _ _ _ _ (xor98 H.length _ _ hp) ?_
    rintro u H2 ⟨hu, hp2, hf2⟩
    cases hu
    have hd := hf2.get hd (by omega)
    have lc2 := glt hd
    obtain ⟨r, hr⟩ : ∃ r, r = xorNext (brk a len md d j).1 := ⟨_, rfl⟩
    rw [← hr] at hp2 ⊢
    obtain ⟨ot, hot⟩ : ∃ ot, ot = r.toNat &&& (md - 1) := ⟨_, rfl⟩
    have hol : ot ≤ md - 1 := by rw [hot]; exact Nat.and_le_right
    have hstep : brk a len md d (j + 1) = (r, swp di (ix + j) (a + if ot ≥ len then ot - len else ot)) := by
      simp -implicitDefEqProofs only [brk, breakStep, ← hr, ← hdj, ← hot, ← hix]
    have hne : ¬ (c = H.length) := by omega
    by_cases hge : len ≤ ot
    · rw [if_pos hge] at hstep
      simp -implicitDefEqProofs (maxSteps := 1000000) (disch := omega) only [natOf_nat, iadm, ldm1, ldm2, stm0, stm1, stm2, wA, wA1, wS, wS1, wM, S2, op, ef, cl, sq, reduceIte, j2, j3, j4, j5, j6, j7, j8, j9, y1, S1, wSu, u_and, wN, ← hot, h0, h1, h8', h9, h10, h11, hge, hd, lc2]
      refine ⟨j + 1, by omega, .i ⟨swp di (ix + j) (a + (ot - len)), g_eq (by rw [List.length_set]; exact lc2), by rw [swp_size]; exact hsz, by rw [hstep], ?_, ((hfr.trans hf2 fun x h => .inl (.inr h)).set (.inl (.inl rfl)) _).set (.inl (.inl rfl)) _⟩, rfl, by omega⟩
      rw [g_ne hne, g_ne hne, hp2, hstep]
    · rw [if_neg hge] at hstep
      simp -implicitDefEqProofs (maxSteps := 1000000) (disch := omega) only [natOf_nat, iadm, ldm1, ldm2, stm0, stm1, stm2, wA, wA1, wS, wS1, wM, S2, op, ef, cl, sq, reduceIte, j2, j3, j4, j5, j6, j7, j8, j9, y1, S1, wSu, u_and, wN, ← hot, h0, h1, h8', h9, h10, h11, hge, hd, lc2]
      refine ⟨j + 1, by omega, .i ⟨swp di (ix + j) (a + ot), g_eq (by rw [List.length_set]; exact lc2), by rw [swp_size]; exact hsz, by rw [hstep], ?_, ((hfr.trans hf2 fun x h => .inl (.inr h)).set (.inl (.inl rfl)) _).set (.inl (.inl rfl)) _⟩, rfl, by omega⟩
      rw [g_ne hne, g_ne hne, hp2, hstep]
  · have hj' : j = 3 := by omega
    subst hj'
    have hle : ¬ (ix + 3 ≤ a + len / 4 * 2 + 1) := by omega
    simp -implicitDefEqProofs (maxSteps := 1000000) (disch := omega) only [natOf_nat, iadm, ldm1, ldm2, stm0, stm1, stm2, wA, wA1, wS, wS1, wM, S2, op, ef, cl, sq, reduceIte, j2, j3, j4, j5, j6, j7, j8, j9, y1, S1, wQ4, wM2, h0, h1, h8', h9, h10, h11, hle]
    exact ⟨rfl, di, hd, hsz, by rw [hfin, hdj], (ext_frm (F := fun x => x = c) (H := H) (H' := H ++ [B.cells [T.int IntKind.u64 len]]) ⟨_, rfl⟩).trans hfr fun x h => h.elim .inl fun e => .inr (by omega)⟩
end Go.Proofs.YtodegnhallgnkaaGreat.St
end

section
namespace Go.Proofs.YtodegnhallgnkaaGreat.St
open Go.Rmp Go.Proofs.YtodegnhallgnkaaGreat.Ir
set_option maxRecDepth 10000
set_option maxHeartbeats 8000000
open Go.Sort in
theorem scanDown_eq {p : Nm → Bool} {d : Array Nm} {i k : Nat} (h : 1 ≤ i) : scanDown p d i k = if (decide (i ≤ k) && p d[k]!) = true then scanDown p d i (k - 1) else k := by
  cases k with
  | zero => rw [scanDown, if_neg (and_f1 (decf (by omega)))]
  | succ k => rw [scanDown]; rfl
open Go.Sort in
theorem peq_eq {a i j si sj : Nat} {d : Array Nm} (hi : si = scanUp (fun x => !ltM d[a]! x) d j i) (hj : sj = scanDown (fun x => ltM d[a]! x) d si j) : partEqLoop ltM a i j d = if si > sj then (si, d) else if (sj - 1) + 1 - (si + 1) < j + 1 - i then partEqLoop ltM a (si + 1) (sj - 1) (swp d si sj) else (si, d) := by
  subst hi; subst hj
  rw [partEqLoop]
  rfl
open Go.Sort in
theorem peq81 (c n : Nat) (d : Array Nm) (a b pv : Nat) (H : Heap) (hn : d.size = n) (hc : H[c]? = some (.cells (msC eN d.toList))) (hb : b ≤ n) (hab : a < b) (hpv : pv < n) (hs : n < 2305843009213693951) :
    W env (.call 96 [.msl c 0 n 2, .int .i64 a, .int .i64 b, .int .i64 pv, .fn 43 []]) H (fun o H' => o = .val (.int .i64 (partitionEqual ltM d a b pv).1) ∧ SC c n H (fun x => x = (partitionEqual ltM d a b pv).2) H') := by
  refine W.fnI rfl rfl rfl ?_
  have hd := hc
  have lc := glt hd
  simp -implicitDefEqProofs (maxSteps := 1000000) (disch := omega) only [ir96, natOf_nat, iadm, ldm1, ldm2, stm0, stm1, stm2, wA, wA1, wS, wS1, wM, S2, op, ef, cl, sq, reduceIte, j2, j3, j4, j5, j6, j7, j8, j9, y1, S1, hd, lc]
  obtain ⟨d1, hd1, hs1, e1, hf1⟩ := SC.swp (n := n) (P := fun x => x = swp d a pv) (x := .cells (msC eN (d.toList.set a d[pv]!))) hd (by rw [Go.Sort.swp_size]; exact hn) rfl (Frm.refl (fun x => x = c) H)
  subst e1
  generalize ((H.set c (.cells (msC eN (d.toList.set a d[pv]!)))).set c (.cells (msC eN (swp d a pv).toList))) = H1 at *
  refine W.loopE 0 (fun (q : Nat × Nat) R H' => At H' (fun H' => SC c n H (fun di => partEqLoop ltM a q.1 q.2 di = partitionEqual ltM d a b pv) H') ∧ R 0 = .msl c 0 n 2 ∧ R 1 = .int .i64 a ∧ R 4 = .fn 43 [] ∧ R 11 = .int .i64 q.1 ∧ R 12 = .int .i64 q.2 ∧ a < q.1 ∧ q.2 < n ∧ q.1 ≤ n) (fun q => q.2 + 1 - q.1) (a + 1, b - 1)
    (fun R H' => At H' (fun H' => SC c n H (fun di => di = (partitionEqual ltM d a b pv).2) H') ∧ R 11 = .int .i64 (partitionEqual ltM d a b pv).1) ⟨.i ⟨_, hd1, hs1, rfl, hf1⟩, rfl, rfl, rfl, rfl, rfl, by omega, by simp only; omega, by simp only; omega⟩ ?_ ?_
  · rintro ⟨i, j⟩ R H1 ⟨⟨di, hd, hsz, hP, hfr⟩, h0, h1, h4, h11, h12, hai, hjn, hin⟩
    simp only at hP h11 h12 hai hjn hin ⊢
    simp -implicitDefEqProofs only [op, ef, cl, sq, reduceIte, j2, j3, j4, j5, j6, j7, j8, j9, y1, S1, h0, h1, h4, h11, h12]
    obtain ⟨si, hsi⟩ : ∃ si, si = scanUp (fun x => !ltM di[a]! x) di j i := ⟨_, rfl⟩
    refine W.loopE 2 (fun (k : Nat) R H' => At H' (fun H' => H'[c]? = some (.cells (msC eN di.toList)) ∧ Frm (fun x => x = c) H H') ∧ R 0 = .msl c 0 n 2 ∧ R 1 = .int .i64 a ∧ R 4 = .fn 43 [] ∧ R 11 = .int .i64 k ∧ R 12 = .int .i64 j ∧ i ≤ k ∧ k ≤ n ∧ scanUp (fun x => !ltM di[a]! x) di j k = si) (fun k => j + 1 - k) i
      (fun R H' => At H' (fun H' => H'[c]? = some (.cells (msC eN di.toList)) ∧ Frm (fun x => x = c) H H') ∧ R 0 = .msl c 0 n 2 ∧ R 1 = .int .i64 a ∧ R 4 = .fn 43 [] ∧ R 11 = .int .i64 si ∧ R 12 = .int .i64 j ∧ i ≤ si ∧ si ≤ n) ⟨.i ⟨hd, hfr⟩, h0, h1, h4, h11, h12, Nat.le_refl _, hin, hsi.symm⟩ ?_ ?_
    · rintro k R H2 ⟨⟨hd, hfr⟩, h0, h1, h4, h11, h12, hik, hkn, hk⟩
      have lc := glt hd
      by_cases hkj : k ≤ j
      · simp -implicitDefEqProofs (maxSteps := 1000000) (disch := omega) only [natOf_nat, iadm, ldm1, ldm2, stm0, stm1, stm2, wA, wA1, wS, wS1, wM, S2, op, ef, cl, sq, reduceIte, j2, j3, j4, j5, j6, j7, j8, j9, y1, S1, h0, h1, h4, h11, h12, hkj, hd, lc]
        refine b_vg _ _ _ _ _ _ _ (by simp -implicitDefEqProofs (maxSteps := 1000000) (disch := omega) only [natOf_nat, iadm, ldm1, ldm2, stm0, stm1, stm2, wA, wA1, wS, wS1, wM, S2, op, ef, cl, sq, reduceIte, j2, j3, j4, j5, j6, j7, j8, j9, y1, S1, h0, h1, h4, h11, h12, hkj, hd, lc]) ?_
        simp -implicitDefEqProofs (maxSteps := 1000000) (disch := omega) only [natOf_nat, iadm, ldm1, ldm2, stm0, stm1, stm2, wA, wA1, wS, wS1, wM, S2, op, ef, cl, sq, reduceIte, j2, j3, j4, j5, j6, j7, j8, j9, y1, S1, callvB, h0, h1, h4, h11, h12, hkj, hd, lc, List.append_nil]
        refine callB_of _ _ _ _ _ _ _ _ (byName36 di[a]! di[k]! _) ?_
        rintro u H3 ⟨hu, hx⟩
        cases hu
        have hx : Ext H2 H3 := hx
        have hd := hx.get hd
        have lc := glt hd
        have hfr := hfr.trans (ext_frm (F := fun _ => False) hx) (fun _ h => h.elim)
        have lt1 : ltM di[a]! di[k]! = decide (cmpM di[a]! di[k]! < 0) := rfl
        by_cases c1 : cmpM di[a]! di[k]! < 0
        · simp -implicitDefEqProofs (maxSteps := 1000000) (disch := omega) only [natOf_nat, iadm, ldm1, ldm2, stm0, stm1, stm2, wA, wA1, wS, wS1, wM, S2, op, ef, cl, sq, reduceIte, j2, j3, j4, j5, j6, j7, j8, j9, y1, S1, h0, h1, h4, h11, h12, hkj, c1]
          rw [scanUp, if_neg (and_f2 (by rw [lt1, dect c1]; rfl))] at hk
          subst hk
          exact ⟨.i ⟨hd, hfr⟩, rfl, hik, hkn⟩
        · simp -implicitDefEqProofs (maxSteps := 1000000) (disch := omega) only [natOf_nat, iadm, ldm1, ldm2, stm0, stm1, stm2, wA, wA1, wS, wS1, wM, S2, op, ef, cl, sq, reduceIte, j2, j3, j4, j5, j6, j7, j8, j9, y1, S1, h0, h1, h4, h11, h12, hkj, c1]
          rw [scanUp, if_pos (and_t (dect hkj) (not_f (lt1.trans (decf c1))))] at hk
          exact ⟨k + 1, by omega, .i ⟨hd, hfr⟩, rfl, by omega, by omega, hk⟩
      · simp -implicitDefEqProofs (maxSteps := 1000000) (disch := omega) only [op, ef, cl, sq, reduceIte, j2, j3, j4, j5, j6, j7, j8, j9, y1, S1, h0, h1, h4, h11, h12, hkj]
        simp -implicitDefEqProofs only [op, ef, cl, sq, reduceIte, j2, j3, j4, j5, j6, j7, j8, j9, y1, S1, h0, h1, h4, h11, h12, hkj]
        rw [scanUp, if_neg (and_f1 (decf hkj))] at hk
        subst hk
        exact ⟨.i ⟨hd, hfr⟩, rfl, hik, hkn⟩
    · rintro R H2 ⟨⟨hd, hfr⟩, h0, h1, h4, h11, h12, hisi, hsin⟩
      simp -implicitDefEqProofs only [op, ef, cl, sq, reduceIte, j2, j3, j4, j5, j6, j7, j8, j9, y1, S1, h0, h1, h4, h11, h12]
      obtain ⟨sj, hsj⟩ : ∃ sj, sj = scanDown (fun x => ltM di[a]! x) di si j := ⟨_, rfl⟩
      refine W.loopE 4 (fun (k : Nat) R H' => At H' (fun H' => H'[c]? = some (.cells (msC eN di.toList)) ∧ Frm (fun x => x = c) H H') ∧ R 0 = .msl c 0 n 2 ∧ R 1 = .int .i64 a ∧ R 4 = .fn 43 [] ∧ R 11 = .int .i64 si ∧ R 12 = .int .i64 k ∧ k ≤ j ∧ scanDown (fun x => ltM di[a]! x) di si k = sj) (fun k => k) j
        (fun R H' => At H' (fun H' => H'[c]? = some (.cells (msC eN di.toList)) ∧ Frm (fun x => x = c) H H') ∧ R 0 = .msl c 0 n 2 ∧ R 1 = .int .i64 a ∧ R 4 = .fn 43 [] ∧ R 11 = .int .i64 si ∧ R 12 = .int .i64 sj ∧ sj ≤ j) ⟨.i ⟨hd, hfr⟩, h0, h1, h4, h11, h12, Nat.le_refl _, hsj.symm⟩ ?_ ?_
      · rintro k R H3 ⟨⟨hd, hfr⟩, h0, h1, h4, h11, h12, hkj, hk⟩
        have lc := glt hd
        rw [scanDown_eq (by omega)] at hk
        by_cases hkk : si ≤ k
        · simp -implicitDefEqProofs (maxSteps := 1000000) (disch := omega) only [natOf_nat, iadm, ldm1, ldm2, stm0, stm1, stm2, wA, wA1, wS, wS1, wM, S2, op, ef, cl, sq, reduceIte, j2, j3, j4, j5, j6, j7, j8, j9, y1, S1, h0, h1, h4, h11, h12, hkk, hd, lc]
          refine b_vg _ _ _ _ _ _ _ (by simp -implicitDefEqProofs (maxSteps := 1000000) (disch := omega) only [natOf_nat, iadm, ldm1, ldm2, stm0, stm1, stm2, wA, wA1, wS, wS1, wM, S2, op, ef, cl, sq, reduceIte, j2, j3, j4, j5, j6, j7, j8, j9, y1, S1, h0, h1, h4, h11, h12, hkk, hd, lc]) ?_
          simp -implicitDefEqProofs (maxSteps := 1000000) (disch := omega) only [natOf_nat, iadm, ldm1, ldm2, stm0, stm1, stm2, wA, wA1, wS, wS1, wM, S2, op, ef, cl, sq, reduceIte, j2, j3, j4, j5, j6, j7, j8, j9, y1, S1, callvB, h0, h1, h4, h11, h12, hkk, hd, lc, List.append_nil]
          refine callB_of _ _ _ _ _ _ _ _ (byName36 di[a]! di[k]! _) ?_
          rintro u H4 ⟨hu, hx⟩
          cases hu
          have hx : Ext H3 H4 := hx
          have hd := hx.get hd
          have lc := glt hd
          have hfr := hfr.trans (ext_frm (F := fun _ => False) hx) (fun _ h => h.elim)
          have lt1 : ltM di[a]! di[k]! = decide (cmpM di[a]! di[k]! < 0) := rfl
          by_cases c1 : cmpM di[a]! di[k]! < 0
          · simp -implicitDefEqProofs (maxSteps := 1000000) (disch := omega) only [natOf_nat, iadm, ldm1, ldm2, stm0, stm1, stm2, wA, wA1, wS, wS1, wM, S2, op, ef, cl, sq, reduceIte, j2, j3, j4, j5, j6, j7, j8, j9, y1, S1, h0, h1, h4, h11, h12, hkk, c1]
            rw [if_pos (and_t (dect hkk) (lt1.trans (dect c1)))] at hk
            exact ⟨k - 1, by omega, .i ⟨hd, hfr⟩, rfl, by omega, hk⟩
          · simp -implicitDefEqProofs (maxSteps := 1000000) (disch := omega) only [natOf_nat, iadm, ldm1, ldm2, stm0, stm1, stm2, wA, wA1, wS, wS1, wM, S2, op, ef, cl, sq, reduceIte, j2, j3, j4, j5, j6, j7, j8, j9, y1, S1, h0, h1, h4, h11, h12, hkk, c1]
            rw [if_neg (and_f2 (lt1.trans (decf c1)))] at hk
            subst hk
            exact ⟨.i ⟨hd, hfr⟩, rfl, hkj⟩
        · simp -implicitDefEqProofs only [op, ef, cl, sq, reduceIte, j2, j3, j4, j5, j6, j7, j8, j9, y1, S1, h0, h1, h4, h11, h12, hkk]
          rw [if_neg (and_f1 (decf hkk))] at hk
          subst hk
          exact ⟨.i ⟨hd, hfr⟩, rfl, hkj⟩
      · rintro R H3 ⟨⟨hd, hfr⟩, h0, h1, h4, h11, h12, hsjj⟩
        have lc := glt hd
        rw [peq_eq hsi hsj] at hP
        by_cases hgt : sj < si
        · rw [if_pos hgt] at hP
          simp -implicitDefEqProofs only [op, ef, cl, sq, reduceIte, j2, j3, j4, j5, j6, j7, j8, j9, y1, S1, h0, h1, h4, h11, h12, hgt]
          exact ⟨.i ⟨di, hd, hsz, by rw [← hP], hfr⟩, by rw [← hP]⟩
        · rw [if_neg hgt, if_pos (by omega)] at hP
          simp -implicitDefEqProofs (maxSteps := 1000000) (disch := omega) only [natOf_nat, iadm, ldm1, ldm2, stm0, stm1, stm2, wA, wA1, wS, wS1, wM, S2, op, ef, cl, sq, reduceIte, j2, j3, j4, j5, j6, j7, j8, j9, y1, S1, h0, h1, h4, h11, h12, hgt, hd, lc]
          exact ⟨(si + 1, sj - 1), by simp only; omega, .i (.swp hd (by rw [swp_size]; exact hsz) hP hfr), rfl, rfl, by simp only; omega, by simp only; omega, by simp only; omega⟩
  · rintro R H1 ⟨⟨di, hd, hsz, hP, hfr⟩, h11⟩
    simp -implicitDefEqProofs only [op, ef, cl, sq, reduceIte, j2, j3, j4, j5, j6, j7, j8, j9, y1, S1, h11]
    exact ⟨di, hd, hsz, hP, hfr⟩
end Go.Proofs.YtodegnhallgnkaaGreat.St
end

section
namespace Go.Proofs.YtodegnhallgnkaaGreat.St
open Go.Rmp Go.Proofs.YtodegnhallgnkaaGreat.Ir
set_option maxRecDepth 10000
set_option maxHeartbeats 8000000
open Go.Sort in
theorem part_eq {a i j si sj : Nat} {d : Array Nm} (hi : si = scanUp (fun x => ltM x d[a]!) d j i) (hj : sj = scanDown (fun x => !ltM x d[a]!) d si j) : partLoop ltM a i j d = if si > sj then (sj, d) else if (sj - 1) + 1 - (si + 1) < j + 1 - i then partLoop ltM a (si + 1) (sj - 1) (swp d si sj) else (sj, d) := by
  subst hi; subst hj
  rw [partLoop]
  rfl
open Go.Sort in
theorem part82 (c n : Nat) (d : Array Nm) (a b pv : Nat) (H : Heap) (hn : d.size = n) (hc : H[c]? = some (.cells (msC eN d.toList))) (hb : b ≤ n) (hab : a < b) (hpv : pv < n) (hs : n < 2305843009213693951) :
    W env (.call 97 [.msl c 0 n 2, .int .i64 a, .int .i64 b, .int .i64 pv, .fn 43 []]) H (fun o H' => o = .val (.tup [.int .i64 (partition ltM d a b pv).1, .bool (partition ltM d a b pv).2.1]) ∧ SC c n H (fun x => x = (partition ltM d a b pv).2.2) H') := by
  refine W.fnI rfl rfl rfl ?_
  have hd := hc
  have lc := glt hd
  simp -implicitDefEqProofs (maxSteps := 1000000) (disch := omega) only [ir97, natOf_nat, iadm, ldm1, ldm2, stm0, stm1, stm2, wA, wA1, wS, wS1, wM, S2, op, ef, cl, sq, reduceIte, j2, j3, j4, j5, j6, j7, j8, j9, y1, S1, hd, lc]
  obtain ⟨d1, hd1, hs1, e1, hf1⟩ := SC.swp (n := n) (P := fun x => x = swp d a pv) (x := .cells (msC eN (d.toList.set a d[pv]!))) hd (by rw [Go.Sort.swp_size]; exact hn) rfl (Frm.refl (fun x => x = c) H)
  subst e1
  generalize ((H.set c (.cells (msC eN (d.toList.set a d[pv]!)))).set c (.cells (msC eN (swp d a pv).toList))) = H1 at *
  have hd := hd1
  have hfr := hf1
  obtain ⟨si, hsi⟩ : ∃ si, si = scanUp (fun x => ltM x (swp d a pv)[a]!) (swp d a pv) (b - 1) (a + 1) := ⟨_, rfl⟩
  refine W.loopE 0 (fun (k : Nat) R H' => At H' (fun H' => H'[c]? = some (.cells (msC eN (swp d a pv).toList)) ∧ Frm (fun x => x = c) H H') ∧ R 0 = .msl c 0 n 2 ∧ R 1 = .int .i64 a ∧ R 4 = .fn 43 [] ∧ R 12 = .int .i64 k ∧ R 13 = .int .i64 ((b - 1) : Nat) ∧ (a + 1) ≤ k ∧ k ≤ n ∧ scanUp (fun x => ltM x (swp d a pv)[a]!) (swp d a pv) ((b - 1)) k = si) (fun k => (b - 1) + 1 - k) ((a + 1))
    (fun R H' => At H' (fun H' => H'[c]? = some (.cells (msC eN (swp d a pv).toList)) ∧ Frm (fun x => x = c) H H') ∧ R 0 = .msl c 0 n 2 ∧ R 1 = .int .i64 a ∧ R 4 = .fn 43 [] ∧ R 12 = .int .i64 si ∧ R 13 = .int .i64 ((b - 1) : Nat) ∧ (a + 1) ≤ si ∧ si ≤ n) ⟨.i ⟨hd, hfr⟩, rfl, rfl, rfl, rfl, rfl, Nat.le_refl _, by omega, hsi.symm⟩ ?_ ?_
  · rintro k R H2 ⟨⟨hd, hfr⟩, h0, h1, h4, h12, h13, hik, hkn, hk⟩
    have lc := glt hd
    by_cases hkj : k ≤ (b - 1)
    · simp -implicitDefEqProofs (maxSteps := 1000000) (disch := omega) only [natOf_nat, iadm, ldm1, ldm2, stm0, stm1, stm2, wA, wA1, wS, wS1, wM, S2, op, ef, cl, sq, reduceIte, j2, j3, j4, j5, j6, j7, j8, j9, y1, S1, h0, h1, h4, h12, h13, hkj, hd, lc]
      refine b_vg _ _ _ _ _ _ _ (by simp -implicitDefEqProofs (maxSteps := 1000000) (disch := omega) only [natOf_nat, iadm, ldm1, ldm2, stm0, stm1, stm2, wA, wA1, wS, wS1, wM, S2, op, ef, cl, sq, reduceIte, j2, j3, j4, j5, j6, j7, j8, j9, y1, S1, h0, h1, h4, h12, h13, hkj, hd, lc]) ?_
      simp -implicitDefEqProofs (maxSteps := 1000000) (disch := omega) only [natOf_nat, iadm, ldm1, ldm2, stm0, stm1, stm2, wA, wA1, wS, wS1, wM, S2, op, ef, cl, sq, reduceIte, j2, j3, j4, j5, j6, j7, j8, j9, y1, S1, callvB, h0, h1, h4, h12, h13, hkj, hd, lc, List.append_nil]
      refine callB_of _ _ _ _ _ _ _ _ (byName36 (swp d a pv)[k]! (swp d a pv)[a]! _) ?_
      rintro u H3 ⟨hu, hx⟩
      cases hu
      have hx : Ext H2 H3 := hx
      have hd := hx.get hd
      have lc := glt hd
      have hfr := hfr.trans (ext_frm (F := fun _ => False) hx) (fun _ h => h.elim)
      have lt1 : ltM (swp d a pv)[k]! (swp d a pv)[a]! = decide (cmpM (swp d a pv)[k]! (swp d a pv)[a]! < 0) := rfl
      by_cases c1 : cmpM (swp d a pv)[k]! (swp d a pv)[a]! < 0
      · simp -implicitDefEqProofs (maxSteps := 1000000) (disch := omega) only [natOf_nat, iadm, ldm1, ldm2, stm0, stm1, stm2, wA, wA1, wS, wS1, wM, S2, op, ef, cl, sq, reduceIte, j2, j3, j4, j5, j6, j7, j8, j9, y1, S1, h0, h1, h4, h12, h13, hkj, c1]
        rw [scanUp, if_pos (and_t (dect hkj) (lt1.trans (dect c1)))] at hk
        exact ⟨k + 1, by omega, .i ⟨hd, hfr⟩, rfl, by omega, by omega, hk⟩
      · simp -implicitDefEqProofs (maxSteps := 1000000) (disch := omega) only [natOf_nat, iadm, ldm1, ldm2, stm0, stm1, stm2, wA, wA1, wS, wS1, wM, S2, op, ef, cl, sq, reduceIte, j2, j3, j4, j5, j6, j7, j8, j9, y1, S1, h0, h1, h4, h12, h13, hkj, c1]
        rw [scanUp, if_neg (and_f2 (lt1.trans (decf c1)))] at hk
        subst hk
        exact ⟨.i ⟨hd, hfr⟩, rfl, hik, hkn⟩
    · simp -implicitDefEqProofs only [op, ef, cl, sq, reduceIte, j2, j3, j4, j5, j6, j7, j8, j9, y1, S1, h0, h1, h4, h12, h13, hkj]
      rw [scanUp, if_neg (and_f1 (decf hkj))] at hk
      subst hk
      exact ⟨.i ⟨hd, hfr⟩, rfl, hik, hkn⟩
  · rintro R H2 ⟨⟨hd, hfr⟩, h0, h1, h4, h12, h13, hisi, hsin⟩
    simp -implicitDefEqProofs only [op, ef, cl, sq, reduceIte, j2, j3, j4, j5, j6, j7, j8, j9, y1, S1, h0, h1, h4, h12, h13]
    obtain ⟨sj, hsj⟩ : ∃ sj, sj = scanDown (fun x => !ltM x (swp d a pv)[a]!) (swp d a pv) si (b - 1) := ⟨_, rfl⟩
    refine W.loopE 2 (fun (k : Nat) R H' => At H' (fun H' => H'[c]? = some (.cells (msC eN (swp d a pv).toList)) ∧ Frm (fun x => x = c) H H') ∧ R 0 = .msl c 0 n 2 ∧ R 1 = .int .i64 a ∧ R 4 = .fn 43 [] ∧ R 12 = .int .i64 si ∧ R 13 = .int .i64 k ∧ k ≤ (b - 1) ∧ scanDown (fun x => !ltM x (swp d a pv)[a]!) (swp d a pv) si k = sj) (fun k => k) ((b - 1))
      (fun R H' => At H' (fun H' => H'[c]? = some (.cells (msC eN (swp d a pv).toList)) ∧ Frm (fun x => x = c) H H') ∧ R 0 = .msl c 0 n 2 ∧ R 1 = .int .i64 a ∧ R 4 = .fn 43 [] ∧ R 12 = .int .i64 si ∧ R 13 = .int .i64 sj ∧ sj ≤ (b - 1)) ⟨.i ⟨hd, hfr⟩, h0, h1, h4, h12, h13, Nat.le_refl _, hsj.symm⟩ ?_ ?_
    · rintro k R H3 ⟨⟨hd, hfr⟩, h0, h1, h4, h12, h13, hkj, hk⟩
      have lc := glt hd
      rw [scanDown_eq (by omega)] at hk
      by_cases hkk : si ≤ k
      · simp -implicitDefEqProofs (maxSteps := 1000000) (disch := omega) only [natOf_nat, iadm, ldm1, ldm2, stm0, stm1, stm2, wA, wA1, wS, wS1, wM, S2, op, ef, cl, sq, reduceIte, j2, j3, j4, j5, j6, j7, j8, j9, y1, S1, h0, h1, h4, h12, h13, hkk, hd, lc]
        refine b_vg _ _ _ _ _ _ _ (by simp -implicitDefEqProofs (maxSteps := 1000000) (disch := omega) only [natOf_nat, iadm, ldm1, ldm2, stm0, stm1, stm2, wA, wA1, wS, wS1, wM, S2, op, ef, cl, sq, reduceIte, j2, j3, j4, j5, j6, j7, j8, j9, y1, S1, h0, h1, h4, h12, h13, hkk, hd, lc]) ?_
        simp -implicitDefEqProofs (maxSteps := 1000000) (disch := omega) only [natOf_nat, iadm, ldm1, ldm2, stm0, stm1, stm2, wA, wA1, wS, wS1, wM, S2, op, ef, cl, sq, reduceIte, j2, j3, j4, j5, j6, j7, j8, j9, y1, S1, callvB, h0, h1, h4, h12, h13, hkk, hd, lc, List.append_nil]
        refine callB_of _ _ _ _ _ _ _ _ (byName36 (swp d a pv)[k]! (swp d a pv)[a]! _) ?_
        rintro u H4 ⟨hu, hx⟩
        cases hu
        have hx : Ext H3 H4 := hx
        have hd := hx.get hd
        have lc := glt hd
        have hfr := hfr.trans (ext_frm (F := fun _ => False) hx) (fun _ h => h.elim)
        have lt1 : ltM (swp d a pv)[k]! (swp d a pv)[a]! = decide (cmpM (swp d a pv)[k]! (swp d a pv)[a]! < 0) := rfl
        by_cases c1 : cmpM (swp d a pv)[k]! (swp d a pv)[a]! < 0
        · simp -implicitDefEqProofs (maxSteps := 1000000) (disch := omega) only [natOf_nat, iadm, ldm1, ldm2, stm0, stm1, stm2, wA, wA1, wS, wS1, wM, S2, op, ef, cl, sq, reduceIte, j2, j3, j4, j5, j6, j7, j8, j9, y1, S1, h0, h1, h4, h12, h13, hkk, c1]
          rw [if_neg (and_f2 (by rw [lt1, dect c1]; rfl))] at hk
          subst hk
          exact ⟨.i ⟨hd, hfr⟩, rfl, hkj⟩
        · simp -implicitDefEqProofs (maxSteps := 1000000) (disch := omega) only [natOf_nat, iadm, ldm1, ldm2, stm0, stm1, stm2, wA, wA1, wS, wS1, wM, S2, op, ef, cl, sq, reduceIte, j2, j3, j4, j5, j6, j7, j8, j9, y1, S1, h0, h1, h4, h12, h13, hkk, c1]
          rw [if_pos (and_t (dect hkk) (not_f (lt1.trans (decf c1))))] at hk
          exact ⟨k - 1, by omega, .i ⟨hd, hfr⟩, rfl, by omega, hk⟩
      · simp -implicitDefEqProofs only [op, ef, cl, sq, reduceIte, j2, j3, j4, j5, j6, j7, j8, j9, y1, S1, h0, h1, h4, h12, h13, hkk]
        rw [if_neg (and_f1 (decf hkk))] at hk
        subst hk
        exact ⟨.i ⟨hd, hfr⟩, rfl, hkj⟩
    · rintro R H3 ⟨⟨hd, hfr⟩, h0, h1, h4, h12, h13, hsjj⟩
      have lc := glt hd
      by_cases hgt : sj < si
      · have e : partition ltM d a b pv = (sj, true, swp (swp d a pv) sj a) := by
          simp -implicitDefEqProofs only [partition, ← hsi, ← hsj, gt_iff_lt, if_pos hgt]
        rw [e]
        simp -implicitDefEqProofs (maxSteps := 1000000) (disch := omega) only [natOf_nat, iadm, ldm1, ldm2, stm0, stm1, stm2, wA, wA1, wS, wS1, wM, S2, op, ef, cl, sq, reduceIte, j2, j3, j4, j5, j6, j7, j8, j9, y1, S1, h0, h1, h4, h12, h13, hgt, hd, lc]
        exact .swp hd (by rw [swp_size]; exact hs1) rfl hfr
      · obtain ⟨r, hr⟩ : ∃ r, r = partLoop ltM a (si + 1) (sj - 1) (swp (swp d a pv) si sj) := ⟨_, rfl⟩
        have e : partition ltM d a b pv = (r.1, false, swp r.2 r.1 a) := by
          simp -implicitDefEqProofs only [partition, ← hsi, ← hsj, gt_iff_lt, if_neg hgt, ← hr]
        rw [e]
        simp -implicitDefEqProofs (maxSteps := 1000000) (disch := omega) only [natOf_nat, iadm, ldm1, ldm2, stm0, stm1, stm2, wA, wA1, wS, wS1, wM, S2, op, ef, cl, sq, reduceIte, j2, j3, j4, j5, j6, j7, j8, j9, y1, S1, h0, h1, h4, h12, h13, hgt, hd, lc]
        obtain ⟨d2, hd2, hs2, e2, hf2⟩ := SC.swp (n := n) (P := fun x => x = swp (swp d a pv) si sj) (x := .cells (msC eN ((swp d a pv).toList.set si (swp d a pv)[sj]!))) hd (by rw [swp_size]; exact hs1) rfl hfr
        subst e2
        generalize ((H3.set c (.cells (msC eN ((swp d a pv).toList.set si (swp d a pv)[sj]!)))).set c (.cells (msC eN (swp (swp d a pv) si sj).toList))) = H5 at *
        refine W.loopE 4 (fun (q : Nat × Nat) R H' => At H' (fun H' => SC c n H (fun di => partLoop ltM a q.1 q.2 di = r) H') ∧ R 0 = .msl c 0 n 2 ∧ R 1 = .int .i64 a ∧ R 4 = .fn 43 [] ∧ R 12 = .int .i64 q.1 ∧ R 13 = .int .i64 q.2 ∧ a < q.1 ∧ q.2 < n ∧ q.1 ≤ n) (fun q => q.2 + 1 - q.1) (si + 1, sj - 1)
          (fun R H' => At H' (fun H' => SC c n H (fun di => di = r.2) H') ∧ R 0 = .msl c 0 n 2 ∧ R 1 = .int .i64 a ∧ R 4 = .fn 43 [] ∧ R 13 = .int .i64 r.1 ∧ r.1 < n) ⟨.i ⟨_, hd2, hs2, hr.symm, hf2⟩, ?_, ?_, ?_, ?_, ?_, by simp only; omega, by simp only; omega, by simp only; omega⟩ ?_ ?_
        · simp -implicitDefEqProofs only [op, ef, cl, sq, reduceIte, j2, j3, j4, j5, j6, j7, j8, j9, y1, S1, h0]
        · simp -implicitDefEqProofs only [op, ef, cl, sq, reduceIte, j2, j3, j4, j5, j6, j7, j8, j9, y1, S1, h1]
        · simp -implicitDefEqProofs only [op, ef, cl, sq, reduceIte, j2, j3, j4, j5, j6, j7, j8, j9, y1, S1, h4]
        · simp -implicitDefEqProofs only [op, ef, cl, sq, reduceIte, j2, j3, j4, j5, j6, j7, j8, j9, y1, S1, h12]
        · simp -implicitDefEqProofs only [op, ef, cl, sq, reduceIte, j2, j3, j4, j5, j6, j7, j8, j9, y1, S1, h13]
        · rintro ⟨i, j⟩ R H1 ⟨⟨di, hd, hsz, hP, hfr⟩, h0, h1, h4, h12, h13, hai, hjn, hin⟩
          simp only at hP h12 h13 hai hjn hin ⊢
          simp -implicitDefEqProofs only [op, ef, cl, sq, reduceIte, j2, j3, j4, j5, j6, j7, j8, j9, y1, S1, h0, h1, h4, h12, h13]
          clear hsi hsj
          obtain ⟨si, hsi⟩ : ∃ si, si = scanUp (fun x => ltM x di[a]!) di j i := ⟨_, rfl⟩
          refine W.loopE 6 (fun (k : Nat) R H' => At H' (fun H' => H'[c]? = some (.cells (msC eN di.toList)) ∧ Frm (fun x => x = c) H H') ∧ R 0 = .msl c 0 n 2 ∧ R 1 = .int .i64 a ∧ R 4 = .fn 43 [] ∧ R 12 = .int .i64 k ∧ R 13 = .int .i64 (j : Nat) ∧ i ≤ k ∧ k ≤ n ∧ scanUp (fun x => ltM x di[a]!) di (j) k = si) (fun k => j + 1 - k) (i)
            (fun R H' => At H' (fun H' => H'[c]? = some (.cells (msC eN di.toList)) ∧ Frm (fun x => x = c) H H') ∧ R 0 = .msl c 0 n 2 ∧ R 1 = .int .i64 a ∧ R 4 = .fn 43 [] ∧ R 12 = .int .i64 si ∧ R 13 = .int .i64 (j : Nat) ∧ i ≤ si ∧ si ≤ n) ⟨.i ⟨hd, hfr⟩, h0, h1, h4, h12, h13, Nat.le_refl _, by omega, hsi.symm⟩ ?_ ?_
          · rintro k R H2 ⟨⟨hd, hfr⟩, h0, h1, h4, h12, h13, hik, hkn, hk⟩
            have lc := glt hd
            by_cases hkj : k ≤ j
            · simp -implicitDefEqProofs (maxSteps := 1000000) (disch := omega) only [natOf_nat, iadm, ldm1, ldm2, stm0, stm1, stm2, wA, wA1, wS, wS1, wM, S2, op, ef, cl, sq, reduceIte, j2, j3, j4, j5, j6, j7, j8, j9, y1, S1, h0, h1, h4, h12, h13, hkj, hd, lc]
              refine b_vg _ _ _ _ _ _ _ (by simp -implicitDefEqProofs (maxSteps := 1000000) (disch := omega) only [natOf_nat, iadm, ldm1, ldm2, stm0, stm1, stm2, wA, wA1, wS, wS1, wM, S2, op, ef, cl, sq, reduceIte, j2, j3, j4, j5, j6, j7, j8, j9, y1, S1, h0, h1, h4, h12, h13, hkj, hd, lc]) ?_
              simp -implicitDefEqProofs (maxSteps := 1000000) (disch := omega) only [natOf_nat, iadm, ldm1, ldm2, stm0, stm1, stm2, wA, wA1, wS, wS1, wM, S2, op, ef, cl, sq, reduceIte, j2, j3, j4, j5, j6, j7, j8, j9, y1, S1, callvB, h0, h1, h4, h12, h13, hkj, hd, lc, List.append_nil]
              refine callB_of _ _ _ _ _ _ _ _ (byName36 di[k]! di[a]! _) ?_
              rintro u H3 ⟨hu, hx⟩
              cases hu
              have hx : Ext H2 H3 := hx
              have hd := hx.get hd
              have lc := glt hd
              have hfr := hfr.trans (ext_frm (F := fun _ => False) hx) (fun _ h => h.elim)
              have lt1 : ltM di[k]! di[a]! = decide (cmpM di[k]! di[a]! < 0) := rfl
              by_cases c1 : cmpM di[k]! di[a]! < 0
              · simp -implicitDefEqProofs (maxSteps := 1000000) (disch := omega) only [natOf_nat, iadm, ldm1, ldm2, stm0, stm1, stm2, wA, wA1, wS, wS1, wM, S2, op, ef, cl, sq, reduceIte, j2, j3, j4, j5, j6, j7, j8, j9, y1, S1, h0, h1, h4, h12, h13, hkj, c1]
                rw [scanUp, if_pos (and_t (dect hkj) (lt1.trans (dect c1)))] at hk
                exact ⟨k + 1, by omega, .i ⟨hd, hfr⟩, rfl, by omega, by omega, hk⟩
              · simp -implicitDefEqProofs (maxSteps := 1000000) (disch := omega) only [natOf_nat, iadm, ldm1, ldm2, stm0, stm1, stm2, wA, wA1, wS, wS1, wM, S2, op, ef, cl, sq, reduceIte, j2, j3, j4, j5, j6, j7, j8, j9, y1, S1, h0, h1, h4, h12, h13, hkj, c1]
                rw [scanUp, if_neg (and_f2 (lt1.trans (decf c1)))] at hk
                subst hk
                exact ⟨.i ⟨hd, hfr⟩, rfl, hik, hkn⟩
            · simp -implicitDefEqProofs only [op, ef, cl, sq, reduceIte, j2, j3, j4, j5, j6, j7, j8, j9, y1, S1, h0, h1, h4, h12, h13, hkj]
              rw [scanUp, if_neg (and_f1 (decf hkj))] at hk
              subst hk
              exact ⟨.i ⟨hd, hfr⟩, rfl, hik, hkn⟩
          · rintro R H2 ⟨⟨hd, hfr⟩, h0, h1, h4, h12, h13, hisi, hsin⟩
            simp -implicitDefEqProofs only [op, ef, cl, sq, reduceIte, j2, j3, j4, j5, j6, j7, j8, j9, y1, S1, h0, h1, h4, h12, h13]
            obtain ⟨sj, hsj⟩ : ∃ sj, sj = scanDown (fun x => !ltM x di[a]!) di si j := ⟨_, rfl⟩
            refine W.loopE 8 (fun (k : Nat) R H' => At H' (fun H' => H'[c]? = some (.cells (msC eN di.toList)) ∧ Frm (fun x => x = c) H H') ∧ R 0 = .msl c 0 n 2 ∧ R 1 = .int .i64 a ∧ R 4 = .fn 43 [] ∧ R 12 = .int .i64 si ∧ R 13 = .int .i64 k ∧ k ≤ j ∧ scanDown (fun x => !ltM x di[a]!) di si k = sj) (fun k => k) (j)
              (fun R H' => At H' (fun H' => H'[c]? = some (.cells (msC eN di.toList)) ∧ Frm (fun x => x = c) H H') ∧ R 0 = .msl c 0 n 2 ∧ R 1 = .int .i64 a ∧ R 4 = .fn 43 [] ∧ R 12 = .int .i64 si ∧ R 13 = .int .i64 sj ∧ sj ≤ j) ⟨.i ⟨hd, hfr⟩, h0, h1, h4, h12, h13, Nat.le_refl _, hsj.symm⟩ ?_ ?_
            · rintro k R H3 ⟨⟨hd, hfr⟩, h0, h1, h4, h12, h13, hkj, hk⟩
              have lc := glt hd
              rw [scanDown_eq (by omega)] at hk
              by_cases hkk : si ≤ k
              · simp -implicitDefEqProofs (maxSteps := 1000000) (disch := omega) only [natOf_nat, iadm, ldm1, ldm2, stm0, stm1, stm2, wA, wA1, wS, wS1, wM, S2, op, ef, cl, sq, reduceIte, j2, j3, j4, j5, j6, j7, j8, j9, y1, S1, h0, h1, h4, h12, h13, hkk, hd, lc]
                refine b_vg _ _ _ _ _ _ _ (by simp -implicitDefEqProofs (maxSteps := 1000000) (disch := omega) only [natOf_nat, iadm, ldm1, ldm2, stm0, stm1, stm2, wA, wA1, wS, wS1, wM, S2, op, ef, cl, sq, reduceIte, j2, j3, j4, j5, j6, j7, j8, j9, y1, S1, h0, h1, h4, h12, h13, hkk, hd, lc]) ?_
                simp -implicitDefEqProofs (maxSteps := 1000000) (disch := omega) only [natOf_nat, iadm, ldm1, ldm2, stm0, stm1, stm2, wA, wA1, wS, wS1, wM, S2, op, ef, cl, sq, reduceIte, j2, j3, j4, j5, j6, j7, j8, j9, y1, S1, callvB, h0, h1, h4, h12, h13, hkk, hd, lc, List.append_nil]
                refine callB_of _ _ _ _ _ _ _ _ (byName36 di[k]! di[a]! _) ?_
                rintro u H4 ⟨hu, hx⟩
                cases hu
                have hx : Ext H3 H4 := hx
                have hd := hx.get hd
                have lc := glt hd
                have hfr := hfr.trans (ext_frm (F := fun _ => False) hx) (fun _ h => h.elim)
                have lt1 : ltM di[k]! di[a]! = decide (cmpM di[k]! di[a]! < 0) := rfl
                by_cases c1 : cmpM di[k]! di[a]! < 0
                · simp -implicitDefEqProofs (maxSteps := 1000000) (disch := omega) only [natOf_nat, iadm, ldm1, ldm2, stm0, stm1, stm2, wA, wA1, wS, wS1, wM, S2, op, ef, cl, sq, reduceIte, j2, j3, j4, j5, j6, j7, j8, j9, y1, S1, h0, h1, h4, h12, h13, hkk, c1]
                  rw [if_neg (and_f2 (by rw [lt1, dect c1]; rfl))] at hk
                  subst hk
                  exact ⟨.i ⟨hd, hfr⟩, rfl, hkj⟩
                · simp -implicitDefEqProofs (maxSteps := 1000000) (disch := omega) only [natOf_nat, iadm, ldm1, ldm2, stm0, stm1, stm2, wA, wA1, wS, wS1, wM, S2, op, ef, cl, sq, reduceIte, j2, j3, j4, j5, j6, j7, j8, j9, y1, S1, h0, h1, h4, h12, h13, hkk, c1]
                  rw [if_pos (and_t (dect hkk) (not_f (lt1.trans (decf c1))))] at hk
                  exact ⟨k - 1, by omega, .i ⟨hd, hfr⟩, rfl, by omega, hk⟩
              · simp -implicitDefEqProofs only [op, ef, cl, sq, reduceIte, j2, j3, j4, j5, j6, j7, j8, j9, y1, S1, h0, h1, h4, h12, h13, hkk]
                rw [if_neg (and_f1 (decf hkk))] at hk
                subst hk
                exact ⟨.i ⟨hd, hfr⟩, rfl, hkj⟩
            · rintro R H3 ⟨⟨hd, hfr⟩, h0, h1, h4, h12, h13, hsjj⟩
              have lc := glt hd
              rw [part_eq hsi hsj] at hP
              by_cases hgt : sj < si
              · rw [if_pos hgt] at hP
                simp -implicitDefEqProofs only [op, ef, cl, sq, reduceIte, j2, j3, j4, j5, j6, j7, j8, j9, y1, S1, h0, h1, h4, h12, h13, hgt]
                exact ⟨.i ⟨di, hd, hsz, by rw [← hP], hfr⟩, by rw [← hP], by rw [← hP]; simp only; omega⟩
              · rw [if_neg hgt, if_pos (by omega)] at hP
                simp -implicitDefEqProofs (maxSteps := 1000000) (disch := omega) only [natOf_nat, iadm, ldm1, ldm2, stm0, stm1, stm2, wA, wA1, wS, wS1, wM, S2, op, ef, cl, sq, reduceIte, j2, j3, j4, j5, j6, j7, j8, j9, y1, S1, h0, h1, h4, h12, h13, hgt, hd, lc]
                exact ⟨(si + 1, sj - 1), by simp only; omega, .i (.swp hd (by rw [swp_size]; exact hsz) hP hfr), rfl, rfl, by simp only; omega, by simp only; omega, by simp only; omega⟩
        · rintro R H1 ⟨⟨di, hd, hsz, rfl, hfr⟩, h0, h1, h4, h13, hr1⟩
          have lc := glt hd
          simp -implicitDefEqProofs (maxSteps := 1000000) (disch := omega) only [natOf_nat, iadm, ldm1, ldm2, stm0, stm1, stm2, wA, wA1, wS, wS1, wM, S2, op, ef, cl, sq, reduceIte, j2, j3, j4, j5, j6, j7, j8, j9, y1, S1, h0, h1, h4, h13, hd, lc]
          exact .swp hd (by rw [swp_size]; exact hsz) rfl hfr
end Go.Proofs.YtodegnhallgnkaaGreat.St
end

section
namespace Go.Proofs.YtodegnhallgnkaaGreat.St
open Go.Rmp Go.Proofs.YtodegnhallgnkaaGreat.Ir
set_option maxRecDepth 10000
set_option maxHeartbeats 8000000
open Go.Sort in
theorem shiftDown_eq {d : Array Nm} {k : Nat} (h : 1 ≤ k) : shiftDown ltM k d = if (!ltM d[k]! d[k - 1]!) = true then d else shiftDown ltM (k - 1) (swp d k (k - 1)) := by
  cases k with
  | zero => omega
  | succ k => rw [shiftDown]; rfl
open Go.Sort in
theorem pins80 (c n : Nat) (d : Array Nm) (a b : Nat) (H : Heap) (hn : d.size = n) (hc : H[c]? = some (.cells (msC eN d.toList))) (hb : b ≤ n) (hab : a < b) (hs : n < 2305843009213693951) :
    W env (.call 95 [.msl c 0 n 2, .int .i64 a, .int .i64 b, .fn 43 []]) H (fun o H' => o = .val (.bool (partialInsertionSort ltM d a b).2) ∧ SC c n H (fun x => x = (partialInsertionSort ltM d a b).1) H') := by
  refine W.fnI rfl rfl rfl ?_
  obtain ⟨r, hr⟩ : ∃ r, r = partialInsertionSort ltM d a b := ⟨_, rfl⟩
  rw [← hr]
  simp -implicitDefEqProofs (maxSteps := 1000000) (disch := omega) only [ir95, natOf_nat, iadm, ldm1, ldm2, stm0, stm1, stm2, wA, wA1, wS, wS1, wM, S2, op, ef, cl, sq, reduceIte, j2, j3, j4, j5, j6, j7, j8, j9, y1, S1]
  refine W.loopE 0 (fun (j : Nat) R H' => At H' (fun H' => ∃ i, R 9 = .int .i64 (i : Nat) ∧ a < i ∧ i ≤ b ∧ SC c n H (fun di => partialIns ltM a b (5 - j) i di = r) H') ∧ R 0 = .msl c 0 n 2 ∧ R 1 = .int .i64 a ∧ R 2 = .int .i64 b ∧ R 3 = .fn 43 [] ∧ R 10 = .int .i64 j ∧ j ≤ 5) (fun j => 5 - j) 0
    (fun R H' => At H' (fun H' => SC c n H (fun di => (di, false) = r) H')) ⟨.i ⟨a + 1, rfl, by omega, by omega, d, hc, hn, hr.symm, Frm.refl _ _⟩, rfl, rfl, rfl, rfl, rfl, by omega⟩ ?_ ?_
  · rintro j R H1 ⟨⟨i, h9, hai, hib, di, hd, hsz, hP, hfr⟩, h0, h1, h2, h3, h10, hj⟩
    by_cases hj5 : j < 5
    rotate_left
    · have : j = 5 := by omega
      subst this
      simp -implicitDefEqProofs only [op, ef, cl, sq, reduceIte, j2, j3, j4, j5, j6, j7, j8, j9, y1, S1, h0, h1, h2, h3, h10]
      exact .i ⟨di, hd, hsz, hP, hfr⟩
    obtain ⟨s, hs5⟩ : ∃ s, 5 - j = s + 1 := ⟨4 - j, by omega⟩
    have hs5' : 5 - (j + 1) = s := by omega
    rw [hs5, partialIns] at hP
    simp -implicitDefEqProofs only [op, ef, cl, sq, reduceIte, j2, j3, j4, j5, j6, j7, j8, j9, y1, S1, h0, h1, h2, h3, h10, hj5]
    obtain ⟨si, hsi⟩ : ∃ si, si = scanSorted ltM di b i := ⟨_, rfl⟩
    rw [← hsi] at hP
    refine W.loopE 2 (fun (k : Nat) R H' => At H' (fun H' => H'[c]? = some (.cells (msC eN di.toList)) ∧ Frm (fun x => x = c) H H') ∧ R 0 = .msl c 0 n 2 ∧ R 1 = .int .i64 a ∧ R 2 = .int .i64 b ∧ R 3 = .fn 43 [] ∧ R 9 = .int .i64 k ∧ R 10 = .int .i64 j ∧ i ≤ k ∧ k ≤ b ∧ scanSorted ltM di b k = si) (fun k => b - k) i
      (fun R H' => At H' (fun H' => H'[c]? = some (.cells (msC eN di.toList)) ∧ Frm (fun x => x = c) H H') ∧ R 0 = .msl c 0 n 2 ∧ R 1 = .int .i64 a ∧ R 2 = .int .i64 b ∧ R 3 = .fn 43 [] ∧ R 9 = .int .i64 si ∧ R 10 = .int .i64 j ∧ i ≤ si ∧ si ≤ b) ⟨.i ⟨hd, hfr⟩, ?_, ?_, ?_, ?_, ?_, ?_, Nat.le_refl _, hib, hsi.symm⟩ ?_ ?_
    · simp -implicitDefEqProofs only [op, ef, cl, sq, reduceIte, j2, j3, j4, j5, j6, j7, j8, j9, y1, S1, h0]
    · simp -implicitDefEqProofs only [op, ef, cl, sq, reduceIte, j2, j3, j4, j5, j6, j7, j8, j9, y1, S1, h1]
    · simp -implicitDefEqProofs only [op, ef, cl, sq, reduceIte, j2, j3, j4, j5, j6, j7, j8, j9, y1, S1, h2]
    · simp -implicitDefEqProofs only [op, ef, cl, sq, reduceIte, j2, j3, j4, j5, j6, j7, j8, j9, y1, S1, h3]
    · simp -implicitDefEqProofs only [op, ef, cl, sq, reduceIte, j2, j3, j4, j5, j6, j7, j8, j9, y1, S1, h9]
    · simp -implicitDefEqProofs only [op, ef, cl, sq, reduceIte, j2, j3, j4, j5, j6, j7, j8, j9, y1, S1, h10]
    · rintro k R H2 ⟨⟨hd, hfr⟩, h0, h1, h2, h3, h9, h10, hik, hkb, hk⟩
      have lc := glt hd
      by_cases hkk : k < b
      · simp -implicitDefEqProofs (maxSteps := 1000000) (disch := omega) only [natOf_nat, iadm, ldm1, ldm2, stm0, stm1, stm2, wA, wA1, wS, wS1, wM, S2, op, ef, cl, sq, reduceIte, j2, j3, j4, j5, j6, j7, j8, j9, y1, S1, h0, h1, h2, h3, h9, h10, hkk, hd, lc]
        refine b_vg _ _ _ _ _ _ _ (by simp -implicitDefEqProofs (maxSteps := 1000000) (disch := omega) only [natOf_nat, iadm, ldm1, ldm2, stm0, stm1, stm2, wA, wA1, wS, wS1, wM, S2, op, ef, cl, sq, reduceIte, j2, j3, j4, j5, j6, j7, j8, j9, y1, S1, h0, h1, h2, h3, h9, h10, hkk, hd, lc]) ?_
        simp -implicitDefEqProofs (maxSteps := 1000000) (disch := omega) only [natOf_nat, iadm, ldm1, ldm2, stm0, stm1, stm2, wA, wA1, wS, wS1, wM, S2, op, ef, cl, sq, reduceIte, j2, j3, j4, j5, j6, j7, j8, j9, y1, S1, callvB, h0, h1, h2, h3, h9, h10, hkk, hd, lc, List.append_nil]
        refine callB_of _ _ _ _ _ _ _ _ (byName36 di[k]! di[k - 1]! _) ?_
        rintro u H3 ⟨hu, hx⟩
        cases hu
        have hx : Ext H2 H3 := hx
        have hd := hx.get hd
        have lc := glt hd
        have hfr := hfr.trans (ext_frm (F := fun _ => False) hx) (fun _ h => h.elim)
        have lt1 : ltM di[k]! di[k - 1]! = decide (cmpM di[k]! di[k - 1]! < 0) := rfl
        by_cases c1 : cmpM di[k]! di[k - 1]! < 0
        · simp -implicitDefEqProofs (maxSteps := 1000000) (disch := omega) only [natOf_nat, iadm, ldm1, ldm2, stm0, stm1, stm2, wA, wA1, wS, wS1, wM, S2, op, ef, cl, sq, reduceIte, j2, j3, j4, j5, j6, j7, j8, j9, y1, S1, h0, h1, h2, h3, h9, h10, hkk, c1]
          rw [scanSorted, if_neg (and_f2 (by rw [lt1, dect c1]; rfl))] at hk
          subst hk
          exact ⟨.i ⟨hd, hfr⟩, rfl, hik, hkb⟩
        · simp -implicitDefEqProofs (maxSteps := 1000000) (disch := omega) only [natOf_nat, iadm, ldm1, ldm2, stm0, stm1, stm2, wA, wA1, wS, wS1, wM, S2, op, ef, cl, sq, reduceIte, j2, j3, j4, j5, j6, j7, j8, j9, y1, S1, h0, h1, h2, h3, h9, h10, hkk, c1]
          rw [scanSorted, if_pos (and_t (dect hkk) (not_f (lt1.trans (decf c1))))] at hk
          exact ⟨k + 1, by omega, .i ⟨hd, hfr⟩, rfl, by omega, by omega, hk⟩
      · simp -implicitDefEqProofs only [op, ef, cl, sq, reduceIte, j2, j3, j4, j5, j6, j7, j8, j9, y1, S1, h0, h1, h2, h3, h9, h10, hkk]
        rw [scanSorted, if_neg (and_f1 (decf hkk))] at hk
        subst hk
        exact ⟨.i ⟨hd, hfr⟩, rfl, hik, hkb⟩
    · rintro R H2 ⟨⟨hd, hfr⟩, h0, h1, h2, h3, h9, h10, hisi, hsib⟩
      have lc := glt hd
      by_cases hb1 : si = b
      · rw [if_pos hb1] at hP
        have e1 : ((si : Int) == (b : Int)) = true := by rw [hb1]; simp
        simp -implicitDefEqProofs (maxSteps := 1000000) (disch := omega) only [natOf_nat, iadm, ldm1, ldm2, stm0, stm1, stm2, wA, wA1, wS, wS1, wM, S2, op, ef, cl, sq, reduceIte, j2, j3, j4, j5, j6, j7, j8, j9, y1, S1, h0, h1, h2, h3, h9, h10, e1]
        rw [← hP]
        exact ⟨rfl, di, hd, hsz, rfl, hfr⟩
      rw [if_neg hb1] at hP
      have e1 : ((si : Int) == (b : Int)) = false := by simp; omega
      by_cases h50 : b - a < 50
      · rw [if_pos h50] at hP
        simp -implicitDefEqProofs (maxSteps := 1000000) (disch := omega) only [natOf_nat, iadm, ldm1, ldm2, stm0, stm1, stm2, wA, wA1, wS, wS1, wM, S2, op, ef, cl, sq, reduceIte, j2, j3, j4, j5, j6, j7, j8, j9, y1, S1, h0, h1, h2, h3, h9, h10, e1, h50]
        rw [← hP]
        exact ⟨rfl, di, hd, hsz, rfl, hfr⟩
      rw [if_neg h50] at hP
      simp -implicitDefEqProofs (maxSteps := 1000000) (disch := omega) only [natOf_nat, iadm, ldm1, ldm2, stm0, stm1, stm2, wA, wA1, wS, wS1, wM, S2, op, ef, cl, sq, reduceIte, j2, j3, j4, j5, j6, j7, j8, j9, y1, S1, h0, h1, h2, h3, h9, h10, e1, h50, hd, lc]
      obtain ⟨d3, hd3⟩ : ∃ d3, d3 = if si - a ≥ 2 then shiftDown ltM (si - 1) (swp di si (si - 1)) else swp di si (si - 1) := ⟨_, rfl⟩
      obtain ⟨d4, hd4⟩ : ∃ d4, d4 = if b - si ≥ 2 then shiftUp ltM b (si + 1) d3 else d3 := ⟨_, rfl⟩
      have hP : partialIns ltM a b s si d4 = r := by rw [hd4, hd3]; exact hP
      obtain ⟨d2, hd2, hs2, e2, hf2⟩ := SC.swp (n := n) (P := fun x => x = swp di si (si - 1)) (x := .cells (msC eN (di.toList.set si di[si - 1]!))) hd (by rw [swp_size]; exact hsz) rfl hfr
      subst e2
      generalize ((H2.set c (.cells (msC eN (di.toList.set si di[si - 1]!)))).set c (.cells (msC eN (swp di si (si - 1)).toList))) = H5 at *
      by_cases hA : 2 ≤ si - a
      · rw [if_pos hA] at hd3
        simp -implicitDefEqProofs (maxSteps := 1000000) (disch := omega) only [natOf_nat, iadm, ldm1, ldm2, stm0, stm1, stm2, wA, wA1, wS, wS1, wM, S2, op, ef, cl, sq, reduceIte, j2, j3, j4, j5, j6, j7, j8, j9, y1, S1, h0, h1, h2, h3, h9, h10, hA]
        refine W.loopE 4 (fun (k : Nat) R H' => At H' (fun H' => SC c n H (fun dx => shiftDown ltM k dx = d3) H') ∧ R 0 = .msl c 0 n 2 ∧ R 1 = .int .i64 a ∧ R 2 = .int .i64 b ∧ R 3 = .fn 43 [] ∧ R 9 = .int .i64 si ∧ R 10 = .int .i64 j ∧ R 11 = .int .i64 k ∧ k < b) (fun k => k) (si - 1)
          (fun R H' => At H' (fun H' => SC c n H (fun dx => dx = d3) H') ∧ R 0 = .msl c 0 n 2 ∧ R 1 = .int .i64 a ∧ R 2 = .int .i64 b ∧ R 3 = .fn 43 [] ∧ R 9 = .int .i64 si ∧ R 10 = .int .i64 j) ⟨.i ⟨_, hd2, hs2, hd3.symm, hf2⟩, ?_, ?_, ?_, ?_, ?_, ?_, ?_, by omega⟩ ?_ ?_
        · simp -implicitDefEqProofs only [op, ef, cl, sq, reduceIte, j2, j3, j4, j5, j6, j7, j8, j9, y1, S1, h0]
        · simp -implicitDefEqProofs only [op, ef, cl, sq, reduceIte, j2, j3, j4, j5, j6, j7, j8, j9, y1, S1, h1]
        · simp -implicitDefEqProofs only [op, ef, cl, sq, reduceIte, j2, j3, j4, j5, j6, j7, j8, j9, y1, S1, h2]
        · simp -implicitDefEqProofs only [op, ef, cl, sq, reduceIte, j2, j3, j4, j5, j6, j7, j8, j9, y1, S1, h3]
        · simp -implicitDefEqProofs only [op, ef, cl, sq, reduceIte, j2, j3, j4, j5, j6, j7, j8, j9, y1, S1, h9]
        · simp -implicitDefEqProofs only [op, ef, cl, sq, reduceIte, j2, j3, j4, j5, j6, j7, j8, j9, y1, S1, h10]
        · simp -implicitDefEqProofs only [op, ef, cl, sq, reduceIte, j2, j3, j4, j5, j6, j7, j8, j9, y1, S1]
        · rintro k R H2 ⟨⟨dx, hd, hsz, hk, hfr⟩, h0, h1, h2, h3, h9, h10, h11, hkb⟩
          have lc := glt hd
          by_cases hk1 : 1 ≤ k
          · simp -implicitDefEqProofs (maxSteps := 1000000) (disch := omega) only [natOf_nat, iadm, ldm1, ldm2, stm0, stm1, stm2, wA, wA1, wS, wS1, wM, S2, op, ef, cl, sq, reduceIte, j2, j3, j4, j5, j6, j7, j8, j9, y1, S1, h0, h1, h2, h3, h9, h10, h11, hk1, hd, lc]
            refine b_vg _ _ _ _ _ _ _ (by simp -implicitDefEqProofs (maxSteps := 1000000) (disch := omega) only [natOf_nat, iadm, ldm1, ldm2, stm0, stm1, stm2, wA, wA1, wS, wS1, wM, S2, op, ef, cl, sq, reduceIte, j2, j3, j4, j5, j6, j7, j8, j9, y1, S1, h0, h1, h2, h3, h9, h10, h11, hk1, hd, lc]) ?_
            simp -implicitDefEqProofs (maxSteps := 1000000) (disch := omega) only [natOf_nat, iadm, ldm1, ldm2, stm0, stm1, stm2, wA, wA1, wS, wS1, wM, S2, op, ef, cl, sq, reduceIte, j2, j3, j4, j5, j6, j7, j8, j9, y1, S1, callvB, h0, h1, h2, h3, h9, h10, h11, hk1, hd, lc, List.append_nil]
            refine callB_of _ _ _ _ _ _ _ _ (byName36 dx[k]! dx[k - 1]! _) ?_
            rintro u H3 ⟨hu, hx⟩
            cases hu
            have hx : Ext H2 H3 := hx
            have hd := hx.get hd
            have lc := glt hd
            have hfr := hfr.trans (ext_frm (F := fun _ => False) hx) (fun _ h => h.elim)
            have lt1 : ltM dx[k]! dx[k - 1]! = decide (cmpM dx[k]! dx[k - 1]! < 0) := rfl
            rw [shiftDown_eq hk1] at hk
            by_cases c1 : cmpM dx[k]! dx[k - 1]! < 0
            · simp -implicitDefEqProofs (maxSteps := 1000000) (disch := omega) only [natOf_nat, iadm, ldm1, ldm2, stm0, stm1, stm2, wA, wA1, wS, wS1, wM, S2, op, ef, cl, sq, reduceIte, j2, j3, j4, j5, j6, j7, j8, j9, y1, S1, h0, h1, h2, h3, h9, h10, h11, hk1, hd, lc, c1]
              rw [if_neg (not_t (lt1.trans (dect c1)))] at hk
              exact ⟨k - 1, by omega, .i (.swp hd (by rw [swp_size]; exact hsz) hk hfr), rfl, by omega⟩
            · simp -implicitDefEqProofs (maxSteps := 1000000) (disch := omega) only [natOf_nat, iadm, ldm1, ldm2, stm0, stm1, stm2, wA, wA1, wS, wS1, wM, S2, op, ef, cl, sq, reduceIte, j2, j3, j4, j5, j6, j7, j8, j9, y1, S1, h0, h1, h2, h3, h9, h10, h11, hk1, hd, lc, c1]
              rw [if_pos (not_f (lt1.trans (decf c1)))] at hk
              exact .i ⟨dx, hd, hsz, hk, hfr⟩
          · have hk0 : k = 0 := by omega
            subst hk0
            simp -implicitDefEqProofs only [op, ef, cl, sq, reduceIte, j2, j3, j4, j5, j6, j7, j8, j9, y1, S1, h0, h1, h2, h3, h9, h10, h11, hk1]
            rw [shiftDown] at hk
            exact .i ⟨dx, hd, hsz, hk, hfr⟩
        · rintro R H2 ⟨⟨dx, hd, hsz3, rfl, hfr⟩, h0, h1, h2, h3, h9, h10⟩
          have lc := glt hd
          by_cases hB : 2 ≤ b - si
          · simp -implicitDefEqProofs (maxSteps := 1000000) (disch := omega) only [natOf_nat, iadm, ldm1, ldm2, stm0, stm1, stm2, wA, wA1, wS, wS1, wM, S2, op, ef, cl, sq, reduceIte, j2, j3, j4, j5, j6, j7, j8, j9, y1, S1, h0, h1, h2, h3, h9, h10, hB]
            rw [if_pos hB] at hd4
            refine W.loopE 6 (fun (k : Nat) R H' => At H' (fun H' => SC c n H (fun dx => shiftUp ltM b k dx = d4) H') ∧ R 0 = .msl c 0 n 2 ∧ R 1 = .int .i64 a ∧ R 2 = .int .i64 b ∧ R 3 = .fn 43 [] ∧ R 9 = .int .i64 si ∧ R 10 = .int .i64 j ∧ R 12 = .int .i64 k ∧ 1 ≤ k ∧ k ≤ b) (fun k => b - k) (si + 1)
              (fun R H' => At H' (fun H' => SC c n H (fun dx => dx = d4) H') ∧ R 0 = .msl c 0 n 2 ∧ R 1 = .int .i64 a ∧ R 2 = .int .i64 b ∧ R 3 = .fn 43 [] ∧ R 9 = .int .i64 si ∧ R 10 = .int .i64 j) ⟨.i ⟨dx, hd, hsz3, hd4.symm, hfr⟩, ?_, ?_, ?_, ?_, ?_, ?_, ?_, by omega, by omega⟩ ?_ ?_
            · simp -implicitDefEqProofs only [op, ef, cl, sq, reduceIte, j2, j3, j4, j5, j6, j7, j8, j9, y1, S1, h0]
            · simp -implicitDefEqProofs only [op, ef, cl, sq, reduceIte, j2, j3, j4, j5, j6, j7, j8, j9, y1, S1, h1]
            · simp -implicitDefEqProofs only [op, ef, cl, sq, reduceIte, j2, j3, j4, j5, j6, j7, j8, j9, y1, S1, h2]
            · simp -implicitDefEqProofs only [op, ef, cl, sq, reduceIte, j2, j3, j4, j5, j6, j7, j8, j9, y1, S1, h3]
            · simp -implicitDefEqProofs only [op, ef, cl, sq, reduceIte, j2, j3, j4, j5, j6, j7, j8, j9, y1, S1, h9]
            · simp -implicitDefEqProofs only [op, ef, cl, sq, reduceIte, j2, j3, j4, j5, j6, j7, j8, j9, y1, S1, h10]
            · simp -implicitDefEqProofs only [op, ef, cl, sq, reduceIte, j2, j3, j4, j5, j6, j7, j8, j9, y1, S1]
            · rintro k R H2 ⟨⟨dx, hd, hsz, hk, hfr⟩, h0, h1, h2, h3, h9, h10, h12, hk1, hkb⟩
              have lc := glt hd
              by_cases hkk : k < b
              · simp -implicitDefEqProofs (maxSteps := 1000000) (disch := omega) only [natOf_nat, iadm, ldm1, ldm2, stm0, stm1, stm2, wA, wA1, wS, wS1, wM, S2, op, ef, cl, sq, reduceIte, j2, j3, j4, j5, j6, j7, j8, j9, y1, S1, h0, h1, h2, h3, h9, h10, h12, hkk, hd, lc]
                refine b_vg _ _ _ _ _ _ _ (by simp -implicitDefEqProofs (maxSteps := 1000000) (disch := omega) only [natOf_nat, iadm, ldm1, ldm2, stm0, stm1, stm2, wA, wA1, wS, wS1, wM, S2, op, ef, cl, sq, reduceIte, j2, j3, j4, j5, j6, j7, j8, j9, y1, S1, h0, h1, h2, h3, h9, h10, h12, hkk, hd, lc]) ?_
                simp -implicitDefEqProofs (maxSteps := 1000000) (disch := omega) only [natOf_nat, iadm, ldm1, ldm2, stm0, stm1, stm2, wA, wA1, wS, wS1, wM, S2, op, ef, cl, sq, reduceIte, j2, j3, j4, j5, j6, j7, j8, j9, y1, S1, callvB, h0, h1, h2, h3, h9, h10, h12, hkk, hd, lc, List.append_nil]
                refine callB_of _ _ _ _ _ _ _ _ (byName36 dx[k]! dx[k - 1]! _) ?_
                rintro u H3 ⟨hu, hx⟩
                cases hu
                have hx : Ext H2 H3 := hx
                have hd := hx.get hd
                have lc := glt hd
                have hfr := hfr.trans (ext_frm (F := fun _ => False) hx) (fun _ h => h.elim)
                have lt1 : ltM dx[k]! dx[k - 1]! = decide (cmpM dx[k]! dx[k - 1]! < 0) := rfl
                rw [shiftUp, if_pos hkk] at hk
                by_cases c1 : cmpM dx[k]! dx[k - 1]! < 0
                · simp -implicitDefEqProofs (maxSteps := 1000000) (disch := omega) only [natOf_nat, iadm, ldm1, ldm2, stm0, stm1, stm2, wA, wA1, wS, wS1, wM, S2, op, ef, cl, sq, reduceIte, j2, j3, j4, j5, j6, j7, j8, j9, y1, S1, h0, h1, h2, h3, h9, h10, h12, hkk, hd, lc, c1]
                  rw [if_neg (not_t (lt1.trans (dect c1)))] at hk
                  exact ⟨k + 1, by omega, .i (.swp hd (by rw [swp_size]; exact hsz) hk hfr), rfl, by omega, by omega⟩
                · simp -implicitDefEqProofs (maxSteps := 1000000) (disch := omega) only [natOf_nat, iadm, ldm1, ldm2, stm0, stm1, stm2, wA, wA1, wS, wS1, wM, S2, op, ef, cl, sq, reduceIte, j2, j3, j4, j5, j6, j7, j8, j9, y1, S1, h0, h1, h2, h3, h9, h10, h12, hkk, hd, lc, c1]
                  rw [if_pos (not_f (lt1.trans (decf c1)))] at hk
                  exact .i ⟨dx, hd, hsz, hk, hfr⟩
              · simp -implicitDefEqProofs only [op, ef, cl, sq, reduceIte, j2, j3, j4, j5, j6, j7, j8, j9, y1, S1, h0, h1, h2, h3, h9, h10, h12, hkk]
                rw [shiftUp, if_neg hkk] at hk
                exact .i ⟨dx, hd, hsz, hk, hfr⟩
            · rintro R H2 ⟨⟨dx, hd, hsz, rfl, hfr⟩, h0, h1, h2, h3, h9, h10⟩
              simp -implicitDefEqProofs (maxSteps := 1000000) (disch := omega) only [natOf_nat, iadm, ldm1, ldm2, stm0, stm1, stm2, wA, wA1, wS, wS1, wM, S2, op, ef, cl, sq, reduceIte, j2, j3, j4, j5, j6, j7, j8, j9, y1, S1, h0, h1, h2, h3, h9, h10]
              exact ⟨j + 1, by omega, .i ⟨si, rfl, by omega, by omega, dx, hd, hsz, by rw [hs5']; exact hP, hfr⟩, rfl, by omega⟩
          · rw [if_neg hB] at hd4
            subst hd4
            simp -implicitDefEqProofs (maxSteps := 1000000) (disch := omega) only [natOf_nat, iadm, ldm1, ldm2, stm0, stm1, stm2, wA, wA1, wS, wS1, wM, S2, op, ef, cl, sq, reduceIte, j2, j3, j4, j5, j6, j7, j8, j9, y1, S1, h0, h1, h2, h3, h9, h10, hB]
            exact ⟨j + 1, by omega, .i ⟨si, rfl, by omega, by omega, d4, hd, hsz3, by rw [hs5']; exact hP, hfr⟩, rfl, by omega⟩
      · rw [if_neg hA] at hd3
        simp -implicitDefEqProofs (maxSteps := 1000000) (disch := omega) only [natOf_nat, iadm, ldm1, ldm2, stm0, stm1, stm2, wA, wA1, wS, wS1, wM, S2, op, ef, cl, sq, reduceIte, j2, j3, j4, j5, j6, j7, j8, j9, y1, S1, h0, h1, h2, h3, h9, h10, hA]
        have hd := hd2
        have hsz3 := hs2
        have hfr := hf2
        rw [← hd3] at hd hsz3
        by_cases hB : 2 ≤ b - si
        · simp -implicitDefEqProofs (maxSteps := 1000000) (disch := omega) only [natOf_nat, iadm, ldm1, ldm2, stm0, stm1, stm2, wA, wA1, wS, wS1, wM, S2, op, ef, cl, sq, reduceIte, j2, j3, j4, j5, j6, j7, j8, j9, y1, S1, h0, h1, h2, h3, h9, h10, hB]
          rw [if_pos hB] at hd4
          refine W.loopE 6 (fun (k : Nat) R H' => At H' (fun H' => SC c n H (fun dx => shiftUp ltM b k dx = d4) H') ∧ R 0 = .msl c 0 n 2 ∧ R 1 = .int .i64 a ∧ R 2 = .int .i64 b ∧ R 3 = .fn 43 [] ∧ R 9 = .int .i64 si ∧ R 10 = .int .i64 j ∧ R 12 = .int .i64 k ∧ 1 ≤ k ∧ k ≤ b) (fun k => b - k) (si + 1)
            (fun R H' => At H' (fun H' => SC c n H (fun dx => dx = d4) H') ∧ R 0 = .msl c 0 n 2 ∧ R 1 = .int .i64 a ∧ R 2 = .int .i64 b ∧ R 3 = .fn 43 [] ∧ R 9 = .int .i64 si ∧ R 10 = .int .i64 j) ⟨.i ⟨d3, hd, hsz3, hd4.symm, hfr⟩, ?_, ?_, ?_, ?_, ?_, ?_, ?_, by omega, by omega⟩ ?_ ?_
          · simp -implicitDefEqProofs only [op, ef, cl, sq, reduceIte, j2, j3, j4, j5, j6, j7, j8, j9, y1, S1, h0]
          · simp -implicitDefEqProofs only [op, ef, cl, sq, reduceIte, j2, j3, j4, j5, j6, j7, j8, j9, y1, S1, h1]
          · simp -implicitDefEqProofs only [op, ef, cl, sq, reduceIte, j2, j3, j4, j5, j6, j7, j8, j9, y1, S1, h2]
          · simp -implicitDefEqProofs only [op, ef, cl, sq, reduceIte, j2, j3, j4, j5, j6, j7, j8, j9, y1, S1, h3]
          · simp -implicitDefEqProofs only [op, ef, cl, sq, reduceIte, j2, j3, j4, j5, j6, j7, j8, j9, y1, S1, h9]
          · simp -implicitDefEqProofs only [op, ef, cl, sq, reduceIte, j2, j3, j4, j5, j6, j7, j8, j9, y1, S1, h10]
          · simp -implicitDefEqProofs only [op, ef, cl, sq, reduceIte, j2, j3, j4, j5, j6, j7, j8, j9, y1, S1]
          · rintro k R H2 ⟨⟨dx, hd, hsz, hk, hfr⟩, h0, h1, h2, h3, h9, h10, h12, hk1, hkb⟩
            have lc := glt hd
            by_cases hkk : k < b
            · simp -implicitDefEqProofs (maxSteps := 1000000) (disch := omega) only [natOf_nat, iadm, ldm1, ldm2, stm0, stm1, stm2, wA, wA1, wS, wS1, wM, S2, op, ef, cl, sq, reduceIte, j2, j3, j4, j5, j6, j7, j8, j9, y1, S1, h0, h1, h2, h3, h9, h10, h12, hkk, hd, lc]
              refine b_vg _ _ _ _ _ _ _ (by simp -implicitDefEqProofs (maxSteps := 1000000) (disch := omega) only [natOf_nat, iadm, ldm1, ldm2, stm0, stm1, stm2, wA, wA1, wS, wS1, wM, S2, op, ef, cl, sq, reduceIte, j2, j3, j4, j5, j6, j7, j8, j9, y1, S1, h0, h1, h2, h3, h9, h10, h12, hkk, hd, lc]) ?_
              simp -implicitDefEqProofs (maxSteps := 1000000) (disch := omega) only [natOf_nat, iadm, ldm1, ldm2, stm0, stm1, stm2, wA, wA1, wS, wS1, wM, S2, op, ef, cl, sq, reduceIte, j2, j3, j4, j5, j6, j7, j8, j9, y1, S1, callvB, h0, h1, h2, h3, h9, h10, h12, hkk, hd, lc, List.append_nil]
              refine callB_of _ _ _ _ _ _ _ _ (byName36 dx[k]! dx[k - 1]! _) ?_
              rintro u H3 ⟨hu, hx⟩
              cases hu
              have hx : Ext H2 H3 := hx
              have hd := hx.get hd
              have lc := glt hd
              have hfr := hfr.trans (ext_frm (F := fun _ => False) hx) (fun _ h => h.elim)
              have lt1 : ltM dx[k]! dx[k - 1]! = decide (cmpM dx[k]! dx[k - 1]! < 0) := rfl
              rw [shiftUp, if_pos hkk] at hk
              by_cases c1 : cmpM dx[k]! dx[k - 1]! < 0
              · simp -implicitDefEqProofs (maxSteps := 1000000) (disch := omega) only [natOf_nat, iadm, ldm1, ldm2, stm0, stm1, stm2, wA, wA1, wS, wS1, wM, S2, op, ef, cl, sq, reduceIte, j2, j3, j4, j5, j6, j7, j8, j9, y1, S1, h0, h1, h2, h3, h9, h10, h12, hkk, hd, lc, c1]
                rw [if_neg (not_t (lt1.trans (dect c1)))] at hk
                exact ⟨k + 1, by omega, .i (.swp hd (by rw [swp_size]; exact hsz) hk hfr), rfl, by omega, by omega⟩
              · simp -implicitDefEqProofs (maxSteps := 1000000) (disch := omega) only [natOf_nat, iadm, ldm1, ldm2, stm0, stm1, stm2, wA, wA1, wS, wS1, wM, S2, op, ef, cl, sq, reduceIte, j2, j3, j4, j5, j6, j7, j8, j9, y1, S1, h0, h1, h2, h3, h9, h10, h12, hkk, hd, lc, c1]
                rw [if_pos (not_f (lt1.trans (decf c1)))] at hk
                exact .i ⟨dx, hd, hsz, hk, hfr⟩
            · simp -implicitDefEqProofs only [op, ef, cl, sq, reduceIte, j2, j3, j4, j5, j6, j7, j8, j9, y1, S1, h0, h1, h2, h3, h9, h10, h12, hkk]
              rw [shiftUp, if_neg hkk] at hk
              exact .i ⟨dx, hd, hsz, hk, hfr⟩
          · rintro R H2 ⟨⟨dx, hd, hsz, rfl, hfr⟩, h0, h1, h2, h3, h9, h10⟩
            simp -implicitDefEqProofs (maxSteps := 1000000) (disch := omega) only [natOf_nat, iadm, ldm1, ldm2, stm0, stm1, stm2, wA, wA1, wS, wS1, wM, S2, op, ef, cl, sq, reduceIte, j2, j3, j4, j5, j6, j7, j8, j9, y1, S1, h0, h1, h2, h3, h9, h10]
            exact ⟨j + 1, by omega, .i ⟨si, rfl, by omega, by omega, dx, hd, hsz, by rw [hs5']; exact hP, hfr⟩, rfl, by omega⟩
        · rw [if_neg hB] at hd4
          subst hd4
          simp -implicitDefEqProofs (maxSteps := 1000000) (disch := omega) only [natOf_nat, iadm, ldm1, ldm2, stm0, stm1, stm2, wA, wA1, wS, wS1, wM, S2, op, ef, cl, sq, reduceIte, j2, j3, j4, j5, j6, j7, j8, j9, y1, S1, h0, h1, h2, h3, h9, h10, hB]
          exact ⟨j + 1, by omega, .i ⟨si, rfl, by omega, by omega, d4, hd, hsz3, by rw [hs5']; exact hP, hfr⟩, rfl, by omega⟩
  · rintro R H1 ⟨di, hd, hsz, hP, hfr⟩
    simp -implicitDefEqProofs only [op, ef, cl, sq, reduceIte, j2, j3, j4, j5, j6, j7, j8, j9, y1, S1]
    rw [← hP]
    exact ⟨rfl, di, hd, hsz, rfl, hfr⟩
end Go.Proofs.YtodegnhallgnkaaGreat.St
end

section
namespace Go.Proofs.YtodegnhallgnkaaGreat.St
open Go.Rmp Go.Proofs.YtodegnhallgnkaaGreat.Ir
set_option maxRecDepth 10000
theorem ltM_iff (a b : Nm) : ltM a b = true ↔ strLt a.1 b.1 = true ∨ (a.1 = b.1 ∧ a.2 < b.2) := by
  unfold ltM cmpM or2 cmpS cmpN
  rw [decide_eq_true_eq]
  cases h1 : strLt a.1 b.1
  · cases h2 : strLt b.1 a.1
    · have e := lt_tri h1 h2
      simp -implicitDefEqProofs only [Bool.false_eq_true, if_false, if_true, false_or, e, true_and]
      split
      · simp [*]
      · split <;> simp [*]
    · have hne : a.1 ≠ b.1 := by intro e; rw [e, lt_irr] at h2; cases h2
      simp [hne]
  · simp
theorem ltM_irr (a : Nm) : ltM a a = false := by
  cases h : ltM a a with
  | false => rfl
  | true => rcases (ltM_iff a a).1 h with h | h; rw [lt_irr] at h; cases h; omega
theorem ltM_trans {a b c : Nm} (h1 : ltM a b = true) (h2 : ltM b c = true) : ltM a c = true := by
  rw [ltM_iff] at h1 h2 ⊢
  rcases h1 with h1 | ⟨e1, h1⟩ <;> rcases h2 with h2 | ⟨e2, h2⟩
  · exact .inl (lt_trans' h1 h2)
  · exact .inl (e2 ▸ h1)
  · exact .inl (e1 ▸ h2)
  · exact .inr ⟨e1.trans e2, by omega⟩
theorem ltM_tri {a b : Nm} (h1 : ltM a b = false) (h2 : ltM b a = false) : a = b := by
  have n1 : ¬ (strLt a.1 b.1 = true ∨ (a.1 = b.1 ∧ a.2 < b.2)) := fun h => by rw [(ltM_iff a b).2 h] at h1; cases h1
  have n2 : ¬ (strLt b.1 a.1 = true ∨ (b.1 = a.1 ∧ b.2 < a.2)) := fun h => by rw [(ltM_iff b a).2 h] at h2; cases h2
  have e1 : a.1 = b.1 := lt_tri (by cases h : strLt a.1 b.1 with | false => rfl | true => exact absurd (.inl h) n1) (by cases h : strLt b.1 a.1 with | false => rfl | true => exact absurd (.inl h) n2)
  have q1 : ¬ a.2 < b.2 := fun h => n1 (.inr ⟨e1, h⟩)
  have q2 : ¬ b.2 < a.2 := fun h => n2 (.inr ⟨e1.symm, h⟩)
  exact Prod.ext e1 (by omega)
theorem ltM_swo : Go.Sort.SWO ltM where
  irrefl := ltM_irr
  trans _ _ _ h1 h2 := ltM_trans h1 h2
  ntrans x y z h1 h2 := by
    cases h : ltM x z with
    | false => rfl
    | true =>
      cases h3 : ltM y x with
      | true => rw [ltM_trans h3 h] at h2; cases h2
      | false => have := ltM_tri h1 h3; subst this; rw [h] at h2; cases h2
theorem ins75e (H : Heap) : W env (.call 90 [.sl .nil [], .int .i64 0, .int .i64 0, .fn 43 []]) H (Ret (.tup []) H) := by
  refine W.fnI rfl rfl rfl ?_
  have wa : IntKind.i64.wrap ((0 : Int) + 1) = 1 := by decide
  simp -implicitDefEqProofs only [ir90, op, ef, cl, sq, reduceIte, j2, j3, j4, j5, j6, j7, j8, j9, y1, S1, wa]
  refine W.loopI (fun (_ : Nat) R H' => H' = H ∧ R 2 = .int .i64 0 ∧ R 8 = .int .i64 1) (fun _ => 0) 0 ⟨rfl, rfl, rfl⟩ ?_
  rintro _ R _ ⟨rfl, h2, h8⟩
  have l0 : ¬ ((1 : Int) < 0) := by decide
  simp -implicitDefEqProofs only [op, ef, cl, sq, reduceIte, j2, j3, j4, j5, j6, j7, j8, j9, y1, S1, h2, h8, l0]
  trivial
theorem pdqE (m : Nat) (H : Heap) : W env (.call 77 [.sl .nil [], .int .i64 0, .int .i64 0, .int .i64 m, .fn 43 []]) H (Ret (.tup []) H) := by
  refine W.fnI rfl rfl rfl ?_
  have w1 : IntKind.i64.wrap ((0 : Int) - 0) = 0 := by decide
  simp -implicitDefEqProofs only [ir77, op, ef, cl, sq, reduceIte, j2, j3, j4, j5, j6, j7, j8, j9, y1, S1]
  refine W.loopI (fun (_ : Nat) R H' => H' = H ∧ R 0 = .sl .nil [] ∧ R 1 = .int .i64 0 ∧ R 2 = .int .i64 0 ∧ R 4 = .fn 43 []) (fun _ => 0) 0 ⟨rfl, rfl, rfl, rfl, rfl⟩ ?_
  rintro _ R _ ⟨rfl, h0, h1, h2, h4⟩
  have l0 : (0 : Int) ≤ 12 := by decide
  simp -implicitDefEqProofs only [op, ef, cl, sq, reduceIte, j2, j3, j4, j5, j6, j7, j8, j9, y1, S1, h0, h1, h2, h4, w1, l0]
  refine callB_of _ _ _ _ _ _ _ _ (ins75e _) ?_
  rintro u H2 ⟨hu, rfl⟩
  cases hu
  simp -implicitDefEqProofs only [op, ef, cl, sq, reduceIte, j2, j3, j4, j5, j6, j7, j8, j9, y1, S1]
  trivial
theorem sortE (H : Heap) : W env (.call 59 [.sl .nil [], .fn 43 []]) H (Ret (.tup []) H) := by
  refine W.fnI rfl rfl rfl ?_
  have w1 : IntKind.u64.wrap ((0 : Nat) : Int) = ((0 : Nat) : Int) := by decide
  have e0 : ((0 : Nat) : Int) = 0 := rfl
  simp -implicitDefEqProofs only [ir59, op, ef, cl, sq, reduceIte, j2, j3, j4, j5, j6, j7, j8, j9, y1, S1, w1]
  refine callB_of _ _ _ _ _ _ _ _ (lenN 0 (by omega) _) ?_
  rintro u H1 ⟨rfl, m, hu⟩
  cases hu
  simp -implicitDefEqProofs only [op, ef, cl, sq, reduceIte, j2, j3, j4, j5, j6, j7, j8, j9, y1, S1, e0]
  refine callB_of _ _ _ _ _ _ _ _ (pdqE m _) ?_
  rintro u H2 ⟨hu, rfl⟩
  cases hu
  simp -implicitDefEqProofs only [op, ef, cl, sq, reduceIte, j2, j3, j4, j5, j6, j7, j8, j9, y1, S1]
  trivial
def SortQ (es : List (Nm × T)) (H : Heap) : Out → Heap → Prop := fun o H' => Ext H H' ∧ ∃ t l, o = .val t ∧ Mut eN 2 H.length H' t l ∧ l.Perm (es.map (·.1)) ∧ l.Pairwise (fun a b => ltM a b = true)
end Go.Proofs.YtodegnhallgnkaaGreat.St
end

section
namespace Go.Proofs.YtodegnhallgnkaaGreat.St
open Go.Rmp Go.Proofs.YtodegnhallgnkaaGreat.Ir
set_option maxRecDepth 10000
set_option maxHeartbeats 8000000
def bkOf : C → Nat → Option C
  | .block id a, n => if id = n then some a else bkOf a n
  | .seq a b, n => match bkOf a n with | some c => some c | .none => bkOf b n
  | .cond _ a b, n => match bkOf a n with | some c => some c | .none => bkOf b n
  | .loop a, n => bkOf a n
  | _, _ => .none
def seqN : C → Nat → C
  | .seq a _, 0 => a
  | .seq _ b, k + 1 => seqN b k
  | c, _ => c
structure PR (R : Regs) (c n a b lim : Nat) (wb wp : Bool) : Prop where
  r0 : R 0 = .msl c 0 n 2
  r1 : R 1 = .int .i64 a
  r2 : R 2 = .int .i64 b
  r3 : R 3 = .int .i64 lim
  r4 : R 4 = .fn 43 []
  r10 : R 10 = .bool wb
  r11 : R 11 = .bool wp
  r12 : R 12 = .int .i64 (b - a : Nat)
open Go.Sort in
theorem seg3 (A : C) (hA : (bkOf ir77.body 1).map (seqN · 3) = some A) (c n a b lim : Nat) (wb wp : Bool) (d : Array Nm) (R : Regs) (H0 H : Heap) (K : Out → Heap → Prop) (hp : PR R c n a b lim wb wp) (hd : SC c n H0 (fun x => x = d) H) (hb : b ≤ n) (hab : a + 12 < b) (hs : n < 16777216) (hl : 1 ≤ lim ∧ lim < 1000)
    (rest : ∀ R' H', PR R' c n a b (if (!wb) = true then lim - 1 else lim) wb wp → SC c n H0 (fun x => x = if (!wb) = true then breakPatterns d a b else d) H' → K (.ex .normal R') H') : wpC env A R H K := by
  simp [ir77, bkOf, seqN, sq] at hA
  subst hA
  obtain ⟨h0, h1, h2, h3, h4, h10, h11, h12⟩ := hp
  obtain ⟨di, hc, hn, rfl, hfr⟩ := hd
  cases wb with
  | true =>
    simp -implicitDefEqProofs (maxSteps := 1000000) (disch := omega) only [op, ef, cl, sq, reduceIte, j2, j3, j4, j5, j6, j7, j8, j9, y1, S1, h0, h1, h2, h3, h4, h10, h11, h12]
    exact rest _ _ ⟨by simp -implicitDefEqProofs only [op, ef, cl, sq, reduceIte, j2, j3, j4, j5, j6, j7, j8, j9, y1, S1, h0], by simp -implicitDefEqProofs only [op, ef, cl, sq, reduceIte, j2, j3, j4, j5, j6, j7, j8, j9, y1, S1, h1], by simp -implicitDefEqProofs only [op, ef, cl, sq, reduceIte, j2, j3, j4, j5, j6, j7, j8, j9, y1, S1, h2], by simp -implicitDefEqProofs only [op, ef, cl, sq, reduceIte, j2, j3, j4, j5, j6, j7, j8, j9, y1, S1, h3], by simp -implicitDefEqProofs only [op, ef, cl, sq, reduceIte, j2, j3, j4, j5, j6, j7, j8, j9, y1, S1, h4], by simp -implicitDefEqProofs only [op, ef, cl, sq, reduceIte, j2, j3, j4, j5, j6, j7, j8, j9, y1, S1, h10], by simp -implicitDefEqProofs only [op, ef, cl, sq, reduceIte, j2, j3, j4, j5, j6, j7, j8, j9, y1, S1, h11], by simp -implicitDefEqProofs only [op, ef, cl, sq, reduceIte, j2, j3, j4, j5, j6, j7, j8, j9, y1, S1, h12]⟩ ⟨di, hc, hn, rfl, hfr⟩
  | false =>
    simp -implicitDefEqProofs (maxSteps := 1000000) (disch := omega) only [op, ef, cl, sq, reduceIte, j2, j3, j4, j5, j6, j7, j8, j9, y1, S1, h0, h1, h2, h3, h4, h10, h11, h12]
    refine callB_of _ _ _ _ _ _ _ _ (break77 c n di a b _ hn hc hb hab hs) ?_
    rintro u H2 ⟨hu, d2, hd2, hs2, e2, hf2⟩
    cases hu
    simp -implicitDefEqProofs (maxSteps := 1000000) (disch := omega) only [natOf_nat, iadm, ldm1, ldm2, stm0, stm1, stm2, wA, wA1, wS, wS1, wM, S2, op, ef, cl, sq, reduceIte, j2, j3, j4, j5, j6, j7, j8, j9, y1, S1, h0, h1, h2, h3, h4, h10, h11, h12]
    exact rest _ _ ⟨by simp -implicitDefEqProofs only [op, ef, cl, sq, reduceIte, j2, j3, j4, j5, j6, j7, j8, j9, y1, S1, h0], by simp -implicitDefEqProofs only [op, ef, cl, sq, reduceIte, j2, j3, j4, j5, j6, j7, j8, j9, y1, S1, h1], by simp -implicitDefEqProofs only [op, ef, cl, sq, reduceIte, j2, j3, j4, j5, j6, j7, j8, j9, y1, S1, h2], by simp -implicitDefEqProofs only [op, ef, cl, sq, reduceIte, j2, j3, j4, j5, j6, j7, j8, j9, y1, S1], by simp -implicitDefEqProofs only [op, ef, cl, sq, reduceIte, j2, j3, j4, j5, j6, j7, j8, j9, y1, S1, h4], by simp -implicitDefEqProofs only [op, ef, cl, sq, reduceIte, j2, j3, j4, j5, j6, j7, j8, j9, y1, S1, h10], by simp -implicitDefEqProofs only [op, ef, cl, sq, reduceIte, j2, j3, j4, j5, j6, j7, j8, j9, y1, S1, h11], by simp -implicitDefEqProofs only [op, ef, cl, sq, reduceIte, j2, j3, j4, j5, j6, j7, j8, j9, y1, S1, h12]⟩ ⟨d2, hd2, hs2, e2, hfr.trans hf2 fun _ h => .inl h⟩
open Go.Sort in
theorem seg5 (A : C) (hA : (bkOf ir77.body 1).map (seqN · 5) = some A) (c n a b lim : Nat) (wb wp : Bool) (d : Array Nm) (pv : Nat) (hi : Hint) (R : Regs) (H0 H : Heap) (K : Out → Heap → Prop) (hp : PR R c n a b lim wb wp) (h13 : R 13 = .int .i64 pv) (h14 : R 14 = .int .i64 (hintN hi)) (hd : SC c n H0 (fun x => x = d) H) (hb : b ≤ n) (hab : a + 12 < b) (hs : n < 16777216) (hpv : a ≤ pv ∧ pv < b)
    (rest : ∀ R' H', PR R' c n a b lim wb wp → R' 13 = .int .i64 (if hi = .decreasing then (b - 1) - (pv - a) else pv : Nat) → R' 14 = .int .i64 (hintN (if hi = .decreasing then Hint.increasing else hi)) → SC c n H0 (fun x => x = if hi = .decreasing then reverseRange d a b else d) H' → K (.ex .normal R') H') : wpC env A R H K := by
  simp [ir77, bkOf, seqN, sq] at hA
  subst hA
  obtain ⟨h0, h1, h2, h3, h4, h10, h11, h12⟩ := hp
  obtain ⟨di, hc, hn, rfl, hfr⟩ := hd
  have e : ((hintN hi) == 2) = decide (hi = .decreasing) := by cases hi <;> decide
  by_cases hh : hi = .decreasing
  · rw [decide_eq_true hh] at e
    simp -implicitDefEqProofs (maxSteps := 1000000) (disch := omega) only [op, ef, cl, sq, reduceIte, j2, j3, j4, j5, j6, j7, j8, j9, y1, S1, h0, h1, h2, h3, h4, h10, h11, h12, h13, h14, e]
    refine callB_of _ _ _ _ _ _ _ _ (rev79 c n di a b _ hn hc hb (by omega) (by omega)) ?_
    rintro u H2 ⟨hu, d2, hd2, hs2, e2, hf2⟩
    cases hu
    simp -implicitDefEqProofs (maxSteps := 1000000) (disch := omega) only [natOf_nat, iadm, ldm1, ldm2, stm0, stm1, stm2, wA, wA1, wS, wS1, wM, S2, op, ef, cl, sq, reduceIte, j2, j3, j4, j5, j6, j7, j8, j9, y1, S1, h0, h1, h2, h3, h4, h10, h11, h12, h13, h14]
    refine rest _ _ ⟨?_, ?_, ?_, ?_, ?_, ?_, ?_, ?_⟩ ?_ ?_ ⟨d2, hd2, hs2, ?_, hfr.trans hf2 fun _ h => .inl h⟩
    all_goals simp -implicitDefEqProofs only [op, ef, cl, sq, reduceIte, j2, j3, j4, j5, j6, j7, j8, j9, y1, S1, h0, h1, h2, h3, h4, h10, h11, h12, if_pos hh, hintN]
    exact e2
  · rw [decide_eq_false hh] at e
    simp -implicitDefEqProofs (maxSteps := 1000000) (disch := omega) only [op, ef, cl, sq, reduceIte, j2, j3, j4, j5, j6, j7, j8, j9, y1, S1, h0, h1, h2, h3, h4, h10, h11, h12, h13, h14, e]
    refine rest _ _ ⟨?_, ?_, ?_, ?_, ?_, ?_, ?_, ?_⟩ ?_ ?_ ⟨di, hc, hn, ?_, hfr⟩
    all_goals simp -implicitDefEqProofs only [op, ef, cl, sq, reduceIte, j2, j3, j4, j5, j6, j7, j8, j9, y1, S1, h0, h1, h2, h3, h4, h10, h11, h12, h13, h14, if_neg hh]
open Go.Sort in
theorem seg6 (A : C) (hA : (bkOf ir77.body 1).map (seqN · 6) = some A) (c n a b lim : Nat) (wb wp : Bool) (d : Array Nm) (pv : Nat) (hi : Hint) (R : Regs) (H0 H : Heap) (K : Out → Heap → Prop) (hp : PR R c n a b lim wb wp) (h13 : R 13 = .int .i64 pv) (h14 : R 14 = .int .i64 (hintN hi)) (hd : SC c n H0 (fun x => x = d) H) (hb : b ≤ n) (hab : a + 12 < b) (hs : n < 16777216)
    (pi : Array Nm × Bool) (hpi : pi = if (wb && wp && hi = .increasing) = true then partialInsertionSort ltM d a b else (d, false))
    (rest1 : ∀ R' H', pi.2 = true → SC c n H0 (fun x => x = pi.1) H' → K (.ex .ret R') H')
    (rest2 : ∀ R' H', pi.2 = false → PR R' c n a b lim wb wp → R' 13 = .int .i64 pv → SC c n H0 (fun x => x = pi.1) H' → K (.ex .normal R') H') : wpC env A R H K := by
  simp [ir77, bkOf, seqN, sq] at hA
  subst hA
  obtain ⟨h0, h1, h2, h3, h4, h10, h11, h12⟩ := hp
  obtain ⟨di, hc, hn, rfl, hfr⟩ := hd
  have e : ((hintN hi) == 1) = decide (hi = .increasing) := by cases hi <;> decide
  have no : (wb && wp && decide (hi = .increasing)) = false → ∀ R', PR R' c n a b lim wb wp → R' 13 = .int .i64 pv → K (.ex .normal R') H := fun h R' q q' => rest2 R' H (by rw [hpi, h]; rfl) q q' ⟨di, hc, hn, by rw [hpi, h]; rfl, hfr⟩
  cases wb with
  | false =>
    simp -implicitDefEqProofs only [op, ef, cl, sq, reduceIte, j2, j3, j4, j5, j6, j7, j8, j9, y1, S1, h0, h1, h2, h3, h4, h10, h11, h12, h13, h14]
    refine no rfl _ ⟨?_, ?_, ?_, ?_, ?_, ?_, ?_, ?_⟩ ?_
    all_goals simp -implicitDefEqProofs only [op, ef, cl, sq, reduceIte, j2, j3, j4, j5, j6, j7, j8, j9, y1, S1, h0, h1, h2, h3, h4, h10, h11, h12, h13]
  | true =>
    cases wp with
    | false =>
      simp -implicitDefEqProofs only [op, ef, cl, sq, reduceIte, j2, j3, j4, j5, j6, j7, j8, j9, y1, S1, h0, h1, h2, h3, h4, h10, h11, h12, h13, h14]
      refine no rfl _ ⟨?_, ?_, ?_, ?_, ?_, ?_, ?_, ?_⟩ ?_
      all_goals simp -implicitDefEqProofs only [op, ef, cl, sq, reduceIte, j2, j3, j4, j5, j6, j7, j8, j9, y1, S1, h0, h1, h2, h3, h4, h10, h11, h12, h13]
    | true =>
      by_cases hh : hi = .increasing
      · rw [decide_eq_true hh] at e
        rw [decide_eq_true hh] at hpi
        simp -implicitDefEqProofs only [op, ef, cl, sq, reduceIte, j2, j3, j4, j5, j6, j7, j8, j9, y1, S1, h0, h1, h2, h3, h4, h10, h11, h12, h13, h14, e]
        refine callB_of _ _ _ _ _ _ _ _ (pins80 c n di a b _ hn hc hb (by omega) (by omega)) ?_
        rintro u H2 ⟨hu, d2, hd2, hs2, e2, hf2⟩
        cases hu
        rw [if_pos (show (true && true && true) = true from rfl)] at hpi
        rw [← hpi] at e2 ⊢
        cases hb2 : pi.2 with
        | true =>
          simp -implicitDefEqProofs only [op, ef, cl, sq, reduceIte, j2, j3, j4, j5, j6, j7, j8, j9, y1, S1]
          exact rest1 _ _ hb2 ⟨d2, hd2, hs2, e2, hfr.trans hf2 fun _ h => .inl h⟩
        | false =>
          simp -implicitDefEqProofs only [op, ef, cl, sq, reduceIte, j2, j3, j4, j5, j6, j7, j8, j9, y1, S1]
          refine rest2 _ _ hb2 ⟨?_, ?_, ?_, ?_, ?_, ?_, ?_, ?_⟩ ?_ ⟨d2, hd2, hs2, e2, hfr.trans hf2 fun _ h => .inl h⟩
          all_goals simp -implicitDefEqProofs only [op, ef, cl, sq, reduceIte, j2, j3, j4, j5, j6, j7, j8, j9, y1, S1, h0, h1, h2, h3, h4, h10, h11, h12, h13]
      · rw [decide_eq_false hh] at e
        simp -implicitDefEqProofs only [op, ef, cl, sq, reduceIte, j2, j3, j4, j5, j6, j7, j8, j9, y1, S1, h0, h1, h2, h3, h4, h10, h11, h12, h13, h14, e]
        refine no (by rw [decide_eq_false hh]; rfl) _ ⟨?_, ?_, ?_, ?_, ?_, ?_, ?_, ?_⟩ ?_
        all_goals simp -implicitDefEqProofs only [op, ef, cl, sq, reduceIte, j2, j3, j4, j5, j6, j7, j8, j9, y1, S1, h0, h1, h2, h3, h4, h10, h11, h12, h13]
open Go.Sort in
theorem seg7 (A : C) (hA : (bkOf ir77.body 1).map (seqN · 7) = some A) (c n a b lim : Nat) (wb wp : Bool) (d : Array Nm) (pv : Nat) (R : Regs) (H0 H : Heap) (K : Out → Heap → Prop) (hp : PR R c n a b lim wb wp) (h13 : R 13 = .int .i64 pv) (hd : SC c n H0 (fun x => x = d) H) (hb : b ≤ n) (hab : a + 12 < b) (hs : n < 16777216) (hpv : a ≤ pv ∧ pv < b)
    (rest1 : ∀ R' H', (a > 0 && !ltM d[a - 1]! d[pv]!) = true → R' 0 = .msl c 0 n 2 → R' 1 = .int .i64 (partitionEqual ltM d a b pv).1 → R' 2 = .int .i64 b → R' 3 = .int .i64 lim → R' 4 = .fn 43 [] → R' 10 = .bool wb → R' 11 = .bool wp → SC c n H0 (fun x => x = (partitionEqual ltM d a b pv).2) H' → K (.ex (.exit 1) R') H')
    (rest2 : ∀ R' H', (a > 0 && !ltM d[a - 1]! d[pv]!) = false → PR R' c n a b lim wb wp → R' 13 = .int .i64 pv → SC c n H0 (fun x => x = d) H' → K (.ex .normal R') H') : wpC env A R H K := by
  simp [ir77, bkOf, seqN, sq] at hA
  subst hA
  obtain ⟨h0, h1, h2, h3, h4, h10, h11, h12⟩ := hp
  obtain ⟨di, hd, hn, rfl, hfr⟩ := hd
  have lc := glt hd
  by_cases ha : 0 < a
  · simp -implicitDefEqProofs (maxSteps := 1000000) (disch := omega) only [natOf_nat, iadm, ldm1, ldm2, stm0, stm1, stm2, wA, wA1, wS, wS1, wM, S2, op, ef, cl, sq, reduceIte, j2, j3, j4, j5, j6, j7, j8, j9, y1, S1, h0, h1, h2, h3, h4, h10, h11, h12, h13, ha, hd, lc]
    refine b_vg _ _ _ _ _ _ _ (by simp -implicitDefEqProofs (maxSteps := 1000000) (disch := omega) only [natOf_nat, iadm, ldm1, ldm2, stm0, stm1, stm2, wA, wA1, wS, wS1, wM, S2, op, ef, cl, sq, reduceIte, j2, j3, j4, j5, j6, j7, j8, j9, y1, S1, h0, h1, h2, h3, h4, h10, h11, h12, h13, ha, hd, lc]) ?_
    simp -implicitDefEqProofs (maxSteps := 1000000) (disch := omega) only [natOf_nat, iadm, ldm1, ldm2, stm0, stm1, stm2, wA, wA1, wS, wS1, wM, S2, op, ef, cl, sq, reduceIte, j2, j3, j4, j5, j6, j7, j8, j9, y1, S1, callvB, h0, h1, h2, h3, h4, h10, h11, h12, h13, ha, hd, lc, List.append_nil]
    refine callB_of _ _ _ _ _ _ _ _ (byName36 di[a - 1]! di[pv]! _) ?_
    rintro u H3 ⟨hu, hx⟩
    cases hu
    have hx : Ext H H3 := hx
    have hd := hx.get hd
    have lc := glt hd
    have hfr := hfr.trans (ext_frm (F := fun _ => False) hx) (fun _ h => h.elim)
    have lt1 : ltM di[a - 1]! di[pv]! = decide (cmpM di[a - 1]! di[pv]! < 0) := rfl
    by_cases c1 : cmpM di[a - 1]! di[pv]! < 0
    · simp -implicitDefEqProofs (maxSteps := 1000000) (disch := omega) only [natOf_nat, iadm, ldm1, ldm2, stm0, stm1, stm2, wA, wA1, wS, wS1, wM, S2, op, ef, cl, sq, reduceIte, j2, j3, j4, j5, j6, j7, j8, j9, y1, S1, h0, h1, h2, h3, h4, h10, h11, h12, h13, ha, hd, lc, c1]
      refine rest2 _ _ (by rw [lt1, dect c1]; simp) ⟨?_, ?_, ?_, ?_, ?_, ?_, ?_, ?_⟩ ?_ ⟨di, hd, hn, rfl, hfr⟩
      all_goals simp -implicitDefEqProofs only [op, ef, cl, sq, reduceIte, j2, j3, j4, j5, j6, j7, j8, j9, y1, S1, h0, h1, h2, h3, h4, h10, h11, h12, h13]
    · simp -implicitDefEqProofs (maxSteps := 1000000) (disch := omega) only [natOf_nat, iadm, ldm1, ldm2, stm0, stm1, stm2, wA, wA1, wS, wS1, wM, S2, op, ef, cl, sq, reduceIte, j2, j3, j4, j5, j6, j7, j8, j9, y1, S1, h0, h1, h2, h3, h4, h10, h11, h12, h13, ha, hd, lc, c1]
      refine callB_of _ _ _ _ _ _ _ _ (peq81 c n di a b pv _ hn hd hb (by omega) (by omega) (by omega)) ?_
      rintro u H4 ⟨hu, d2, hd2, hs2, e2, hf2⟩
      cases hu
      simp -implicitDefEqProofs only [op, ef, cl, sq, reduceIte, j2, j3, j4, j5, j6, j7, j8, j9, y1, S1]
      refine rest1 _ _ (by rw [lt1, decf c1]; simp; exact ha) ?_ ?_ ?_ ?_ ?_ ?_ ?_ ⟨d2, hd2, hs2, e2, hfr.trans hf2 fun _ h => .inl h⟩
      all_goals simp -implicitDefEqProofs only [op, ef, cl, sq, reduceIte, j2, j3, j4, j5, j6, j7, j8, j9, y1, S1, h0, h1, h2, h3, h4, h10, h11, h12, h13]
  · simp -implicitDefEqProofs only [op, ef, cl, sq, reduceIte, j2, j3, j4, j5, j6, j7, j8, j9, y1, S1, h0, h1, h2, h3, h4, h10, h11, h12, h13, ha]
    refine rest2 _ _ (by rw [decide_eq_false ha]; rfl) ⟨?_, ?_, ?_, ?_, ?_, ?_, ?_, ?_⟩ ?_ ⟨di, hd, hn, rfl, hfr⟩
    all_goals simp -implicitDefEqProofs only [op, ef, cl, sq, reduceIte, j2, j3, j4, j5, j6, j7, j8, j9, y1, S1, h0, h1, h2, h3, h4, h10, h11, h12, h13]
end Go.Proofs.YtodegnhallgnkaaGreat.St
end
