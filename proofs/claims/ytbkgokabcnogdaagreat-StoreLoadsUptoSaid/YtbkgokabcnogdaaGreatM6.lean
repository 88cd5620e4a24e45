/- Part of a proof of a law of this seat: the machine of plain values, its simulation, and the contracts of the functions that the law reaches. Conditions: none beyond the given row. -/
import Derived.Test.YtbkgokabcnogdaaGreatM5
import Derived.Test.YtbkgokabcnogdaaGreatRows
import Derived.WalkKit
import Derived.ProofKit
import Derived.OpenShut
import Derived.JoinedCond
import Derived.ChangeBears
open Int renaming reduceLT → q1, reduceLE → q2, reduceBEq → q3, reduceBNe → q4, reduceEq → q5
open Nat renaming reduceAdd → q6, reduceLeDiff → q7, reduceLT → q8, reduceEqDiff → q9
set_option linter.unusedSimpArgs false
set_option linter.unusedVariables false
set_option linter.unnecessarySimpa false
set_option maxHeartbeats 4000000
section
namespace Go.Proofs.YtbkgokabcnogdaaGreat.St
open Go.Rmp Go.Proofs.YtbkgokabcnogdaaGreat.Ir
set_option maxRecDepth 10000
theorem pw_take_s {α : Type} {R : α → α → Prop} (tr : ∀ a b c, R a b → R b c → R a c) {l : List α} {i : Nat} {x : α} (hx : l[i]? = some x) : (l.take (i + 1)).Pairwise R ↔ (l.take i).Pairwise R ∧ (0 < i → ∀ y, l[i - 1]? = some y → R y x) := by
  rw [take_sn hx, List.pairwise_append]
  constructor
  · rintro ⟨h1, _, h3⟩
    exact ⟨h1, fun h0 y hy => h3 y (List.mem_of_getElem? (i := i - 1) (by rw [List.getElem?_take, if_pos (by omega)]; exact hy)) x (by simp)⟩
  · rintro ⟨h1, h2⟩
    refine ⟨h1, by simp, fun a ha c hc => ?_⟩
    simp -implicitDefEqProofs only [List.mem_singleton] at hc; subst hc
    have hi := (List.getElem?_eq_some_iff.1 hx).1
    by_cases h0 : 0 < i
    · obtain ⟨y, hy⟩ := getP (l := l) (i := i - 1) (by omega)
      have e : l.take i = l.take (i - 1) ++ [y] := by rw [← take_sn hy, Nat.sub_add_cancel h0]
      rw [e] at h1 ha
      rw [List.pairwise_append] at h1
      rcases List.mem_append.1 ha with ha | ha
      · exact tr _ _ _ (h1.2.2 a ha y (by simp)) (h2 h0 y hy)
      · simp -implicitDefEqProofs only [List.mem_singleton] at ha; subst ha; exact h2 h0 a hy
    · have : i = 0 := by omega
      subst this; simp at ha
def lastsUp (ls : List Nm) : Prop := ls.Pairwise (fun a b => strLt a.1 b.1 = true)
def keptUp (l : List Kd) : Prop := l.Pairwise (fun x y => ltM x.nm y.nm = true)
def kdL (l : List Kd) : List (Nm × Vd) := l.map fun x => (x.nm, x.vd)
def ldAb (kept : List Kd) (lasts : List Nm) : Ab := ⟨fun m => mlook (kdL kept) m, fun k => mlook lasts k⟩
def LoadOk (kept : List Kd) (lasts : List Nm) : Prop := lastsUp lasts ∧ keptUp kept ∧ (∀ x ∈ kept, LdOk (ldAb [] lasts) x) ∧ ∀ e ∈ lasts, ∃ x ∈ kept, x.nm = e
theorem lastsUp.nd {ls : List Nm} (h : lastsUp ls) : (ls.map (·.1)).Nodup := List.pairwise_map.2 (h.imp fun {a b} hab e => by rw [e, lt_irr] at hab; cases hab)
theorem kdL_key (l : List Kd) : (kdL l).map (·.1) = l.map Kd.nm := by simp [kdL, Function.comp_def]
theorem keptUp.nd {l : List Kd} (h : keptUp l) : (l.map Kd.nm).Nodup := List.pairwise_map.2 (h.imp fun {a b} hab e => by rw [e, ltM_irr] at hab; cases hab)
theorem mlook_in {α β : Type} [DecidableEq α] {es : List (α × β)} {k : α} {v : β} (h : mlook es k = some v) : (k, v) ∈ es := by
  induction es with
  | nil => cases h
  | cons e es ih =>
    rw [mlook_cons] at h
    split at h
    · rename_i e2; cases h; rw [e2]; exact List.mem_cons_self
    · exact List.mem_cons_of_mem _ (ih h)
theorem ldOk_l {a a' : Ab} (h : a.l = a'.l) (x : Kd) : LdOk a x ↔ LdOk a' x := by
  have : a.last = a'.last := by funext k; simp [Ab.last, h]
  unfold LdOk; rw [this]
theorem mlook_app' {α β : Type} [DecidableEq α] (es : List (α × β)) (e : α × β) (k' : α) : mlook (es ++ [e]) k' = (mlook es k').or (if k' = e.1 then some e.2 else none) := mlook_app es e.1 k' e.2
theorem AtS.last1 {H : Heap} {b : Bk} {a : Ab} {F : Nat → Prop} {m : Nat} (h : AtS H b a F m) (k : ByteArray) (n : Nat) : ∃ im, H[b.s]? = some (.cells [.map b.v, .map b.i, .map b.p, .map b.l]) ∧ H[b.l]? = some (.map (encK T.str im)) ∧ F b.l ∧
    AtS (H.set b.l (.map (encK T.str (mput im k (.int .u64 n))))) b ⟨a.v, fun k' => if k' = k then some n else a.l k'⟩ F m := by
  obtain ⟨s, ⟨im, pm, sa⟩, hi, rfl, h4, h5⟩ := h
  refine ⟨encL s.ls, sa.hs, sa.hl, sa.F0.2.2.2.2, { s with ls := mput s.ls k n }, ⟨im, pm, ?_⟩, ?_, ?_, h4, h5⟩
  · have e : mput (encL s.ls) k (T.int .u64 n) = encL (mput s.ls k n) := mput_map (fun n : Nat => T.int .u64 n) s.ls k n
    rw [e]; exact sa.setl _
  · exact VS.inv (v' := s.vs) (now := 0) hi (VS.nil hi.nd) _ (mput_nodup hi.ndl _ _)
  · refine ab_ext (fun m => rfl) fun k' => ?_
    simp -implicitDefEqProofs only [absS, mlook_put]
theorem putL {b : Bk} {a : Ab} {F : Nat → Prop} {m : Nat} (x : Kd) (kk : SK) {H : Heap} (h : AtS H b a F m) (hn : m + 1 ≤ 8000000) (hk : KOk kk x.keys) (hl : x.keys.length ≤ 1024) (hno : a.v x.nm = none) :
    W env (.call 29 [.ptr b.s 0, .agg [.str x.key, .int .u64 x.id], .agg [.str x.value, .sl kk (x.keys.map eS), .int .i64 x.stamp]]) H (fun o H' => o = .val (.tup []) ∧ ∃ F', AtS H' b ⟨fun m' => if m' = x.nm then some x.vd else a.v m', a.l⟩ F' (m + 1) ∧ Frm F H H' ∧ Gro F F' H H') := by
  obtain ⟨s, sh, hi, rfl, h4, h5⟩ := h
  have hno' : mlook s.vs (x.key, x.id) = none := by simpa [absS, Kd.nm] using hno
  refine W.use (put41 b s F x.key x.id ⟨x.value, kk, x.keys, x.stamp⟩ H sh hi hno' (by omega) ⟨hk, hl⟩) fun o H' ⟨hu, s', F', sh', hi', hvs, hls, hn', hfr, hg⟩ => ⟨hu, F', ⟨s', sh', hi', ?_, by omega, ?_⟩, hfr, hg⟩
  · refine ab_ext (fun m' => ?_) fun k => by simp -implicitDefEqProofs only [absS, hls]
    have e0 : (x.key, x.id) = x.nm := rfl
    simp -implicitDefEqProofs only [absS, hvs, mlook_put, e0]
    by_cases e : m' = x.nm
    · rw [if_pos e, if_pos e]; rfl
    · rw [if_neg e, if_neg e]
  · rw [hvs]
    have : ∀ (es : List (Nm × Hd)) k v, (mput es k v).length ≤ es.length + 1 := fun es k v => by unfold mput; split <;> simp
    have := this s.vs (x.key, x.id) ⟨x.value, kk, x.keys, x.stamp⟩
    omega
def LoadQ (kept : List Kd) (lasts : List Nm) (H : Heap) : Out → Heap → Prop := fun o H' =>
  (LoadOk kept lasts ∧ ∃ b F, o = .val (.tup [.ptr b.s 0, .int .i64 0]) ∧ Prv H H' b (ldAb kept lasts) F kept.length) ∨ (¬ LoadOk kept lasts ∧ o = .val (.tup [.nilp, .int .i64 1]) ∧ Ext H H')
set_option maxHeartbeats 2000000 in
theorem load26 (k1 k2 : SK) (kept : List Kd) (lasts : List Nm) (hkl : kept.length ≤ 8000000) (hll : lasts.length ≤ 8000000) (hko : ∀ x ∈ kept, KdOk x) (H : Heap) : W env (.call 6 [.sl k1 (kept.map eKd), .sl k2 (lasts.map eW)]) H (LoadQ kept lasts H) := by
  refine W.fnI rfl rfl rfl ?_
  simp -implicitDefEqProofs only [ir6, op, ef, cl, sq, reduceIte, q1, q2, q3, q4, q5, q6, q7, q8, q9, S1]
  refine callB_of _ _ _ _ _ _ _ _ (newA _) ?_
  rintro u H1 ⟨hx1, b, F, hu, v1, nF⟩
  cases hu
  have p1 : Prv H H1 b Ab.emp F 0 := ⟨v1, ext_frm hx1, nF⟩
  simp -implicitDefEqProofs only [op, ef, cl, sq, reduceIte, q1, q2, q3, q4, q5, q6, q7, q8, q9, S1, List.length_map]
  refine W.loopX 0 [(0, _), (1, _), (6, _), (17, _), (18, _)] (fun (i : Nat) R H' => At H' (fun H' => Prv H H' b (ldAb [] (lasts.take i)) F 0 ∧ lastsUp (lasts.take i)) ∧ R 19 = .int .i64 i ∧ i ≤ lasts.length) (fun i => lasts.length - i) 0
    (fun R H' => At H' (fun H' => Prv H H' b (ldAb [] lasts) F 0 ∧ lastsUp lasts)) ⟨.i ⟨by rw [List.take_zero]; exact p1, by rw [List.take_zero]; exact List.Pairwise.nil⟩, rfl, Nat.zero_le _⟩ ?_ ?_
  · rintro i R H2 ⟨⟨p2, hup⟩, g19, hi⟩
    by_cases hlt : i < lasts.length
    · obtain ⟨e, he⟩ := getP hlt
      have ie := iadX (e := eW) (n := 2) (fun _ => rfl) (by decide) (k := k2) he
      have wsi := wrap_succ (show i < 9223372036854775807 by omega)
      have hst := pw_take_s (R := fun a b : Nm => strLt a.1 b.1 = true) (fun a b c h1 h2 => lt_trans' h1 h2) he
      have hxa : Ext H2 (H2 ++ [.cells [.str e.1, .int .u64 e.2]]) := ⟨_, rfl⟩
      have hbad : ¬ lastsUp (lasts.take (i + 1)) → ¬ LoadOk kept lasts := fun h hl => h (hl.1.sublist (List.take_sublist _ _))
      have go : (0 < i → ∀ y, lasts[i - 1]? = some y → strLt y.1 e.1 = true) → lastsUp (lasts.take (i + 1)) := fun h => hst.2 ⟨hup, h⟩
      obtain ⟨im, hs, hl, hF, hat⟩ := (p2.at_.ext hxa).last1 e.1 e.2
      have hk : (0 < i → ∀ y, lasts[i - 1]? = some y → strLt y.1 e.1 = true) → AtS ((H2 ++ [B.cells [.str e.1, .int .u64 e.2]]).set b.l (.map (encK T.str (mput im e.1 (.int .u64 e.2))))) b (ldAb [] (lasts.take (i + 1))) F 0 := fun h => by
        have e1 : ldAb [] (lasts.take (i + 1)) = ⟨(ldAb [] (lasts.take i)).v, fun k' => if k' = e.1 then some e.2 else (ldAb [] (lasts.take i)).l k'⟩ := by
          refine ab_ext (fun m => rfl) fun k' => ?_
          have hnd := (go h).nd
          rw [take_sn he, List.map_append, List.nodup_append] at hnd
          have hno : mlook (lasts.take i) e.1 = none := mlook_none.2 fun hh => hnd.2.2 _ hh e.1 (by simp) rfl
          simp -implicitDefEqProofs only [ldAb, take_sn he, mlook_app']
          by_cases e2 : k' = e.1
          · subst e2; simp [hno]
          · simp -implicitDefEqProofs only [e2, if_false]; cases mlook (lasts.take i) k' <;> rfl
        rw [e1]; exact hat
      have hnew : ∀ h, Prv H ((H2 ++ [B.cells [.str e.1, .int .u64 e.2]]).set b.l (.map (encK T.str (mput im e.1 (.int .u64 e.2))))) b (ldAb [] (lasts.take (i + 1))) F 0 := fun h => (p2.ext hxa).go' (hk h) ((Frm.refl F _).set (.inl hF) _)
      have lb := glt hs
      have lbl := glt hl
      simp -implicitDefEqProofs only [List.length_append, List.length_cons, List.length_nil] at lb lbl
      by_cases hi0 : 0 < i
      · obtain ⟨y, hy⟩ := getP (l := lasts) (i := i - 1) (by omega)
        have wp := wrap_pred (show i < 9223372036854775807 by omega) hi0
        have iy := iadX (e := eW) (n := 2) (fun _ => rfl) (by decide) (k := k2) hy
        cases hc : strLt y.1 e.1
        · simp -implicitDefEqProofs only [mkR_nil, mkR_cons, op, ef, cl, sq, reduceIte, q1, q2, q3, q4, q5, q6, q7, q8, q9, S1, S2, g19, hlt, natOf_nat, ie, iy, eW, hi0, wp, hc]
          exact .inr ⟨hbad fun h => (by have := (hst.1 h).2 hi0 y hy; rw [hc] at this; cases this), rfl, frm_ext (p2.ext hxa).frm⟩
        · have hall : 0 < i → ∀ y, lasts[i - 1]? = some y → strLt y.1 e.1 = true := fun _ y' hy' => by rw [hy] at hy'; cases hy'; exact hc
          simp -implicitDefEqProofs only [mkR_nil, mkR_cons, op, ef, cl, sq, reduceIte, q1, q2, q3, q4, q5, q6, q7, q8, q9, S1, S2, g19, hlt, natOf_nat, ie, iy, eW, hi0, wp, hc, hs, hl, lb, lbl, upmB_M, wsi]
          exact ⟨i + 1, by omega, .i ⟨hnew hall, go hall⟩, rfl, by omega⟩
      · have hall : 0 < i → ∀ y, lasts[i - 1]? = some y → strLt y.1 e.1 = true := fun h => absurd h hi0
        simp -implicitDefEqProofs only [mkR_nil, mkR_cons, op, ef, cl, sq, reduceIte, q1, q2, q3, q4, q5, q6, q7, q8, q9, S1, S2, g19, hlt, natOf_nat, ie, eW, hi0, hs, hl, lb, lbl, upmB_M, wsi]
        exact ⟨i + 1, by omega, .i ⟨hnew hall, go hall⟩, rfl, by omega⟩
    · have hie : i = lasts.length := by omega
      subst hie
      rw [List.take_length] at p2 hup
      simp -implicitDefEqProofs only [mkR_nil, mkR_cons, op, ef, cl, sq, reduceIte, q1, q2, q3, q4, q5, q6, q7, q8, q9, S1, g19, hlt]
      exact .i ⟨p2, hup⟩
  rintro R H2 ⟨p2, hlup⟩
  simp -implicitDefEqProofs only [mkR_nil, mkR_cons, op, ef, cl, sq, reduceIte, q1, q2, q3, q4, q5, q6, q7, q8, q9, S1, List.length_map]
  refine W.loopX 2 [(0, _), (6, _), (46, _), (47, _)] (fun (j : Nat) R H' => At H' (fun H' => ∃ F', Prv H H' b (ldAb (kept.take j) lasts) F' j ∧ keptUp (kept.take j) ∧ ∀ x ∈ kept.take j, LdOk (ldAb [] lasts) x) ∧ R 48 = .int .i64 j ∧ j ≤ kept.length) (fun j => kept.length - j) 0
    (fun R H' => At H' (fun H' => ∃ F', Prv H H' b (ldAb kept lasts) F' kept.length ∧ keptUp kept ∧ ∀ x ∈ kept, LdOk (ldAb [] lasts) x)) ⟨.i ⟨F, p2, by rw [List.take_zero]; exact List.Pairwise.nil, by simp⟩, rfl, Nat.zero_le _⟩ ?_ ?_
  · rintro j R H3 ⟨⟨F', p3, hup, hld⟩, g48, hj⟩
    by_cases hlt : j < kept.length
    · obtain ⟨x, hx⟩ := getP hlt
      have ix := iadX (e := eKd) (n := 5) (fun _ => rfl) (by decide) (k := k1) hx
      have wsj := wrap_succ (show j < 9223372036854775807 by omega)
      have hst := pw_take_s (R := fun x y : Kd => ltM x.nm y.nm = true) (fun a b c h1 h2 => ltM_trans h1 h2) hx
      have hxko := hko x (List.mem_of_getElem? hx)
      have hbad : ¬ (keptUp (kept.take (j + 1)) ∧ LdOk (ldAb [] lasts) x) → ¬ LoadOk kept lasts := fun h hl => h ⟨hl.2.1.sublist (List.take_sublist _ _), hl.2.2.1 x (List.mem_of_getElem? hx)⟩
      have hxa : Ext H3 (H3 ++ [.cells [.str x.key, .int .u64 x.id, .str x.value, .sl x.kk (x.keys.map eS), .int .i64 x.stamp]] ++ [.cells [.str x.key, .int .u64 x.id]]) := (Ext.rfl'.app _).app _
      have c0 : (H3 ++ [B.cells [.str x.key, .int .u64 x.id, .str x.value, .sl x.kk (x.keys.map eS), .int .i64 x.stamp]] ++ [B.cells [.str x.key, .int .u64 x.id]])[H3.length]? = some (.cells [.str x.key, .int .u64 x.id, .str x.value, .sl x.kk (x.keys.map eS), .int .i64 x.stamp]) := by rw [g_app (by simp), g_tail rfl]
      have c1 : (H3 ++ [B.cells [.str x.key, .int .u64 x.id, .str x.value, .sl x.kk (x.keys.map eS), .int .i64 x.stamp]] ++ [B.cells [.str x.key, .int .u64 x.id]])[H3.length + 1]? = some (.cells [.str x.key, .int .u64 x.id]) := g_tail (by simp)
      have p4 := p3.ext hxa
      have hlen4 : (H3 ++ [B.cells [.str x.key, .int .u64 x.id, .str x.value, .sl x.kk (x.keys.map eS), .int .i64 x.stamp]] ++ [B.cells [.str x.key, .int .u64 x.id]]).length = H3.length + 2 := by simp
      simp -implicitDefEqProofs only [mkR_nil, mkR_cons, op, ef, cl, sq, reduceIte, q1, q2, q3, q4, q5, q6, q7, q8, q9, S1, S2, S3, g48, hlt, natOf_nat, ix, eKd]
      generalize H3 ++ [B.cells [.str x.key, .int .u64 x.id, .str x.value, .sl x.kk (x.keys.map eS), .int .i64 x.stamp]] ++ [B.cells [.str x.key, .int .u64 x.id]] = H4 at *
      have fin : ∀ H5, Ext H4 H5 → keptUp (kept.take (j + 1)) → (ldAb (kept.take j) lasts).v x.nm = none ∧ ldAb (kept.take (j + 1)) lasts = ⟨fun m' => if m' = x.nm then some x.vd else (ldAb (kept.take j) lasts).v m', (ldAb (kept.take j) lasts).l⟩ := fun H5 _ hu => by
        have hnd := hu.nd
        rw [take_sn hx, List.map_append, List.nodup_append] at hnd
        have hno : mlook (kdL (kept.take j)) x.nm = none := mlook_none.2 fun hh => by
          rw [kdL_key] at hh
          exact hnd.2.2 _ hh x.nm (by simp) rfl
        refine ⟨hno, ab_ext (fun m => ?_) fun _ => rfl⟩
        have : kdL (kept.take (j + 1)) = kdL (kept.take j) ++ [(x.nm, x.vd)] := by rw [take_sn hx]; simp [kdL]
        simp -implicitDefEqProofs only [ldAb, this, mlook_app']
        by_cases e2 : m = x.nm
        · subst e2; simp [hno]
        · simp -implicitDefEqProofs only [e2, if_false]; cases mlook (kdL (kept.take j)) m <;> rfl
      have lld : (ldAb (kept.take j) lasts).l = (ldAb [] lasts).l := rfl
      by_cases hj0 : 0 < j
      · obtain ⟨y, hy⟩ := getP (l := kept) (i := j - 1) (by omega)
        have wp := wrap_pred (show j < 9223372036854775807 by omega) hj0
        have iy := iadX (e := eKd) (n := 5) (fun _ => rfl) (by decide) (k := k1) hy
        simp -implicitDefEqProofs only [mkR_nil, mkR_cons, op, ef, cl, sq, reduceIte, q1, q2, q3, q4, q5, q6, q7, q8, q9, S1, g48, natOf_nat, hj0, wp, iy, eKd, c0, c1]
        refine callB_of _ _ _ _ _ _ _ _ (byName36 y.nm x.nm _) ?_
        rintro u H5 ⟨hu, hx5⟩
        cases hu
        have hx5 : Ext H4 H5 := hx5
        have p5 := p4.ext hx5
        have c05 := hx5.get c0
        have c15 := hx5.get c1
        have hcm : decide (0 ≤ cmpM y.nm x.nm) = !ltM y.nm x.nm := by
          unfold ltM
          rw [Bool.eq_iff_iff]; simp
        cases hc : ltM y.nm x.nm
        · rw [hc] at hcm
          simp -implicitDefEqProofs only [mkR_nil, mkR_cons, op, ef, cl, sq, reduceIte, q1, q2, q3, q4, q5, q6, q7, q8, q9, S1, hcm]
          exact .inr ⟨hbad fun h => (by have := (hst.1 h.1).2 hj0 y hy; rw [hc] at this; cases this), rfl, frm_ext p5.frm⟩
        · rw [hc] at hcm
          have hup' : keptUp (kept.take (j + 1)) := hst.2 ⟨hup, fun _ y' hy' => by rw [hy] at hy'; cases hy'; exact hc⟩
          simp -implicitDefEqProofs only [mkR_nil, mkR_cons, op, ef, cl, sq, reduceIte, q1, q2, q3, q4, q5, q6, q7, q8, q9, S1, hcm, g48, c05]
          refine callB_of _ _ _ _ _ _ _ _ (loads40 x hxko p5.at_) ?_
          rintro u H6 ⟨hx6, t, hu, ht⟩
          cases hu
          have htt := ht.trans (ldOk_l lld x)
          obtain ⟨hno, hnx⟩ := fin _ hx5 hup'
          cases t
          · simp -implicitDefEqProofs only [mkR_nil, mkR_cons, op, ef, cl, sq, reduceIte, q1, q2, q3, q4, q5, q6, q7, q8, q9, S1]
            exact .inr ⟨hbad fun h => (by have := htt.2 h.2; cases this), rfl, frm_ext (p5.ext hx6).frm⟩
          · have c06 := hx6.get c05
            have c16 := hx6.get c15
            have hgk := (htt.1 rfl).2.1.2.2
            simp -implicitDefEqProofs only [mkR_nil, mkR_cons, op, ef, cl, sq, reduceIte, q1, q2, q3, q4, q5, q6, q7, q8, q9, S1, g48, c06, c16]
            refine callB_of _ _ _ _ _ _ _ _ (clone42 x.kk x.keys _ hxko.1 (by omega)) ?_
            rintro u H7 ⟨hx7, kk, hkk, hu⟩
            cases hu
            have p7 := (p5.ext hx6).ext hx7
            have c07 := hx7.get c06
            have c17 := hx7.get c16
            simp -implicitDefEqProofs only [mkR_nil, mkR_cons, op, ef, cl, sq, reduceIte, q1, q2, q3, q4, q5, q6, q7, q8, q9, S1, c07, c17]
            refine callB_of _ _ _ _ _ _ _ _ (putL x kk p7.at_ (by omega) hkk hgk hno) ?_
            rintro u H8 ⟨hu, F8, a8, f8, g8⟩
            cases hu
            rw [← hnx] at a8
            simp -implicitDefEqProofs only [mkR_nil, mkR_cons, op, ef, cl, sq, reduceIte, q1, q2, q3, q4, q5, q6, q7, q8, q9, S1, g48, wsj]
            refine ⟨j + 1, by omega, .i ⟨F8, p7.go a8 f8 g8, hup', fun z hz => ?_⟩, rfl, by omega⟩
            rw [take_sn hx] at hz
            rcases List.mem_append.1 hz with hz | hz
            · exact hld z hz
            · simp -implicitDefEqProofs only [List.mem_singleton] at hz; subst hz; exact htt.1 rfl
      · have hup' : keptUp (kept.take (j + 1)) := hst.2 ⟨hup, fun h => absurd h hj0⟩
        have p5 := p4
        have c05 := c0
        have c15 := c1
        have hx5 : Ext H4 H4 := Ext.rfl'
        simp -implicitDefEqProofs only [mkR_nil, mkR_cons, op, ef, cl, sq, reduceIte, q1, q2, q3, q4, q5, q6, q7, q8, q9, S1, hj0, g48, c05]
        refine callB_of _ _ _ _ _ _ _ _ (loads40 x hxko p5.at_) ?_
        rintro u H6 ⟨hx6, t, hu, ht⟩
        cases hu
        have htt := ht.trans (ldOk_l lld x)
        obtain ⟨hno, hnx⟩ := fin _ hx5 hup'
        cases t
        · simp -implicitDefEqProofs only [mkR_nil, mkR_cons, op, ef, cl, sq, reduceIte, q1, q2, q3, q4, q5, q6, q7, q8, q9, S1]
          exact .inr ⟨hbad fun h => (by have := htt.2 h.2; cases this), rfl, frm_ext (p5.ext hx6).frm⟩
        · have c06 := hx6.get c05
          have c16 := hx6.get c15
          have hgk := (htt.1 rfl).2.1.2.2
          simp -implicitDefEqProofs only [mkR_nil, mkR_cons, op, ef, cl, sq, reduceIte, q1, q2, q3, q4, q5, q6, q7, q8, q9, S1, g48, c06, c16]
          refine callB_of _ _ _ _ _ _ _ _ (clone42 x.kk x.keys _ hxko.1 (by omega)) ?_
          rintro u H7 ⟨hx7, kk, hkk, hu⟩
          cases hu
          have p7 := (p5.ext hx6).ext hx7
          have c07 := hx7.get c06
          have c17 := hx7.get c16
          simp -implicitDefEqProofs only [mkR_nil, mkR_cons, op, ef, cl, sq, reduceIte, q1, q2, q3, q4, q5, q6, q7, q8, q9, S1, c07, c17]
          refine callB_of _ _ _ _ _ _ _ _ (putL x kk p7.at_ (by omega) hkk hgk hno) ?_
          rintro u H8 ⟨hu, F8, a8, f8, g8⟩
          cases hu
          rw [← hnx] at a8
          simp -implicitDefEqProofs only [mkR_nil, mkR_cons, op, ef, cl, sq, reduceIte, q1, q2, q3, q4, q5, q6, q7, q8, q9, S1, g48, wsj]
          refine ⟨j + 1, by omega, .i ⟨F8, p7.go a8 f8 g8, hup', fun z hz => ?_⟩, rfl, by omega⟩
          rw [take_sn hx] at hz
          rcases List.mem_append.1 hz with hz | hz
          · exact hld z hz
          · simp -implicitDefEqProofs only [List.mem_singleton] at hz; subst hz; exact htt.1 rfl
    · have hje : j = kept.length := by omega
      subst hje
      rw [List.take_length] at p3 hup hld
      simp -implicitDefEqProofs only [mkR_nil, mkR_cons, op, ef, cl, sq, reduceIte, q1, q2, q3, q4, q5, q6, q7, q8, q9, S1, g48, hlt]
      exact .i ⟨F', p3, hup, hld⟩
  rintro R H3 ⟨F', p3, hkup, hld⟩
  obtain ⟨s, ⟨im, pm, sa⟩, hi, habs, hn3, hv3⟩ := p3.at_
  have hls : ∀ k, mlook s.ls k = mlook lasts k := fun k => by have := congrFun (congrArg Ab.l habs) k; exact this
  have hvs : ∀ m, (mlook s.vs m).isSome = (mlook (kdL kept) m).isSome := fun m => by
    have := congrFun (congrArg Ab.v habs) m
    have h2 : (mlook s.vs m).map Hd.vd = mlook (kdL kept) m := this
    rw [← h2]; simp
  obtain ⟨es, hes⟩ : ∃ es, es = encL s.ls := ⟨_, rfl⟩
  have hel : (encK T.str es).length = es.length := by simp [encK]
  have hnd : (es.map (·.1)).Nodup := by rw [hes]; simpa [encL, Function.comp_def] using hi.ndl
  have l0 := glt sa.hs
  have ll := glt sa.hl
  have lv := glt sa.hv
  have hml := sa.hl
  rw [← hes] at hml
  have hls0 : b.s ≠ b.l := by rintro e; have := sa.hs; rw [e, sa.hl] at this; cases this
  have hli : b.l ≠ H3.length := by omega
  simp -implicitDefEqProofs only [mkR_nil, mkR_cons, op, ef, cl, sq, reduceIte, q1, q2, q3, q4, q5, q6, q7, q8, q9, S1, sa.hs, hml]
  refine W.loopV [(6, _), (106, _)] (fun (vis : List ByteArray) R H' => At H' (fun H' => ∃ ix cur, RI es ix vis ∧ H'[b.l]? = some (.rmap (encK T.str es) ix H3.length cur) ∧ H'[H3.length]? = some (.itr b.l) ∧ Frm (fun c => c = b.l) H3 H' ∧ ∀ e ∈ s.ls, e.1 ∈ vis → (mlook s.vs e).isSome = true)) (fun vis => es.length - vis.length) [] ?_ ?_
  · refine .i ⟨List.range (encK T.str es).length, none, by rw [hel]; exact RI.start es, ?_, ?_, ?_, by simp⟩
    · rw [g_app (by simpa using ll), g_eq ll]
    · rw [g_tail (by simp)]
    · exact ((Frm.refl (fun c => c = b.l) H3).set (.inl rfl) _).app _
  rintro vis R H5 ⟨ix, cur, hri, hm, hit, hfr, hch⟩
  have lm := glt hm
  have li := glt hit
  simp -implicitDefEqProofs only [mkR_nil, mkR_cons, op, ef, cl, sq, reduceIte, q1, q2, q3, q4, q5, q6, q7, q8, q9, S1]
  refine step_x _ _ _ _ _ _ _ (by simp -implicitDefEqProofs only [mkR_nil, mkR_cons, op, ef, cl, sq, reduceIte, q1, q2, q3, q4, q5, q6, q7, q8, q9, S1]) hm ?_
  rintro t H6 (⟨rfl, rfl, rfl⟩ | ⟨i, e, hi', he, rfl, rfl⟩)
  · simp -implicitDefEqProofs only [mkR_nil, mkR_cons, op, ef, cl, sq, reduceIte, q1, q2, q3, q4, q5, q6, q7, q8, q9, S1]
    have hall : ∀ e ∈ s.ls, (mlook s.vs e).isSome = true := fun e he => hch e he ((hri.end' e.1).2 (by rw [hes]; exact List.mem_map.2 ⟨(e.1, T.int .u64 e.2), List.mem_map.2 ⟨e, he, rfl⟩, rfl⟩))
    have hF : Frm (fun _ => False) H3 (H5.set b.l (.map (encK T.str es))) := by
      refine ⟨by rw [List.length_set]; exact hfr.1, fun c hc _ => ?_⟩
      by_cases e : c = b.l
      · subst e; rw [g_eq lm, hml]
      · rw [g_ne (Ne.symm e), hfr.2 c hc e]
    refine .inl ⟨⟨hlup, hkup, hld, fun e he => ?_⟩, b, F', rfl, p3.go' ⟨s, ⟨im, pm, sa.frm hF fun _ _ _ h => h⟩, hi, habs, hn3, hv3⟩ (hF.mono fun _ h => h.elim)⟩
    have h1 : mlook lasts e.1 = some e.2 := mlook_of hlup.nd he
    rw [← hls] at h1
    have h2 := hall _ (mlook_in h1)
    rw [hvs] at h2
    have h3 : e ∈ (kdL kept).map (·.1) := mlook_key h2
    rw [kdL_key] at h3
    obtain ⟨x, hx, hxe⟩ := List.mem_map.1 h3
    exact ⟨x, hx, hxe⟩
  obtain ⟨⟨k, n⟩, hkn⟩ := getP (l := s.ls) (i := i) (by have := hri.lt i hi'; rw [hes] at this; simpa [encL] using this)
  have hkv : es[i]? = some (k, T.int .u64 n) := by rw [hes, encL, List.getElem?_map, hkn]; rfl
  have he' : e = (T.str k, T.int .u64 n) := by
    rw [encK, List.getElem?_map, hkv] at he; exact (Option.some.inj he).symm
  subst he'
  obtain ⟨H6, hH6⟩ : ∃ H6, H6 = H5.set b.l (.rmap (encK T.str es) (ix.erase i) H3.length (some i)) := ⟨_, rfl⟩
  have m6 : H6[b.l]? = some (.rmap (encK T.str es) (ix.erase i) H3.length (some i)) := by rw [hH6]; exact g_eq lm
  have i6 : H6[H3.length]? = some (.itr b.l) := by rw [hH6, g_ne hli]; exact hit
  have f6 : Frm (fun c => c = b.l) H3 H6 := by rw [hH6]; exact hfr.set (.inl rfl) _
  have s6 := f6.get sa.hs hls0
  have v6 := f6.get sa.hv sa.vl
  have l60 := glt s6
  have l6v := glt v6
  have l6l := glt m6
  have l6i := glt i6
  rw [← hH6]
  have hhd : ∀ z, lkpT (mlook (encV s.vs) (k, n)) z true = .tup [lkpT (mlook (encV s.vs) (k, n)) z false, .bool (mlook s.vs (k, n)).isSome] := fun z => by
    unfold encV; rw [mlook_map]
    cases mlook s.vs (k, n) <;> rfl
  have hz : ∃ cs, cs.length = 3 ∧ lkpT (mlook (encV s.vs) (k, n)) (.agg [.str ⟨#[]⟩, .sl .nil [], .int .i64 0]) false = .agg cs := by
    unfold encV; rw [mlook_map]
    cases mlook s.vs (k, n) with
    | none => exact ⟨_, rfl, rfl⟩
    | some x => exact ⟨_, rfl, rfl⟩
  obtain ⟨cs, hcs, hlz⟩ := hz
  have hlk := fun Hx z ok => lkpB_K kNok z ok Hx (encV s.vs) (k, n)
  simp -implicitDefEqProofs only [kN, eN] at hlk
  have hset : ∀ (X : B), (H6 ++ [X]).set H6.length (.cells cs) = H6 ++ [.cells cs] := fun X => s_tail rfl
  have hst : ∀ X : List T, X.length = 3 → stcB (H6 ++ [.cells X]) H6.length cs 0 (some (.cells X)) = some (H6 ++ [.cells cs]) := fun X hX => by
    rw [stcB_c, if_pos (by omega)]
    have e1 : X.take 0 ++ cs ++ X.drop (0 + cs.length) = cs := by rw [List.drop_eq_nil_of_le (by omega)]; simp
    rw [e1, hset]
  have hst3 := hst [.str ⟨#[]⟩, .sl .nil [], .int .i64 0] rfl
  cases hsm : (mlook s.vs (k, n)).isSome
  · rw [hsm] at hhd
    simp -implicitDefEqProofs only [mkR_nil, mkR_cons, op, ef, cl, sq, reduceIte, q1, q2, q3, q4, q5, q6, q7, q8, q9, S1, S2, i6, m6, he, s6, v6, hlk, hhd, hlz, hcs, hst3, List.length_set]
    refine .inr ⟨fun hl => ?_, rfl, ?_⟩
    · have h1 : mlook s.ls k = some n := mlook_of hi.ndl (List.mem_of_getElem? hkn)
      rw [hls] at h1
      obtain ⟨x, hx, hxe⟩ := hl.2.2.2 (k, n) (mlook_in h1)
      have : (mlook (kdL kept) (k, n)).isSome = true := by rw [← mem_keys, kdL_key]; exact List.mem_map.2 ⟨x, hx, hxe⟩
      rw [← hvs, hsm] at this; cases this
    · exact frm_ext (((p3.frm.more f6 fun c hc => by rw [hc]; exact (p3.new _ sa.F0.2.2.2.2).1)).app _)
  · rw [hsm] at hhd
    simp -implicitDefEqProofs only [mkR_nil, mkR_cons, op, ef, cl, sq, reduceIte, q1, q2, q3, q4, q5, q6, q7, q8, q9, S1, S2, i6, m6, he, s6, v6, hlk, hhd, hlz, hcs, hst3, List.length_set]
    refine ⟨vis ++ [k], ?_, .i ⟨_, _, hri.step hnd hi' hkv, by rw [g_app l6l]; exact m6, by rw [g_app l6i]; exact i6, f6.app _, fun e he2 hev => ?_⟩⟩
    · have := hri.len; have := List.length_pos_of_mem hi'; rw [List.length_append, List.length_singleton]; omega
    · rcases List.mem_append.1 hev with hev | hev
      · exact hch e he2 hev
      · simp -implicitDefEqProofs only [List.mem_singleton] at hev
        have h1 := mlook_of hi.ndl he2
        have h2 : mlook s.ls k = some n := mlook_of hi.ndl (List.mem_of_getElem? hkn)
        rw [hev, h2] at h1
        have : e = (k, n) := Prod.ext hev (Option.some.inj h1).symm
        rw [this, hsm]
end Go.Proofs.YtbkgokabcnogdaaGreat.St
end

section
namespace Go.Proofs.YtbkgokabcnogdaaGreat.St
open Go.Rmp Go.Proofs.YtbkgokabcnogdaaGreat.Ir
set_option maxRecDepth 10000
end Go.Proofs.YtbkgokabcnogdaaGreat.St
end

section
namespace Go.Proofs.YtbkgokabcnogdaaGreat.St
open Go.Rmp Go.Proofs.YtbkgokabcnogdaaGreat.Ir
set_option maxRecDepth 10000
theorem sameK27 (k k' : SK) (a : Ab) (l : List Nm) (hl : l.length ≤ 8000000) (hk : ∀ m, (vdOf (a.v m)).keys.length ≤ 1024) (H : Heap) : W env (.call 9 [.sl k (l.map (eKA a)), .sl k' (l.map (eKA a))]) H (RetG (.bool true) H) := by
  refine W.fnI rfl rfl rfl ?_
  simp -implicitDefEqProofs only [ir9, op, ef, cl, sq, reduceIte, q1, q2, q3, q4, q5, q6, q7, q8, q9, S1, List.length_map]
  refine W.loopV [(0, _), (1, _)] (fun (i : Nat) R H' => At H' (fun H' => Ext H H') ∧ R 5 = .int .i64 i ∧ i ≤ l.length) (fun i => l.length - i) 0 ⟨.i Ext.rfl', rfl, Nat.zero_le _⟩ ?_
  rintro i R H1 ⟨hx, g5, hi⟩
  have hx : Ext H H1 := hx
  by_cases hlt : i < l.length
  · obtain ⟨x, hxi⟩ := getP hlt
    have ix := iadX (e := eKA a) (n := 5) (fun _ => rfl) (by decide) (k := k) hxi
    have iy := iadX (e := eKA a) (n := 5) (fun _ => rfl) (by decide) (k := k') hxi
    have wsi := wrap_succ (show i < 9223372036854775807 by omega)
    have l4 : fadT 4 (.iptr (eKA a x)) = some (.iptr [.int .i64 (vdOf (a.v x)).stamp]) := rfl
    have l0 : fadT 0 (.iptr (eKA a x)) = some (.iptr (eKA a x)) := rfl
    have ld : ∀ Hx, ldc Hx 4 (.iptr (eKA a x)) = some (eVer x.1 x.2 (vdOf (a.v x)).value .arg (vdOf (a.v x)).keys) := fun _ => rfl
    simp -implicitDefEqProofs only [mkR_nil, mkR_cons, op, ef, cl, sq, reduceIte, q1, q2, q3, q4, q5, q6, q7, q8, q9, S1, List.length_map, g5, hlt, natOf_nat, ix, iy, l4, l0, ldc1, ld]
    refine callB_of _ _ _ _ _ _ _ _ (same22 x.1 x.2 _ .arg .arg _ _ (by have := hk x; omega)) ?_
    rintro u H2 ⟨hu, hx2⟩
    cases hu
    have hx2 : Ext H1 H2 := hx2
    simp -implicitDefEqProofs only [mkR_nil, mkR_cons, op, ef, cl, sq, reduceIte, q1, q2, q3, q4, q5, q6, q7, q8, q9, S1, g5, natOf_nat, ix, iy, l4, ldc1, wsi]
    exact ⟨i + 1, by omega, .i (hx.trans hx2), rfl, by omega⟩
  · simp -implicitDefEqProofs only [mkR_nil, mkR_cons, op, ef, cl, sq, reduceIte, q1, q2, q3, q4, q5, q6, q7, q8, q9, S1, List.length_map, g5, hlt]
    simp -implicitDefEqProofs only [retg_ext hx]
end Go.Proofs.YtbkgokabcnogdaaGreat.St
end

section
namespace Go.Proofs.YtbkgokabcnogdaaGreat.St
open Go.Rmp Go.Proofs.YtbkgokabcnogdaaGreat.Ir
set_option maxRecDepth 10000
theorem rid68 (n : Nat) (H : Heap) : W env (.call 68 [.int .u64 n]) H (Ret (.bool (decide (65536 ≤ n))) H) := by
  refine W.fnI rfl rfl rfl ?_
  simp -implicitDefEqProofs only [ir68, op, ef, cl, sq, reduceIte, q1, q2, q3, q4, q5, q6, q7, q8, q9, S1]
theorem rtick71 (now : Int) (H : Heap) : W env (.call 71 [.int .i64 now]) H (Ret (.bool (decide (0 ≤ now) && decide (now ≤ 1099511627776))) H) := by
  refine W.fnI rfl rfl rfl ?_
  cases h : decide (0 ≤ now) <;> simp -implicitDefEqProofs only [ir71, op, ef, cl, sq, reduceIte, q1, q2, q3, q4, q5, q6, q7, q8, q9, S1, h, Bool.false_and]
theorem rhas70 (k : SK) (l : List ByteArray) (x : ByteArray) (H : Heap) (hl : l.length ≤ 16777216) : W env (.call 70 [.sl k (l.map eS), .str x]) H (Ret (.bool (memB l x)) H) := by
  refine W.fnI rfl rfl rfl ?_
  simp -implicitDefEqProofs only [ir70, op, ef, cl, sq, reduceIte, q1, q2, q3, q4, q5, q6, q7, q8, q9, S1]
  refine W.loopV [(0, _), (1, _)] (fun (i : Nat) R H' => H' = H ∧ R 5 = .int .i64 i ∧ i ≤ l.length ∧ x ∉ l.take i) (fun i => l.length - i) 0 ⟨rfl, rfl, Nat.zero_le _, by simp⟩ ?_
  rintro i R H1 ⟨rfl, g5, hi, hno⟩
  by_cases hlt : i < l.length
  · obtain ⟨y, hy⟩ := getP hlt
    have iy := iadX (e := eS) (n := 1) (fun _ => rfl) (by decide) (k := k) hy
    have wsi := wrap_succ (show i < 9223372036854775807 by omega)
    by_cases h : y = x
    · have hm : memB l x = true := memB_iff.2 (h ▸ List.mem_of_getElem? hy)
      simp -implicitDefEqProofs only [mkR_nil, mkR_cons, op, ef, cl, sq, reduceIte, q1, q2, q3, q4, q5, q6, q7, q8, q9, S1, List.length_map, g5, hlt, natOf_nat, iy, eS, h, hm]
    · simp -implicitDefEqProofs only [mkR_nil, mkR_cons, op, ef, cl, sq, reduceIte, q1, q2, q3, q4, q5, q6, q7, q8, q9, S1, List.length_map, g5, hlt, natOf_nat, iy, eS, h, wsi]
      refine ⟨i + 1, by omega, rfl, hlt, ?_⟩
      rw [take_sn hy]; simp [hno, Ne.symm h]
  · have hie : i = l.length := by omega
    subst hie
    rw [List.take_length] at hno
    have hm : memB l x = false := memB_no.2 hno
    simp -implicitDefEqProofs only [mkR_nil, mkR_cons, op, ef, cl, sq, reduceIte, q1, q2, q3, q4, q5, q6, q7, q8, q9, S1, List.length_map, g5, hlt, hm]
def lensB (l : List ByteArray) : Bool := l.all (fun x => decide (x.size ≤ 65535)) && (decide (1 ≤ l.length) && decide (l.length ≤ 1024))
theorem rlen92 (k : SK) (l : List ByteArray) (H : Heap) (hl : l.length ≤ 16777216) : W env (.call 92 [.sl k (l.map eS)]) H (Ret (.bool (lensB l)) H) := by
  refine W.fnI rfl rfl rfl ?_
  simp -implicitDefEqProofs only [ir92, op, ef, cl, sq, reduceIte, q1, q2, q3, q4, q5, q6, q7, q8, q9, S1]
  refine W.loopV [(0, _)] (fun (i : Nat) R H' => H' = H ∧ R 3 = .int .i64 i ∧ i ≤ l.length ∧ (l.take i).all (fun x => decide (x.size ≤ 65535)) = true) (fun i => l.length - i) 0 ⟨rfl, rfl, Nat.zero_le _, by simp⟩ ?_
  rintro i R H1 ⟨rfl, g3, hi, hall⟩
  by_cases hlt : i < l.length
  · obtain ⟨y, hy⟩ := getP hlt
    have iy := iadX (e := eS) (n := 1) (fun _ => rfl) (by decide) (k := k) hy
    have wsi := wrap_succ (show i < 9223372036854775807 by omega)
    by_cases h : 65535 < y.size
    · have hf : lensB l = false := by
        unfold lensB
        have : l.all (fun x => decide (x.size ≤ 65535)) = false := List.all_eq_false.2 ⟨y, List.mem_of_getElem? hy, by simp; omega⟩
        rw [this]; rfl
      simp -implicitDefEqProofs only [mkR_nil, mkR_cons, op, ef, cl, sq, reduceIte, q1, q2, q3, q4, q5, q6, q7, q8, q9, S1, List.length_map, g3, hlt, natOf_nat, iy, eS, h, hf]
    · simp -implicitDefEqProofs only [mkR_nil, mkR_cons, op, ef, cl, sq, reduceIte, q1, q2, q3, q4, q5, q6, q7, q8, q9, S1, List.length_map, g3, hlt, natOf_nat, iy, eS, h, wsi]
      refine ⟨i + 1, by omega, rfl, hlt, ?_⟩
      rw [take_sn hy, List.all_append, hall]; simp; omega
  · have hie : i = l.length := by omega
    subst hie
    rw [List.take_length] at hall
    have hf : lensB l = (decide (1 ≤ l.length) && decide (l.length ≤ 1024)) := by unfold lensB; rw [hall]; rfl
    by_cases h1 : 1 ≤ l.length
    · simp -implicitDefEqProofs only [mkR_nil, mkR_cons, op, ef, cl, sq, reduceIte, q1, q2, q3, q4, q5, q6, q7, q8, q9, S1, List.length_map, g3, hlt, hf, h1]
    · simp -implicitDefEqProofs only [mkR_nil, mkR_cons, op, ef, cl, sq, reduceIte, q1, q2, q3, q4, q5, q6, q7, q8, q9, S1, List.length_map, g3, hlt, hf, h1, Bool.false_and]
theorem rris93 (k : SK) (l : List ByteArray) (H : Heap) (hl : l.length ≤ 16777216) : W env (.call 93 [.sl k (l.map eS)]) H (Ret (.bool (rises l)) H) := by
  refine W.fnI rfl rfl rfl ?_
  simp -implicitDefEqProofs only [ir93, op, ef, cl, sq, reduceIte, q1, q2, q3, q4, q5, q6, q7, q8, q9, S1]
  refine W.loopV [(0, _)] (fun (i : Nat) R H' => H' = H ∧ R 3 = .int .i64 ((i : Nat) + 1 : Nat) ∧ ∀ j, j < i → ∀ a b, l[j]? = some a → l[j + 1]? = some b → strLt a b = true) (fun i => l.length - i) 0 ⟨rfl, rfl, fun j h => by omega⟩ ?_
  rintro i R H1 ⟨rfl, g3, hall⟩
  by_cases hlt : i + 1 < l.length
  · obtain ⟨y, hy⟩ := getP hlt
    obtain ⟨z, hz⟩ := getP (l := l) (i := i) (by omega)
    have iy := iadX (e := eS) (n := 1) (fun _ => rfl) (by decide) (k := k) hy
    have iz := iadX (e := eS) (n := 1) (fun _ => rfl) (by decide) (k := k) hz
    have wsi := wrap_succ (show i + 1 < 9223372036854775807 by omega)
    have wp := wrap_pred (show i + 1 < 9223372036854775807 by omega) (by omega)
    simp -implicitDefEqProofs only [Nat.add_sub_cancel] at wp
    cases h : strLt z y
    · have hf : rises l = false := by
        cases e : rises l with
        | false => rfl
        | true => have := (rises_iff l).1 e i z y hz hy; rw [h] at this; cases this
      simp -implicitDefEqProofs only [mkR_nil, mkR_cons, op, ef, cl, sq, reduceIte, q1, q2, q3, q4, q5, q6, q7, q8, q9, S1, List.length_map, g3, hlt, natOf_nat, wp, iy, iz, eS, h, hf]
    · simp -implicitDefEqProofs only [mkR_nil, mkR_cons, op, ef, cl, sq, reduceIte, q1, q2, q3, q4, q5, q6, q7, q8, q9, S1, List.length_map, g3, hlt, natOf_nat, wp, iy, iz, eS, h, wsi]
      refine ⟨i + 1, by omega, rfl, fun j hj a b ha hb => ?_⟩
      by_cases e : j = i
      · subst e; rw [hz] at ha; rw [hy] at hb; cases ha; cases hb; exact h
      · exact hall j (by omega) a b ha hb
  · have hr : rises l = true := (rises_iff l).2 fun j a b ha hb => hall j (by have := (List.getElem?_eq_some_iff.1 hb).1; omega) a b ha hb
    simp -implicitDefEqProofs only [mkR_nil, mkR_cons, op, ef, cl, sq, reduceIte, q1, q2, q3, q4, q5, q6, q7, q8, q9, S1, List.length_map, g3, hlt, hr]
theorem rwhole69 (k : SK) (l : List ByteArray) (H : Heap) (hl : l.length ≤ 16777216) : W env (.call 69 [.sl k (l.map eS)]) H (Ret (.bool (goodB l)) H) := by
  have hg : goodB l = (lensB l && rises l) := by
    unfold goodB lensB
    cases rises l <;> cases l.all (fun x => decide (x.size ≤ 65535)) <;> cases decide (1 ≤ l.length) <;> cases decide (l.length ≤ 1024) <;> rfl
  refine W.fnI rfl rfl rfl ?_
  simp -implicitDefEqProofs only [ir69, op, ef, cl, sq, reduceIte, q1, q2, q3, q4, q5, q6, q7, q8, q9, S1]
  refine callB_of _ _ _ _ _ _ _ _ (rlen92 k l _ hl) ?_
  rintro u H1 ⟨hu, rfl⟩
  cases hu
  cases h : lensB l
  · rw [h, Bool.false_and] at hg
    simp -implicitDefEqProofs only [op, ef, cl, sq, reduceIte, q1, q2, q3, q4, q5, q6, q7, q8, q9, S1, hg]
  · rw [h, Bool.true_and] at hg
    simp -implicitDefEqProofs only [op, ef, cl, sq, reduceIte, q1, q2, q3, q4, q5, q6, q7, q8, q9, S1]
    refine callB_of _ _ _ _ _ _ _ _ (rris93 k l _ hl) ?_
    rintro u H2 ⟨hu, rfl⟩
    cases hu
    simp -implicitDefEqProofs only [op, ef, cl, sq, reduceIte, q1, q2, q3, q4, q5, q6, q7, q8, q9, S1, hg]
theorem ltM_eq (a b : Nm) : ltM a b = (strLt a.1 b.1 || (decide (a.1 = b.1) && decide (a.2 < b.2))) := by
  rw [Bool.eq_iff_iff, ltM_iff]; simp
theorem rless32 (a b : Nm) (va vb ka kb : T) (ha : va.one = true ∧ vb.one = true ∧ ka.one = true ∧ kb.one = true) (H : Heap) : W env (.call 32 [.agg [.str a.1, .int .u64 a.2, va, ka], .agg [.str b.1, .int .u64 b.2, vb, kb]]) H (RetG (.bool (ltM a b)) H) := by
  have hl := ltM_eq a b
  have c0 : ∀ x y : B, (H ++ [x] ++ [y])[H.length]? = some x := fun x y => by rw [g_app (by simp), g_tail rfl]
  have ce : ∀ l : List T, (T.agg l).cells? = some l := fun _ => rfl
  refine W.fnI rfl rfl rfl ?_
  cases h1 : strLt a.1 b.1
  · by_cases h2 : a.1 = b.1
    · rw [h1] at hl
      simp -implicitDefEqProofs only [h2, decide_true, Bool.true_and, Bool.false_or] at hl
      rw [h2] at h1
      simp -implicitDefEqProofs only [ir32, op, ef, cl, sq, reduceIte, q1, q2, q3, q4, q5, q6, q7, q8, q9, S1, S2, S3, c0, h1, h2, hl, retg_ext ((Ext.rfl'.app _).app _)]
    · rw [h1] at hl
      simp -implicitDefEqProofs only [h2, decide_false, Bool.false_and, Bool.false_or] at hl
      simp -implicitDefEqProofs only [ir32, op, ef, cl, sq, reduceIte, q1, q2, q3, q4, q5, q6, q7, q8, q9, S1, S2, S3, c0, h1, h2, hl, retg_ext ((Ext.rfl'.app _).app _)]
  · rw [h1, Bool.true_or] at hl
    simp -implicitDefEqProofs only [ir32, op, ef, cl, sq, reduceIte, q1, q2, q3, q4, q5, q6, q7, q8, q9, S1, S2, S3, c0, h1, hl, retg_ext ((Ext.rfl'.app _).app _)]
end Go.Proofs.YtbkgokabcnogdaaGreat.St
end

section
namespace Go.Proofs.YtbkgokabcnogdaaGreat.St
open Go.Rmp Go.Proofs.YtbkgokabcnogdaaGreat.Ir
set_option maxRecDepth 10000
theorem mut_frm {α : Type} {enc : α → List T} {n n0 : Nat} {H H' : Heap} {G : Nat → Prop} {t : T} {l : List α} (h : Mut enc n n0 H t l) (hf : Frm G H H') (hg : ∀ c, tb t = some c → ¬ G c) : Mut enc n n0 H' t l := by
  rcases h with h | ⟨c, rfl, hc, h0⟩
  · exact .inl h
  · exact .inr ⟨c, rfl, hf.get hc (hg c rfl), h0⟩
theorem mut_blk {α : Type} {enc : α → List T} {n n0 : Nat} {H : Heap} {t : T} {l : List α} (h : Mut enc n n0 H t l) {c : Nat} (hc : tb t = some c) : H[c]? = some (.cells (msC enc l)) := by
  rcases h with ⟨_, rfl⟩ | ⟨c', rfl, hc', _⟩
  · cases hc
  · cases hc; exact hc'
theorem stayM_frm {n0 : Nat} {H H' : Heap} {t : T} (h : StayM n0 H t H') : Frm (fun c => tb t = some c) H H' := ⟨h.len, fun c hc hg => by
  have hx : H[c]? = some H[c] := List.getElem?_eq_getElem hc
  rw [hx]
  exact h.get c _ hx fun off len n e => hg (by rw [e]; rfl)⟩
theorem fgt_mut {α : Type} {enc : α → List T} {n n0 : Nat} {H : Heap} {t : T} {l : List α} (h : Mut enc n n0 H t l) : fgt t = t := by
  rcases h with ⟨_, rfl⟩ | ⟨c, rfl, _⟩ <;> rfl
theorem len_mut {α : Type} {enc : α → List T} {n n0 : Nat} {H : Heap} {t : T} {l : List α} (h : Mut enc n n0 H t l) : ∀ Hx, lenT Hx .sl t = some l.length := fun Hx => by
  rcases h with ⟨e, rfl⟩ | ⟨c, rfl, _, _⟩
  · rw [e]; rfl
  · rfl
section
variable {α : Type} {f : α → α} {l : List α} {i : Nat} {x : α}
theorem drop_at (h : l[i]? = some x) : l.drop i = x :: l.drop (i + 1) := by
  obtain ⟨hi, e⟩ := List.getElem?_eq_some_iff.1 h
  rw [← e]; exact List.drop_eq_getElem_cons hi
end
theorem appM_any {α : Type} {enc : α → List T} {n : Nat} (hn : ∀ x, (enc x).length = n) {H : Heap} {t : T} {l : List α} {bytes : Nat} (new : List α) (h : Mut enc n 0 H t l) (hr : roomOk (l.length + new.length) bytes = true) :
    ∃ t' H', appM H n bytes t (new.map enc) = some (t', H') ∧ Mut enc n 0 H' t' (l ++ new) ∧ Frm (fun c => tb t = some c) H H' ∧ ∀ c, tb t' = some c → (tb t = some c ∧ new = []) ∨ H.length ≤ c := by
  by_cases he : new = []
  · subst he
    refine ⟨t, H, ?_, by simpa using h, Frm.refl _ _, fun c hc => .inl ⟨hc, rfl⟩⟩
    have : isSlT t = true := by rcases h with ⟨_, rfl⟩ | ⟨c, rfl, _⟩ <;> rfl
    simp [appM, this]
  · obtain ⟨t', H', ha, hm, hst⟩ := appM_ok (enc := enc) (n := n) (n0 := 0) hn (bytes := bytes) new h (Nat.zero_le _) he hr
    refine ⟨t', H', ha, hm, stayM_frm hst, fun c hc => .inr ?_⟩
    rcases hm with ⟨e, _⟩ | ⟨c', rfl, _, _⟩
    · simp at e; exact absurd e.2 he
    · cases hc; exact appM_fr ha (by simpa using he)
theorem elems_sub {α : Type} {enc : α → List T} {n : Nat} (hn : ∀ x, (enc x).length = n) {H : Heap} {b : Nat} {xs : List α} (hb : H[b]? = some (.cells (msC enc xs))) (j k : Nat) (hjk : j + k ≤ xs.length) : elemsOf H n (.msl b (j * n) k n) = some (((xs.drop j).take k).map enc) := (elemsK_ms hn hb j k k 0 hjk).1
structure RC (H : Heap) (p : Nat) (tK tL : T) (K : List Kd) (L : List Nm) (G : Nat → Prop) : Prop where
  hp : H[p]? = some (.cells [tK, tL])
  mK : Mut eKd 5 0 H tK K
  mL : Mut eW 2 0 H tL L
  gp : G p
  gK : ∀ c, tb tK = some c → G c ∧ c ≠ p
  gL : ∀ c, tb tL = some c → G c ∧ c ≠ p
  ne : ∀ c, tb tK = some c → tb tL = some c → False
  ko : ∀ x ∈ K, x.kk = .arg ∧ x.keys.length ≤ 1024
theorem RC.frm {H H' : Heap} {p : Nat} {tK tL : T} {K : List Kd} {L : List Nm} {G D : Nat → Prop} (h : RC H p tK tL K L G) (hf : Frm D H H') (hd : ∀ c, G c → c < H.length → ¬ D c) : RC H' p tK tL K L G :=
  ⟨hf.get h.hp (hd p h.gp (glt h.hp)), mut_frm h.mK hf fun c hc => hd c (h.gK c hc).1 (glt (mut_blk h.mK hc)), mut_frm h.mL hf fun c hc => hd c (h.gL c hc).1 (glt (mut_blk h.mL hc)), h.gp, h.gK, h.gL, h.ne, h.ko⟩
theorem RC.ext {H H' : Heap} {p : Nat} {tK tL : T} {K : List Kd} {L : List Nm} {G : Nat → Prop} (h : RC H p tK tL K L G) (hx : Ext H H') : RC H' p tK tL K L G := h.frm (ext_frm (F := fun _ => False) hx) fun _ _ _ h => h
def fiK (K : List Kd) (m : Nm) : Nat := (K.takeWhile fun x => ltM x.nm m).length
theorem tw_len {α : Type} {p : α → Bool} : ∀ {l : List α} {i : Nat}, (∀ j x, j < i → l[j]? = some x → p x = true) → i ≤ l.length → (∀ x, l[i]? = some x → p x = false) → (l.takeWhile p).length = i
  | [], i, _, hi, _ => by simp at hi; subst hi; rfl
  | x :: l, 0, _, _, h => by have := h x rfl; simp [List.takeWhile_cons, this]
  | x :: l, i + 1, h1, hi, h2 => by
    have hx := h1 0 x (by omega) rfl
    simp -implicitDefEqProofs only [List.takeWhile_cons, hx, if_true, List.length_cons]
    rw [tw_len (i := i) (fun j y hj hy => h1 (j + 1) y (Nat.succ_lt_succ hj) (by simpa using hy)) (by simpa using hi) (fun y hy => h2 y (by simpa using hy))]
theorem fiK_mem {K : List Kd} (hs : keptUp K) (m : Nm) : memN (K.map Kd.nm) m = true ↔ ∃ x, K[fiK K m]? = some x ∧ x.nm = m := by
  rw [memN_iff, List.mem_map]
  constructor
  · rintro ⟨x, hx, rfl⟩
    obtain ⟨j, hj, e⟩ := List.getElem_of_mem hx
    refine ⟨x, ?_, rfl⟩
    have : fiK K x.nm = j := tw_len (fun i y hi hy => by
      have := List.pairwise_iff_getElem.1 hs i j (List.getElem?_eq_some_iff.1 hy).1 hj hi
      rw [(List.getElem?_eq_some_iff.1 hy).2, e] at this; exact this) (Nat.le_of_lt hj) (fun y hy => by
      rw [List.getElem?_eq_getElem hj, e] at hy; cases hy; exact ltM_irr _)
    rw [this, List.getElem?_eq_getElem hj, e]
  · rintro ⟨x, hx, e⟩; exact ⟨x, List.mem_of_getElem? hx, e⟩
theorem rlast56 {H : Heap} {p : Nat} {tK tL : T} {K : List Kd} {L : List Nm} {G : Nat → Prop} (h : RC H p tK tL K L G) (hl : L.length ≤ 8000000) (k : ByteArray) : W env (.call 56 [.ptr p 0, .str k]) H (Ret (.int .u64 ((ldAb K L).last k : Nat)) H) := by
  have hlen := len_mut h.mL
  have hlast : ∀ ls : List Nm, (ldAb K ls).last k = (mlook ls k).getD 0 := fun _ => rfl
  refine W.fnI rfl rfl rfl ?_
  simp -implicitDefEqProofs only [ir56, op, ef, cl, sq, reduceIte, q1, q2, q3, q4, q5, q6, q7, q8, q9, S1]
  refine W.loopV [(0, _), (1, _)] (fun (i : Nat) R H' => H' = H ∧ R 5 = .int .i64 i ∧ i ≤ L.length ∧ mlook L k = mlook (L.drop i) k) (fun i => L.length - i) 0 ⟨rfl, rfl, Nat.zero_le _, by simp⟩ ?_
  rintro i R H1 ⟨rfl, g5, hi, hno⟩
  by_cases hlt : i < L.length
  · obtain ⟨x, hx⟩ := getP hlt
    obtain ⟨c, hc, ia, _⟩ := mut_n (enc := eW) (n := 2) (fun _ => rfl) (by decide) h.mL hx
    have wsi := wrap_succ (show i < 9223372036854775807 by omega)
    have r0 : ldcB 1 (i * 2 + 0) (some (.cells (msC eW L))) = some [.str x.1] := msC_get (enc := eW) (n := 2) (fun _ => rfl) hx 0 1 (by decide)
    have r1 : ldcB 1 (i * 2 + 1) (some (.cells (msC eW L))) = some [.int .u64 x.2] := msC_get (enc := eW) (n := 2) (fun _ => rfl) hx 1 1 (by decide)
    have he : mlook (L.drop i) k = if k = x.1 then some x.2 else mlook (L.drop (i + 1)) k := by
      rw [drop_at hx, mlook_cons]
    by_cases h1 : x.1 = k
    · rw [if_pos h1.symm] at he
      have : (ldAb K L).last k = x.2 := by rw [hlast, hno, he]; rfl
      simp -implicitDefEqProofs only [mkR_nil, mkR_cons, op, ef, cl, sq, reduceIte, q1, q2, q3, q4, q5, q6, q7, q8, q9, S1, h.hp, hlen, g5, hlt, natOf_nat, ia, hc, r0, r1, h1, this]
    · rw [if_neg fun h => h1 h.symm] at he
      simp -implicitDefEqProofs only [mkR_nil, mkR_cons, op, ef, cl, sq, reduceIte, q1, q2, q3, q4, q5, q6, q7, q8, q9, S1, h.hp, hlen, g5, hlt, natOf_nat, ia, hc, r0, r1, h1, wsi]
      exact ⟨i + 1, by omega, rfl, hlt, by rw [hno, he]⟩
  · have hie : i = L.length := by omega
    subst hie
    have : (ldAb K L).last k = 0 := by rw [hlast, hno, List.drop_length]; rfl
    simp -implicitDefEqProofs only [mkR_nil, mkR_cons, op, ef, cl, sq, reduceIte, q1, q2, q3, q4, q5, q6, q7, q8, q9, S1, h.hp, hlen, g5, hlt, this]
    rfl
set_option maxHeartbeats 1000000 in
theorem rfind34 {H : Heap} {p : Nat} {tK tL : T} {K : List Kd} {L : List Nm} {G : Nat → Prop} (h : RC H p tK tL K L G) (hs : keptUp K) (hl : K.length ≤ 8000000) (m : Nm) : W env (.call 34 [.ptr p 0, .str m.1, .int .u64 m.2]) H (fun o H' => Ext H H' ∧ o = .val (.tup [.int .i64 (fiK K m), .bool (memN (K.map Kd.nm) m)])) := by
  have hlen := len_mut h.mK
  refine W.fnI rfl rfl rfl ?_
  simp -implicitDefEqProofs only [ir34, op, ef, cl, sq, reduceIte, q1, q2, q3, q4, q5, q6, q7, q8, q9, S1]
  refine W.loopX 0 [(0, _), (1, _), (2, _)] (fun (i : Nat) R H' => At H' (fun H' => Ext H H') ∧ R 8 = .int .i64 i ∧ i ≤ K.length ∧ ∀ j x, j < i → K[j]? = some x → ltM x.nm m = true) (fun i => K.length - i) 0
    (fun R H' => At H' (fun H' => Ext H H') ∧ R 8 = .int .i64 (fiK K m)) ⟨.i Ext.rfl', rfl, Nat.zero_le _, fun j x hj => by omega⟩ ?_ ?_
  · rintro i R H1 ⟨hx1, g8, hi, hall⟩
    have hx1 : Ext H H1 := hx1
    have h1 := h.ext hx1
    by_cases hlt : i < K.length
    · obtain ⟨x, hx⟩ := getP hlt
      obtain ⟨c, hc, ia, _⟩ := mut_n (enc := eKd) (n := 5) (fun _ => rfl) (by decide) h1.mK hx
      have wsi := wrap_succ (show i < 9223372036854775807 by omega)
      have r0 : ldcB 4 (i * 5 + 0) (some (.cells (msC eKd K))) = some [.str x.nm.1, .int .u64 x.nm.2, .str x.value, .sl x.kk (x.keys.map eS)] := msC_get (enc := eKd) (n := 5) (fun _ => rfl) hx 0 4 (by decide)
      simp -implicitDefEqProofs only [mkR_nil, mkR_cons, op, ef, cl, sq, reduceIte, q1, q2, q3, q4, q5, q6, q7, q8, q9, S1, h1.hp, hlen, g8, hlt, natOf_nat, ia, hc, r0]
      refine callB_of _ _ _ _ _ _ _ _ (rless32 x.nm m _ _ _ _ ⟨rfl, rfl, rfl, rfl⟩ _) ?_
      rintro u H2 ⟨hu, hx2⟩
      cases hu
      have hx2 : Ext H1 H2 := hx2
      cases hlm : ltM x.nm m
      · simp -implicitDefEqProofs only [mkR_nil, mkR_cons, op, ef, cl, sq, reduceIte, q1, q2, q3, q4, q5, q6, q7, q8, q9, S1, g8]
        refine ⟨.i (hx1.trans hx2), ?_⟩
        rw [fiK, tw_len hall hi fun y hy => by rw [hx] at hy; cases hy; exact hlm]
      · simp -implicitDefEqProofs only [mkR_nil, mkR_cons, op, ef, cl, sq, reduceIte, q1, q2, q3, q4, q5, q6, q7, q8, q9, S1, g8, wsi]
        refine ⟨i + 1, by omega, .i (hx1.trans hx2), rfl, hlt, fun j y hj hy => ?_⟩
        by_cases e : j = i
        · subst e; rw [hx] at hy; cases hy; exact hlm
        · exact hall j y (by omega) hy
    · have hie : i = K.length := by omega
      subst hie
      simp -implicitDefEqProofs only [mkR_nil, mkR_cons, op, ef, cl, sq, reduceIte, q1, q2, q3, q4, q5, q6, q7, q8, q9, S1, h1.hp, hlen, g8, hlt]
      refine ⟨.i hx1, ?_⟩
      rw [fiK, tw_len hall hi fun y hy => by have := (List.getElem?_eq_some_iff.1 hy).1; omega]
  · rintro R H1 ⟨hx1, g8⟩
    have hx1 : Ext H H1 := hx1
    have h1 := h.ext hx1
    have hmem := fiK_mem hs m
    have no : (∀ x, K[fiK K m]? = some x → x.nm ≠ m) → memN (K.map Kd.nm) m = false := fun hh => by
      cases e : memN (K.map Kd.nm) m with
      | false => rfl
      | true => obtain ⟨x, hx, e2⟩ := hmem.1 e; exact absurd e2 (hh x hx)
    by_cases hlt : fiK K m < K.length
    · obtain ⟨x, hx⟩ := getP hlt
      obtain ⟨c, hc, ia, _⟩ := mut_n (enc := eKd) (n := 5) (fun _ => rfl) (by decide) h1.mK hx
      have r0 : ldcB 1 (fiK K m * 5 + 0 + 0) (some (.cells (msC eKd K))) = some [.str x.key] := msC_get (enc := eKd) (n := 5) (fun _ => rfl) hx 0 1 (by decide)
      have r1 : ldcB 1 (fiK K m * 5 + 0 + 1) (some (.cells (msC eKd K))) = some [.int .u64 x.id] := msC_get (enc := eKd) (n := 5) (fun _ => rfl) hx 1 1 (by decide)
      by_cases e1 : x.key = m.1
      · by_cases e2 : x.id = m.2
        · have ht : memN (K.map Kd.nm) m = true := hmem.2 ⟨x, hx, Prod.ext e1 e2⟩
          simp -implicitDefEqProofs only [mkR_nil, mkR_cons, op, ef, cl, sq, reduceIte, q1, q2, q3, q4, q5, q6, q7, q8, q9, S1, h1.hp, hlen, g8, hlt, natOf_nat, ia, hc, r0, r1, e1, e2, ht]
          exact hx1
        · have hf := no fun y hy e => by rw [hx] at hy; cases hy; exact e2 (congrArg Prod.snd e)
          simp -implicitDefEqProofs only [mkR_nil, mkR_cons, op, ef, cl, sq, reduceIte, q1, q2, q3, q4, q5, q6, q7, q8, q9, S1, h1.hp, hlen, g8, hlt, natOf_nat, ia, hc, r0, r1, e1, e2, hf]
          exact hx1
      · have hf := no fun y hy e => by rw [hx] at hy; cases hy; exact e1 (congrArg Prod.fst e)
        simp -implicitDefEqProofs only [mkR_nil, mkR_cons, op, ef, cl, sq, reduceIte, q1, q2, q3, q4, q5, q6, q7, q8, q9, S1, h1.hp, hlen, g8, hlt, natOf_nat, ia, hc, r0, r1, e1, hf]
        exact hx1
    · have hf := no fun y hy e => by have := (List.getElem?_eq_some_iff.1 hy).1; omega
      simp -implicitDefEqProofs only [mkR_nil, mkR_cons, op, ef, cl, sq, reduceIte, q1, q2, q3, q4, q5, q6, q7, q8, q9, S1, h1.hp, hlen, g8, hlt, hf]
      exact hx1
end Go.Proofs.YtbkgokabcnogdaaGreat.St
end

section
namespace Go.Proofs.YtbkgokabcnogdaaGreat.St
open Go.Rmp Go.Proofs.YtbkgokabcnogdaaGreat.Ir
set_option maxRecDepth 10000
theorem app_nil {α : Type} {enc : α → List T} {n bytes : Nat} (he : ∀ x, (enc x).map T.erase = enc x) (l : List α) (hr : roomOk l.length bytes = true) (H : Heap) : ∃ k' H', appT H bytes .nil [] (l.map enc) = some (.sl k' (l.map enc), H') ∧ Ext H H' ∧ KOk k' l := by
  cases l with
  | nil => exact ⟨.nil, H, rfl, Ext.rfl', fun _ => rfl⟩
  | cons a l =>
    obtain ⟨k', H', ha, hap, hst⟩ := app_ok (n0 := H.length) (H := H) (bytes := bytes) (k := .nil) [] ((a :: l).map enc) (.inl rfl) (Nat.le_refl _) (by simp) (by simpa using hr)
    have e : ((a :: l).map enc).map (·.map T.erase) = (a :: l).map enc := by
      rw [List.map_map]; exact List.map_congr_left fun x _ => he x
    rw [List.nil_append, e] at ha
    refine ⟨k', H', ha, hst.ext H (Nat.le_refl _) Ext.rfl', fun h => absurd h (app_nn ha (by simp))⟩
theorem rown33 (k : ByteArray) (n : Nat) (v : ByteArray) (kk : SK) (ks : List ByteArray) (hl : ks.length ≤ 8000000) (H : Heap) : W env (.call 33 [.agg [.str k, .int .u64 n, .str v, .sl kk (ks.map eS)]]) H (fun o H' => Ext H H' ∧ ∃ kk', KOk kk' ks ∧ o = .val (.agg [.str k, .int .u64 n, .str v, .sl kk' (ks.map eS)])) := by
  have h1 := all_map (enc := eS) (n := 1) (fun _ => rfl) ks
  obtain ⟨k', H3, ha, hx, hko⟩ := app_nil (enc := eS) (n := 1) (bytes := 16) (fun _ => rfl) ks (roomS (by omega) (by omega)) (H ++ [B.cells [.str k, .int .u64 n, .str v, .sl kk (ks.map eS)]] ++ [B.cells [.str ⟨#[]⟩, .int .u64 0, .str ⟨#[]⟩, .sl .nil []]])
  have c0 : H3[H.length]? = some (.cells [.str k, .int .u64 n, .str v, .sl kk (ks.map eS)]) := hx.get (by rw [g_app (by simp), g_tail rfl])
  have c1 : H3[H.length + 1]? = some (.cells [.str ⟨#[]⟩, .int .u64 0, .str ⟨#[]⟩, .sl .nil []]) := hx.get (g_tail (by simp))
  have l0 := glt c0
  have l1 := glt c1
  have c2 : ∀ x, (H3.set H.length x)[H.length + 1]? = some (.cells [.str ⟨#[]⟩, .int .u64 0, .str ⟨#[]⟩, .sl .nil []]) := fun x => by rw [g_ne (by omega)]; exact c1
  have hxx : Ext H H3 := ((Ext.rfl'.app _).app _).trans hx
  refine W.fnI rfl rfl rfl ?_
  simp -implicitDefEqProofs only [ir33, op, ef, cl, sq, reduceIte, q1, q2, q3, q4, q5, q6, q7, q8, q9, S1, S2, S3, h1, ha, c0, c1, c2, l0, l1, List.length_set]
  exact ⟨(hxx.set (by simp) _).set (by simp) _, k', hko, rfl⟩
theorem elems_mut {α : Type} {enc : α → List T} {n n0 : Nat} (hn : ∀ x, (enc x).length = n) {H : Heap} {t : T} {l : List α} (h : Mut enc n n0 H t l) : elemsOf H n t = some (l.map enc) := by
  rcases h with ⟨rfl, rfl⟩ | ⟨b, rfl, hb, _⟩
  · rfl
  · have := elems_sub hn hb 0 l.length (by omega)
    simpa using this
theorem rkept11 {H : Heap} {p : Nat} {tK tL : T} {K : List Kd} {L : List Nm} {G : Nat → Prop} (h : RC H p tK tL K L G) (hl : K.length ≤ 8000000) : W env (.call 11 [.ptr p 0]) H (fun o H' => Ext H H' ∧ ∃ kw, KOk kw K ∧ o = .val (.sl kw (K.map eKd))) := by
  have hlen := len_mut h.mK
  refine W.fnI rfl rfl rfl ?_
  simp -implicitDefEqProofs only [ir11, op, ef, cl, sq, reduceIte, q1, q2, q3, q4, q5, q6, q7, q8, q9, S1]
  refine W.loopV [(0, _)] (fun (i : Nat) R H' => At H' (fun H' => ∃ kw, R 3 = .sl kw ((K.take i).map eKd) ∧ Ext H H' ∧ Apd H.length H' kw ∧ KOk kw (K.take i)) ∧ R 4 = .int .i64 i ∧ i ≤ K.length) (fun i => K.length - i) 0 ⟨.i ⟨.nil, rfl, Ext.rfl', apd_nil _ _, fun _ => rfl⟩, rfl, Nat.zero_le _⟩ ?_
  rintro i R H1 ⟨⟨kw, g3, hx1, hap, hko⟩, g4, hi⟩
  have hx1 : Ext H H1 := hx1
  have h1 := h.ext hx1
  by_cases hlt : i < K.length
  · obtain ⟨x, hx⟩ := getP hlt
    have hxk := h.ko x (List.mem_of_getElem? hx)
    obtain ⟨c, hc, ia, _⟩ := mut_n (enc := eKd) (n := 5) (fun _ => rfl) (by decide) h1.mK hx
    have wsi := wrap_succ (show i < 9223372036854775807 by omega)
    have r0 : ldcB 4 (i * 5 + 0) (some (.cells (msC eKd K))) = some [.str x.nm.1, .int .u64 x.nm.2, .str x.value, .sl x.kk (x.keys.map eS)] := msC_get (enc := eKd) (n := 5) (fun _ => rfl) hx 0 4 (by decide)
    have r4 : ldcB 1 (i * 5 + 4) (some (.cells (msC eKd K))) = some [.int .i64 x.stamp] := msC_get (enc := eKd) (n := 5) (fun _ => rfl) hx 4 1 (by decide)
    simp -implicitDefEqProofs only [mkR_nil, mkR_cons, op, ef, cl, sq, reduceIte, q1, q2, q3, q4, q5, q6, q7, q8, q9, S1, h1.hp, hlen, g4, hlt, natOf_nat, ia, hc, r0, r4]
    refine callB_of _ _ _ _ _ _ _ _ (rown33 _ _ _ _ x.keys (by omega) _) ?_
    rintro u H2 ⟨hx2, kk', hkk, hu⟩
    cases hu
    have hx2 : Ext H1 H2 := hx2
    have hall := all_map (enc := eKd) (n := 5) (fun _ => rfl) (K.take i)
    obtain ⟨k', H5, ha, hap', hst⟩ := app_ok (bytes := 72) ((K.take i).map eKd) [[T.str x.nm.1, .int .u64 x.nm.2, .str x.value, .sl .arg (x.keys.map eS), .int .i64 x.stamp]] (hap.ext hx2) (by have := (hx1.trans hx2).len; omega) (by simp) (roomT (by simp -implicitDefEqProofs only [List.length_cons, List.length_nil, List.length_map, List.length_take]; omega))
    have hnn := app_nn ha (by simp)
    simp -implicitDefEqProofs only [op, ef, cl, sq, reduceIte, q1, q2, q3, q4, q5, q6, q7, q8, q9, S1] at ha
    have hc2 := hx2.get hc
    simp -implicitDefEqProofs only [mkR_nil, mkR_cons, op, ef, cl, sq, reduceIte, q1, q2, q3, q4, q5, q6, q7, q8, q9, S1, g3, g4, hall, ha, wsi, (h1.ext hx2).hp, hc2, r4]
    refine ⟨i + 1, by omega, .i ⟨k', ?_, hst.ext H (Nat.le_refl _) (hx1.trans hx2), hap', fun h => absurd h hnn⟩, rfl, hlt⟩
    rw [take_sn hx, List.map_append]
    simp -implicitDefEqProofs only [List.map_cons, List.map_nil, eKd, hxk.1]; rfl
  · have hie : i = K.length := by omega
    subst hie
    rw [List.take_length] at g3 hko
    simp -implicitDefEqProofs only [mkR_nil, mkR_cons, op, ef, cl, sq, reduceIte, q1, q2, q3, q4, q5, q6, q7, q8, q9, S1, h1.hp, hlen, g3, g4, hlt]
    exact ⟨hx1, kw, hko, rfl⟩
theorem rlasts14 {H : Heap} {p : Nat} {tK tL : T} {K : List Kd} {L : List Nm} {G : Nat → Prop} (h : RC H p tK tL K L G) (hl : L.length ≤ 8000000) : W env (.call 14 [.ptr p 0]) H (fun o H' => Ext H H' ∧ ∃ kw, KOk kw L ∧ o = .val (.sl kw (L.map eW))) := by
  obtain ⟨k', H', ha, hx, hko⟩ := app_nil (enc := eW) (n := 2) (bytes := 24) (fun _ => rfl) L (roomT (by omega)) H
  have he := elems_mut (enc := eW) (n := 2) (fun _ => rfl) h.mL
  refine W.fnI rfl rfl rfl ?_
  simp -implicitDefEqProofs only [ir14, op, ef, cl, sq, reduceIte, q1, q2, q3, q4, q5, q6, q7, q8, q9, S1, h.hp, he, ha]
  exact ⟨hx, k', hko, rfl⟩
theorem rloaded31 {H : Heap} {p : Nat} {tK tL : T} {K : List Kd} {L : List Nm} {G : Nat → Prop} (h : RC H p tK tL K L G) (hl : L.length ≤ 8000000) (x : Kd) (hx : KdOk x) : W env (.call 31 [.ptr p 0, .agg (eKd x)]) H (fun o H' => Ext H H' ∧ ∃ t, o = .val (.bool t) ∧ (t = true ↔ LdOk (ldAb K L) x)) := by
  obtain ⟨H1, hH1⟩ : ∃ H1, H1 = H ++ [B.cells (eKd x)] ++ [B.cells [.str x.key, .int .u64 x.id, .str x.value, .sl x.kk (x.keys.map eS)]] := ⟨_, rfl⟩
  have hxx : Ext H H1 := by rw [hH1]; exact (Ext.rfl'.app _).app _
  have c0 : H1[H.length]? = some (.cells (eKd x)) := by rw [hH1, g_app (by simp), g_tail rfl]
  have c1 : H1[H.length + 1]? = some (.cells [.str x.key, .int .u64 x.id, .str x.value, .sl x.kk (x.keys.map eS)]) := by rw [hH1]; exact g_tail (by simp)
  simp -implicitDefEqProofs only [eKd] at hH1 c0
  have no : ¬ LdOk (ldAb K L) x → ((false : Bool) = true ↔ LdOk (ldAb K L) x) := fun h => ⟨fun e => (by cases e), fun e => absurd e h⟩
  refine W.fnI rfl rfl rfl ?_
  by_cases hid : x.id < 65536
  · simp -implicitDefEqProofs only [ir31, eKd, op, ef, cl, sq, reduceIte, q1, q2, q3, q4, q5, q6, q7, q8, q9, S1, S2, S3]
    rw [← hH1]
    refine callB_of _ _ _ _ _ _ _ _ (rid68 x.id _) ?_
    rintro u H2 ⟨hu, rfl⟩
    cases hu
    have hd : decide (65536 ≤ x.id) = false := decide_eq_false (by omega)
    simp -implicitDefEqProofs only [op, ef, cl, sq, reduceIte, q1, q2, q3, q4, q5, q6, q7, q8, q9, S1, hd, c0, c1]
    exact ⟨hxx, false, rfl, no fun h => by have := h.1; omega⟩
  have hd : decide (65536 ≤ x.id) = true := decide_eq_true (by omega)
  simp -implicitDefEqProofs only [ir31, eKd, op, ef, cl, sq, reduceIte, q1, q2, q3, q4, q5, q6, q7, q8, q9, S1, S2, S3]
  rw [← hH1]
  refine callB_of _ _ _ _ _ _ _ _ (rid68 x.id _) ?_
  rintro u H2 ⟨hu, rfl⟩
  cases hu
  simp -implicitDefEqProofs only [op, ef, cl, sq, reduceIte, q1, q2, q3, q4, q5, q6, q7, q8, q9, S1, hd, c0, c1]
  refine callB_of _ _ _ _ _ _ _ _ (rwhole69 x.kk x.keys _ (by have := hx.2; omega)) ?_
  rintro u H2 ⟨hu, rfl⟩
  cases hu
  cases hg : goodB x.keys
  · simp -implicitDefEqProofs only [op, ef, cl, sq, reduceIte, q1, q2, q3, q4, q5, q6, q7, q8, q9, S1, c0, c1]
    exact ⟨hxx, false, rfl, no fun h => by have := goodB_iff.2 h.2.1; rw [hg] at this; cases this⟩
  have hgk := goodB_iff.1 hg
  simp -implicitDefEqProofs only [op, ef, cl, sq, reduceIte, q1, q2, q3, q4, q5, q6, q7, q8, q9, S1, c0, c1]
  refine callB_of _ _ _ _ _ _ _ _ (rhas70 x.kk x.keys x.key _ (by have := hx.2; omega)) ?_
  rintro u H2 ⟨hu, rfl⟩
  cases hu
  cases hm : memB x.keys x.key
  · simp -implicitDefEqProofs only [op, ef, cl, sq, reduceIte, q1, q2, q3, q4, q5, q6, q7, q8, q9, S1, c0, c1]
    exact ⟨hxx, false, rfl, no fun h => memB_no.1 hm h.2.2.1⟩
  by_cases hsz : 65535 < x.value.size
  · simp -implicitDefEqProofs only [op, ef, cl, sq, reduceIte, q1, q2, q3, q4, q5, q6, q7, q8, q9, S1, hsz, c0, c1]
    exact ⟨hxx, false, rfl, no fun h => by have := h.2.2.2.1; omega⟩
  have ok : ∀ t : Bool, (t = true ↔ if x.id < (ldAb K L).last x.key then TickOk x.stamp else x.stamp = -1) → (t = true ↔ LdOk (ldAb K L) x) := fun t ht => by
    rw [ht]
    exact ⟨fun h => ⟨by omega, hgk, memB_iff.1 hm, by omega, h⟩, fun h => h.2.2.2.2⟩
  simp -implicitDefEqProofs only [op, ef, cl, sq, reduceIte, q1, q2, q3, q4, q5, q6, q7, q8, q9, S1, hsz, c0, c1]
  refine callB_of _ _ _ _ _ _ _ _ (rlast56 (h.ext hxx) hl x.key) ?_
  rintro u H2 ⟨hu, rfl⟩
  cases hu
  by_cases hlt : x.id < (ldAb K L).last x.key
  · simp -implicitDefEqProofs only [op, ef, cl, sq, reduceIte, q1, q2, q3, q4, q5, q6, q7, q8, q9, S1, hlt, c0, c1]
    refine callB_of _ _ _ _ _ _ _ _ (rtick71 x.stamp _) ?_
    rintro u H2 ⟨hu, rfl⟩
    cases hu
    simp -implicitDefEqProofs only [op, ef, cl, sq, reduceIte, q1, q2, q3, q4, q5, q6, q7, q8, q9, S1]
    exact ⟨hxx, _, rfl, ok _ (by rw [if_pos hlt]; simp [TickOk])⟩
  · simp -implicitDefEqProofs only [op, ef, cl, sq, reduceIte, q1, q2, q3, q4, q5, q6, q7, q8, q9, S1, hlt, c0, c1]
    exact ⟨hxx, _, rfl, ok _ (by rw [if_neg hlt]; simp)⟩
end Go.Proofs.YtbkgokabcnogdaaGreat.St
end

section
namespace Go.Proofs.YtbkgokabcnogdaaGreat.St
open Go.Rmp Go.Proofs.YtbkgokabcnogdaaGreat.Ir
set_option maxRecDepth 10000
theorem lastsA2 {b : Bk} {a : Ab} {F : Nat → Prop} {m : Nat} {H : Heap} (h : AtS H b a F m) (hn : m ≤ 8000000) (hlv : ∀ k n, a.l k = some n → a.has (k, n) = true) : W env (.call 13 [.ptr b.s 0]) H (fun o H' => Ext H H' ∧ ∃ k l, KOk k l ∧ LNames a l ∧ l.length ≤ m ∧ o = .val (.sl k ((l.map (lnm a)).map eW))) := by
  obtain ⟨s, sh, hi, rfl, h4, h5⟩ := h
  have hl : s.ls.length ≤ s.vs.length := by
    have hnd : s.ls.Nodup := by
      have := hi.ndl
      exact (List.pairwise_map.1 this).imp fun {a b} h e => h (by rw [e])
    have := nd_le (l := s.ls) (l' := s.vs.map (·.1)) hnd fun e he => by
      have h1 := mlook_of hi.ndl he
      have h2 := hlv e.1 e.2 h1
      rw [mem_keys]
      simpa [Ab.has, absS] using h2
    simpa using this
  refine W.use (lastsF24 b s F H sh hi (by omega)) fun o H' ⟨hx, k, l, hko, hu, hp, hpw⟩ => ⟨hx, k, l, hko, ⟨hpw, fun x => ?_⟩, ?_, ?_⟩
  · rw [hp.mem_iff, mem_keys]; rfl
  · rw [hp.length_eq, List.length_map]; omega
  · rw [hu, lastL, List.map_map, List.map_map]; rfl
theorem cells_mut {α : Type} {enc : α → List T} {n n0 : Nat} {H : Heap} {t : T} {l : List α} (h : Mut enc n n0 H t l) : t.cells? = some [t] := by
  rcases h with ⟨_, rfl⟩ | ⟨c, rfl, _⟩ <;> rfl
theorem RC.setK {H H' : Heap} {p : Nat} {tK tL t' : T} {K K' : List Kd} {L : List Nm} {G : Nat → Prop} (h : RC H p tK tL K L G) (hf : Frm (fun c => tb tK = some c) H H') (hm : Mut eKd 5 0 H' t' K') (hn : ∀ c, tb t' = some c → H.length ≤ c) (hko : ∀ x ∈ K', x.kk = .arg ∧ x.keys.length ≤ 1024) :
    H'[p]? = some (.cells [tK, tL]) ∧ Frm G H (H'.set p (.cells [t', tL])) ∧ ∃ G', RC (H'.set p (.cells [t', tL])) p t' tL K' L G' ∧ Gro G G' H (H'.set p (.cells [t', tL])) := by
  have hp := hf.get h.hp fun hc => (h.gK _ hc).2 rfl
  have lp := glt hp
  have lp0 := glt h.hp
  have f1 : Frm (fun c => c = p) H' (H'.set p (.cells [t', tL])) := (Frm.refl (fun c => c = p) H').set (.inl rfl) _
  have tK' : ∀ c, tb t' = some c → c ≠ p := fun c hc e => by have := hn c hc; omega
  refine ⟨hp, (hf.mono fun c hc => (h.gK c hc).1).set (.inl h.gp) _, fun c => c = p ∨ tb t' = some c ∨ tb tL = some c, ⟨g_eq lp, mut_frm hm f1 tK', mut_frm (mut_frm h.mL hf fun c hc hc' => h.ne c hc' hc) f1 fun c hc => (h.gL c hc).2, .inl rfl, fun c hc => ⟨.inr (.inl hc), tK' c hc⟩, fun c hc => ⟨.inr (.inr hc), (h.gL c hc).2⟩, fun c hc hc' => ?_, hko⟩, fun c hc => ?_⟩
  · have := hn c hc; have := glt (mut_blk h.mL hc'); omega
  · rcases hc with rfl | hc | hc
    · exact .inl h.gp
    · exact .inr ⟨hn c hc, by rw [List.length_set]; exact glt (mut_blk hm hc)⟩
    · exact .inl (h.gL c hc).1
def RP (H0 H : Heap) (p : Nat) (K : List Kd) (L : List Nm) : Prop := ∃ tK tL G, RC H p tK tL K L G ∧ Frm (fun _ => False) H0 H ∧ ∀ c, G c → H0.length ≤ c
def ak (x : Kd) : Kd := { x with kk := .arg }
theorem ak_up {l : List Kd} (h : keptUp l) : keptUp (l.map ak) := List.pairwise_map.2 h
theorem ak_nm (l : List Kd) : (l.map ak).map Kd.nm = l.map Kd.nm := by simp [ak, Kd.nm, Function.comp_def]
set_option maxHeartbeats 2000000 in
theorem rload7 (k1 k2 : SK) (kept : List Kd) (lasts : List Nm) (hkl : kept.length ≤ 8000000) (hll : lasts.length ≤ 8000000) (hko : ∀ x ∈ kept, KdOk x) (H : Heap) : W env (.call 7 [.sl k1 (kept.map eKd), .sl k2 (lasts.map eW)]) H (fun o H' =>
    (LoadOk kept lasts ∧ ∃ p, o = .val (.tup [.ptr p 0, .int .i64 0]) ∧ RP H H' p (kept.map ak) lasts) ∨ (¬ LoadOk kept lasts ∧ o = .val (.tup [.nilp, .int .i64 1]) ∧ Ext H H')) := by
  obtain ⟨t0, H0, ha0, hm0, hf0, hb0⟩ := appM_any (enc := eW) (n := 2) (fun _ => rfl) (bytes := 24) lasts (mut_nil eW 2 0 H) (roomT (by simp -implicitDefEqProofs only [List.length_nil]; omega))
  have hf0 : Frm (fun _ => False) H H0 := hf0.mono fun c hc => by cases hc
  have hall := all_map (enc := eW) (n := 2) (fun _ => rfl) lasts
  have lh := hf0.1
  have rc0 : RC (H0 ++ [.cells [.sl .nil [], t0]]) H0.length (.sl .nil []) t0 (([] : List Kd).map ak) lasts (fun c => H.length ≤ c) := ⟨g_tail rfl, mut_nil _ _ _ _, hm0.ext ⟨_, rfl⟩, lh, fun c hc => by (cases hc), fun c hc => ⟨by
      rcases hb0 c hc with ⟨h, _⟩ | h
      · cases h
      · exact h, by have := glt (mut_blk hm0 hc); omega⟩, fun c hc => by (cases hc), fun x hx => by (cases hx)⟩
  rw [List.nil_append] at hm0
  obtain ⟨p, hp⟩ : ∃ p, p = H0.length := ⟨_, rfl⟩
  have rp0 : RP H (H0 ++ [.cells [.sl .nil [], t0]]) p ((kept.take 0).map ak) lasts := ⟨_, _, _, by rw [hp]; exact rc0, hf0.app _, fun _ h => h⟩
  refine W.fnI rfl rfl rfl ?_
  simp -implicitDefEqProofs only [ir7, op, ef, cl, sq, reduceIte, q1, q2, q3, q4, q5, q6, q7, q8, q9, S1, el_sl, hall, fgt, ha0, cells_mut hm0]
  rw [← hp]
  refine W.loopX 0 [(0, _), (1, _), (6, _)] (fun (j : Nat) R H' => At H' (fun H' => RP H H' p ((kept.take j).map ak) lasts ∧ keptUp (kept.take j) ∧ ∀ x ∈ kept.take j, LdOk (ldAb [] lasts) x) ∧ R 7 = .int .i64 j ∧ j ≤ kept.length) (fun j => kept.length - j) 0
    (fun R H' => At H' (fun H' => RP H H' p (kept.map ak) lasts ∧ keptUp kept ∧ ∀ x ∈ kept, LdOk (ldAb [] lasts) x)) ⟨.i ⟨rp0, by rw [List.take_zero]; exact List.Pairwise.nil, by simp⟩, rfl, Nat.zero_le _⟩ ?_ ?_
  · rintro j R H3 ⟨⟨⟨tK, tL, G, h3, f3, n3⟩, hup, hld⟩, g7, hj⟩
    by_cases hlt : j < kept.length
    · obtain ⟨x, hx⟩ := getP hlt
      have ix := iadX (e := eKd) (n := 5) (fun _ => rfl) (by decide) (k := k1) hx
      have wsj := wrap_succ (show j < 9223372036854775807 by omega)
      have hst := pw_take_s (R := fun x y : Kd => ltM x.nm y.nm = true) (fun a b c h1 h2 => ltM_trans h1 h2) hx
      have hxko := hko x (List.mem_of_getElem? hx)
      have hbad : ¬ (keptUp (kept.take (j + 1)) ∧ LdOk (ldAb [] lasts) x) → ¬ LoadOk kept lasts := fun h hl => h ⟨hl.2.1.sublist (List.take_sublist _ _), hl.2.2.1 x (List.mem_of_getElem? hx)⟩
      have lld : (ldAb ((kept.take j).map ak) lasts).l = (ldAb [] lasts).l := rfl
      have ld5 : ∀ Hx, ldc Hx 5 (.iptr (eKd x)) = some (eKd x) := fun _ => rfl
      have x0 : fadT 0 (.iptr (eKd x)) = some (.iptr (eKd x)) := rfl
      have x4 : fadT 4 (.iptr (eKd x)) = some (.iptr [.int .i64 x.stamp]) := rfl
      have ld4 : ∀ (x : Kd) Hx, ldc Hx 4 (.iptr (eKd x)) = some [.str x.key, .int .u64 x.id, .str x.value, .sl x.kk (x.keys.map eS)] := fun _ _ => rfl
      simp -implicitDefEqProofs only [mkR_nil, mkR_cons, op, ef, cl, sq, reduceIte, q1, q2, q3, q4, q5, q6, q7, q8, q9, S1, List.length_map, g7, hlt, natOf_nat, ix, ld5]
      refine callB_of _ _ _ _ _ _ _ _ (rloaded31 h3 hll x hxko) ?_
      rintro u H4 ⟨hx4, t, hu, ht⟩
      cases hu
      have hx4 : Ext H3 H4 := hx4
      have htt := ht.trans (ldOk_l lld x)
      have h4 := h3.ext hx4
      have f4 := f3.ext hx4
      cases t
      · simp -implicitDefEqProofs only [mkR_nil, mkR_cons, op, ef, cl, sq, reduceIte, q1, q2, q3, q4, q5, q6, q7, q8, q9, S1]
        exact .inr ⟨hbad fun h => (by have := htt.2 h.2; cases this), frm_ext f4⟩
      have hgk := (htt.1 rfl).2.1.2.2
      have add : ∀ H5, Ext H4 H5 → ∃ t' H6, appM H5 5 72 tK [eKd (ak x)] = some (t', H6) ∧ t'.cells? = some [t'] ∧ H6[p]? = some (.cells [tK, tL]) ∧ RP H (H6.set p (.cells [t', tL])) p ((kept.take (j + 1)).map ak) lasts := fun H5 hx5 => by
        have h5 := h4.ext hx5
        obtain ⟨t', H6, ha, hm, hf, hb⟩ := appM_any (enc := eKd) (n := 5) (fun _ => rfl) (bytes := 72) [ak x] h5.mK (roomT (by simp -implicitDefEqProofs only [List.length_cons, List.length_nil, List.length_map, List.length_take]; omega))
        obtain ⟨e1, e2, G', e3, e4⟩ := h5.setK hf hm (fun c hc => by
          rcases hb c hc with ⟨_, h⟩ | h
          · cases h
          · exact h) (fun y hy => by
          rcases List.mem_append.1 hy with hy | hy
          · exact h5.ko y hy
          · simp -implicitDefEqProofs only [List.mem_singleton] at hy; subst hy; exact ⟨rfl, hgk⟩)
        have l5 := (f4.ext hx5).1
        refine ⟨t', H6, ha, cells_mut hm, e1, t', tL, G', by rw [take_sn hx, List.map_append]; exact e3, (f4.ext hx5).more e2 n3, fun c hc => ?_⟩
        rcases e4 c hc with h | h
        · exact n3 c h
        · omega
      have hld' : ∀ z ∈ kept.take (j + 1), LdOk (ldAb [] lasts) z := fun z hz => by
        rw [take_sn hx] at hz
        rcases List.mem_append.1 hz with hz | hz
        · exact hld z hz
        · simp -implicitDefEqProofs only [List.mem_singleton] at hz; subst hz; exact htt.1 rfl
      by_cases hj0 : 0 < j
      · obtain ⟨y, hy⟩ := getP (l := kept) (i := j - 1) (by omega)
        have wp := wrap_pred (show j < 9223372036854775807 by omega) hj0
        have iy := iadX (e := eKd) (n := 5) (fun _ => rfl) (by decide) (k := k1) hy
        have y0 : fadT 0 (.iptr (eKd y)) = some (.iptr (eKd y)) := rfl
        simp -implicitDefEqProofs only [mkR_nil, mkR_cons, op, ef, cl, sq, reduceIte, q1, q2, q3, q4, q5, q6, q7, q8, q9, S1, List.length_map, g7, hj0, wp, natOf_nat, ix, iy, x0, y0, ld4]
        refine callB_of _ _ _ _ _ _ _ _ (rless32 y.nm x.nm _ _ _ _ ⟨rfl, rfl, rfl, rfl⟩ _) ?_
        rintro u H5 ⟨hu, hx5⟩
        cases hu
        have hx5 : Ext H4 H5 := hx5
        have h5 := h4.ext hx5
        cases hc : ltM y.nm x.nm
        · simp -implicitDefEqProofs only [mkR_nil, mkR_cons, op, ef, cl, sq, reduceIte, q1, q2, q3, q4, q5, q6, q7, q8, q9, S1]
          exact .inr ⟨hbad fun h => (by have := (hst.1 h.1).2 hj0 y hy; rw [hc] at this; cases this), frm_ext (f4.ext hx5)⟩
        · have hup' : keptUp (kept.take (j + 1)) := hst.2 ⟨hup, fun _ y' hy' => by rw [hy] at hy'; cases hy'; exact hc⟩
          simp -implicitDefEqProofs only [mkR_nil, mkR_cons, op, ef, cl, sq, reduceIte, q1, q2, q3, q4, q5, q6, q7, q8, q9, S1, g7, natOf_nat, ix, h5.hp, x0, x4, ld4, ldc1]
          refine callB_of _ _ _ _ _ _ _ _ (rown33 _ _ _ _ x.keys (by omega) _) ?_
          rintro u H6 ⟨hx6, kk, hkk, hu⟩
          cases hu
          have hx6 : Ext H5 H6 := hx6
          obtain ⟨t', H7, ha, ct, hp7, rp⟩ := add H6 (hx5.trans hx6)
          simp -implicitDefEqProofs only [eKd, ak] at ha
          have l7 := glt hp7
          have h6 := h5.ext hx6
          simp -implicitDefEqProofs only [mkR_nil, mkR_cons, op, ef, cl, sq, reduceIte, q1, q2, q3, q4, q5, q6, q7, q8, q9, S1, g7, natOf_nat, ix, h6.hp, x4, ldc1, el_sl, fgt_mut h6.mK, ha, ct, hp7, l7, wsj]
          exact ⟨j + 1, by omega, .i ⟨rp, hup', hld'⟩, rfl, hlt⟩
      · have hup' : keptUp (kept.take (j + 1)) := hst.2 ⟨hup, fun h => absurd h hj0⟩
        simp -implicitDefEqProofs only [mkR_nil, mkR_cons, op, ef, cl, sq, reduceIte, q1, q2, q3, q4, q5, q6, q7, q8, q9, S1, List.length_map, g7, hj0, natOf_nat, ix, h4.hp, x0, x4, ld4, ldc1]
        refine callB_of _ _ _ _ _ _ _ _ (rown33 _ _ _ _ x.keys (by omega) _) ?_
        rintro u H6 ⟨hx6, kk, hkk, hu⟩
        cases hu
        have hx6 : Ext H4 H6 := hx6
        obtain ⟨t', H7, ha, ct, hp7, rp⟩ := add H6 hx6
        simp -implicitDefEqProofs only [eKd, ak] at ha
        have l7 := glt hp7
        have h6 := h4.ext hx6
        simp -implicitDefEqProofs only [mkR_nil, mkR_cons, op, ef, cl, sq, reduceIte, q1, q2, q3, q4, q5, q6, q7, q8, q9, S1, g7, natOf_nat, ix, h6.hp, x4, ldc1, el_sl, fgt_mut h6.mK, ha, ct, hp7, l7, wsj]
        exact ⟨j + 1, by omega, .i ⟨rp, hup', hld'⟩, rfl, hlt⟩
    · have hje : j = kept.length := by omega
      subst hje
      rw [List.take_length] at h3 hup hld
      simp -implicitDefEqProofs only [mkR_nil, mkR_cons, op, ef, cl, sq, reduceIte, q1, q2, q3, q4, q5, q6, q7, q8, q9, S1, List.length_map, g7, hlt]
      exact .i ⟨⟨tK, tL, G, h3, f3, n3⟩, hup, hld⟩
  rintro R H3 ⟨⟨tK, tL, G, h3, f3, n3⟩, hkup, hld⟩
  have hku := ak_up hkup
  simp -implicitDefEqProofs only [mkR_nil, mkR_cons, op, ef, cl, sq, reduceIte, q1, q2, q3, q4, q5, q6, q7, q8, q9, S1]
  refine W.loopV [(1, _), (6, _)] (fun (i : Nat) R H' => At H' (fun H' => Ext H3 H' ∧ lastsUp (lasts.take i) ∧ ∀ e ∈ lasts.take i, ∃ x ∈ kept, x.nm = e) ∧ R 8 = .int .i64 i ∧ i ≤ lasts.length) (fun i => lasts.length - i) 0 ⟨.i ⟨Ext.rfl', by rw [List.take_zero]; exact List.Pairwise.nil, by simp⟩, rfl, Nat.zero_le _⟩ ?_
  rintro i R H4 ⟨⟨hx4, hup, hin⟩, g8, hi⟩
  have hx4 : Ext H3 H4 := hx4
  have h4 := h3.ext hx4
  by_cases hlt : i < lasts.length
  · obtain ⟨e, he⟩ := getP hlt
    have ie := iadX (e := eW) (n := 2) (fun _ => rfl) (by decide) (k := k2) he
    have wsi := wrap_succ (show i < 9223372036854775807 by omega)
    have hst := pw_take_s (R := fun a b : Nm => strLt a.1 b.1 = true) (fun a b c h1 h2 => lt_trans' h1 h2) he
    have hbad : ¬ (lastsUp (lasts.take (i + 1)) ∧ ∃ x ∈ kept, x.nm = e) → ¬ LoadOk kept lasts := fun h hl => h ⟨hl.1.sublist (List.take_sublist _ _), hl.2.2.2 e (List.mem_of_getElem? he)⟩
    simp -implicitDefEqProofs only [mkR_nil, mkR_cons, op, ef, cl, sq, reduceIte, q1, q2, q3, q4, q5, q6, q7, q8, q9, S1, List.length_map, g8, hlt, natOf_nat, ie, eW]
    refine callB_of _ _ _ _ _ _ _ _ (rfind34 h4 hku (by simpa using hkl) e) ?_
    rintro u H5 ⟨hx5, hu⟩
    cases hu
    have hx5 : Ext H4 H5 := hx5
    have hmm : memN ((kept.map ak).map Kd.nm) e = true ↔ ∃ x ∈ kept, x.nm = e := by rw [memN_iff, ak_nm, List.mem_map]
    cases hm : memN ((kept.map ak).map Kd.nm) e
    · simp -implicitDefEqProofs only [mkR_nil, mkR_cons, op, ef, cl, sq, reduceIte, q1, q2, q3, q4, q5, q6, q7, q8, q9, S1]
      exact .inr ⟨hbad fun h => (by have := hmm.2 h.2; rw [hm] at this; cases this), frm_ext (f3.ext (hx4.trans hx5))⟩
    have hin' : ∀ e ∈ lasts.take (i + 1), ∃ x ∈ kept, x.nm = e := fun z hz => by
      rw [take_sn he] at hz
      rcases List.mem_append.1 hz with hz | hz
      · exact hin z hz
      · simp -implicitDefEqProofs only [List.mem_singleton] at hz; subst hz; exact hmm.1 hm
    by_cases hi0 : 0 < i
    · obtain ⟨y, hy⟩ := getP (l := lasts) (i := i - 1) (by omega)
      have wp := wrap_pred (show i < 9223372036854775807 by omega) hi0
      have iy := iadX (e := eW) (n := 2) (fun _ => rfl) (by decide) (k := k2) hy
      cases hc : strLt y.1 e.1
      · simp -implicitDefEqProofs only [mkR_nil, mkR_cons, op, ef, cl, sq, reduceIte, q1, q2, q3, q4, q5, q6, q7, q8, q9, S1, g8, hi0, wp, natOf_nat, ie, iy, eW, hc]
        exact .inr ⟨hbad fun h => (by have := (hst.1 h.1).2 hi0 y hy; rw [hc] at this; cases this), frm_ext (f3.ext (hx4.trans hx5))⟩
      · simp -implicitDefEqProofs only [mkR_nil, mkR_cons, op, ef, cl, sq, reduceIte, q1, q2, q3, q4, q5, q6, q7, q8, q9, S1, g8, hi0, wp, natOf_nat, ie, iy, eW, hc, wsi]
        exact ⟨i + 1, by omega, .i ⟨hx4.trans hx5, hst.2 ⟨hup, fun _ y' hy' => by rw [hy] at hy'; cases hy'; exact hc⟩, hin'⟩, rfl, hlt⟩
    · simp -implicitDefEqProofs only [mkR_nil, mkR_cons, op, ef, cl, sq, reduceIte, q1, q2, q3, q4, q5, q6, q7, q8, q9, S1, g8, hi0, wsi]
      exact ⟨i + 1, by omega, .i ⟨hx4.trans hx5, hst.2 ⟨hup, fun h => absurd h hi0⟩, hin'⟩, rfl, hlt⟩
  · have hie : i = lasts.length := by omega
    subst hie
    rw [List.take_length] at hup hin
    simp -implicitDefEqProofs only [mkR_nil, mkR_cons, op, ef, cl, sq, reduceIte, q1, q2, q3, q4, q5, q6, q7, q8, q9, S1, List.length_map, g8, hlt]
    exact .inl ⟨⟨hup, hkup, hld, hin⟩, p, rfl, tK, tL, G, h4, f3.ext hx4, n3⟩
end Go.Proofs.YtbkgokabcnogdaaGreat.St
end

section
namespace Go.Proofs.YtbkgokabcnogdaaGreat.St
open Go.Rmp Go.Proofs.YtbkgokabcnogdaaGreat.Ir
set_option maxRecDepth 10000
theorem LoadOk.look {kept : List Kd} {lasts : List Nm} (h : LoadOk kept lasts) {x : Kd} (hx : x ∈ kept) : (ldAb kept lasts).v x.nm = some x.vd := by
  have hnd : ((kdL kept).map (·.1)).Nodup := by rw [kdL_key]; exact h.2.1.nd
  exact mlook_of hnd (p := (x.nm, x.vd)) (List.mem_map.2 ⟨x, hx, rfl⟩)
theorem LoadOk.names {kept : List Kd} {lasts : List Nm} (h : LoadOk kept lasts) : Names (ldAb kept lasts) (kept.map Kd.nm) := ⟨List.pairwise_map.2 h.2.1, fun m => by
  rw [← kdL_key, mem_keys]; rfl⟩
theorem LoadOk.enc {kept : List Kd} {lasts : List Nm} (h : LoadOk kept lasts) : (kept.map ak).map eKd = (kept.map Kd.nm).map (eKA (ldAb kept lasts)) := by
  rw [List.map_map, List.map_map]
  refine List.map_congr_left fun x hx => ?_
  simp -implicitDefEqProofs only [Function.comp, eKA, h.look hx, eKd, ak]; rfl
theorem LoadOk.lnames {kept : List Kd} {lasts : List Nm} (h : LoadOk kept lasts) : LNames (ldAb kept lasts) (lasts.map (·.1)) := ⟨List.pairwise_map.2 h.1, fun m => by
  rw [mem_keys]; rfl⟩
theorem LoadOk.lenc {kept : List Kd} {lasts : List Nm} (h : LoadOk kept lasts) : (lasts.map (·.1)).map (lnm (ldAb kept lasts)) = lasts := by
  rw [List.map_map]
  refine (List.map_congr_left fun x hx => ?_).trans (List.map_id _)
  have h1 := mlook_of h.1.nd hx
  have h2 : (ldAb kept lasts).last x.1 = x.2 := by
    show (mlook lasts x.1).getD 0 = x.2
    rw [h1]; rfl
  simp -implicitDefEqProofs only [Function.comp, lnm, h2]; rfl
theorem LoadOk.lv {kept : List Kd} {lasts : List Nm} (h : LoadOk kept lasts) (k : ByteArray) (n : Nat) (hl : (ldAb kept lasts).l k = some n) : (ldAb kept lasts).has (k, n) = true := by
  obtain ⟨x, hx, e⟩ := h.2.2.2 (k, n) (mlook_in hl)
  have := h.look hx
  rw [e] at this
  simp [Ab.has, this]
set_option maxHeartbeats 1000000 in
theorem loads3 (k1 k2 : SK) (kept : List Kd) (lasts : List Nm) (hkl : kept.length ≤ 8000000) (hll : lasts.length ≤ 8000000) (hko : ∀ x ∈ kept, KdOk x) (H : Heap) : W env (.call 3 [.sl k1 (kept.map eKd), .sl k2 (lasts.map eW)]) H (fun o _ => o = .val (.bool true)) := by
  refine W.fnI rfl rfl rfl ?_
  simp -implicitDefEqProofs only [ir3, op, ef, cl, sq, reduceIte, q1, q2, q3, q4, q5, q6, q7, q8, q9, S1]
  refine callB_of _ _ _ _ _ _ _ _ (load26 k1 k2 kept lasts hkl hll hko _) ?_
  rintro u H1 (⟨hok, b, F, hu, p1⟩ | ⟨hno, hu, hx1⟩)
  · cases hu
    simp -implicitDefEqProofs only [op, ef, cl, sq, reduceIte, q1, q2, q3, q4, q5, q6, q7, q8, q9, S1]
    refine callB_of _ _ _ _ _ _ _ _ (rload7 k1 k2 kept lasts hkl hll hko _) ?_
    rintro u H2 (⟨_, p, hu, tK, tL, G, r2, f2, n2⟩ | ⟨hno, _⟩)
    · cases hu
      have s2 := p1.at_.ext (frm_ext f2)
      simp -implicitDefEqProofs only [op, ef, cl, sq, reduceIte, q1, q2, q3, q4, q5, q6, q7, q8, q9, S1]
      refine callB_of _ _ _ _ _ _ _ _ (known8 _) ?_
      rintro u H3 ⟨hu, hx3⟩
      cases hu
      have hx3 : Ext H2 H3 := hx3
      have s3 := s2.ext hx3
      simp -implicitDefEqProofs only [op, ef, cl, sq, reduceIte, q1, q2, q3, q4, q5, q6, q7, q8, q9, S1, eqRef, nilOf]
      refine callB_of _ _ _ _ _ _ _ _ (keptA s3 hkl) ?_
      rintro u H4 ⟨hx4, ka, l, hka, hn, hlm, hu⟩
      cases hu
      have hx4 : Ext H3 H4 := hx4
      have hl := hn.uniq hok.names
      subst hl
      simp -implicitDefEqProofs only [op, ef, cl, sq, reduceIte, q1, q2, q3, q4, q5, q6, q7, q8, q9, S1, eqRef, nilOf]
      refine callB_of _ _ _ _ _ _ _ _ (rkept11 (r2.ext (hx3.trans hx4)) (by simpa using hkl)) ?_
      rintro u H5 ⟨hx5, kb, hkb, hu⟩
      cases hu
      have hx5 : Ext H4 H5 := hx5
      rw [hok.enc]
      simp -implicitDefEqProofs only [op, ef, cl, sq, reduceIte, q1, q2, q3, q4, q5, q6, q7, q8, q9, S1, eqRef, nilOf]
      refine callB_of _ _ _ _ _ _ _ _ (sameK27 ka kb (ldAb kept lasts) (kept.map Kd.nm) (by simpa using hkl) s3.keys _) ?_
      rintro u H6 ⟨hu, hx6⟩
      cases hu
      have hx6 : Ext H5 H6 := hx6
      simp -implicitDefEqProofs only [op, ef, cl, sq, reduceIte, q1, q2, q3, q4, q5, q6, q7, q8, q9, S1, eqRef, nilOf]
      refine callB_of _ _ _ _ _ _ _ _ (lastsA2 (s3.ext ((hx4.trans hx5).trans hx6)) hkl hok.lv) ?_
      rintro u H7 ⟨hx7, kc, l, hkc, hn, hlm, hu⟩
      cases hu
      have hx7 : Ext H6 H7 := hx7
      have hl := hn.uniq hok.lnames
      subst hl
      rw [hok.lenc]
      simp -implicitDefEqProofs only [op, ef, cl, sq, reduceIte, q1, q2, q3, q4, q5, q6, q7, q8, q9, S1, eqRef, nilOf]
      refine callB_of _ _ _ _ _ _ _ _ (rlasts14 (r2.ext ((((hx3.trans hx4).trans hx5).trans hx6).trans hx7)) hll) ?_
      rintro u H8 ⟨hx8, kd, hkd, hu⟩
      cases hu
      simp -implicitDefEqProofs only [op, ef, cl, sq, reduceIte, q1, q2, q3, q4, q5, q6, q7, q8, q9, S1, eqRef, nilOf]
      refine callB_of _ _ _ _ _ _ _ _ (slasts23 kc kd lasts _ hll) ?_
      rintro u H9 ⟨hu, _⟩
      cases hu
      simp -implicitDefEqProofs only [op, ef, cl, sq, reduceIte, q1, q2, q3, q4, q5, q6, q7, q8, q9, S1]
    · exact absurd hok hno
  · cases hu
    simp -implicitDefEqProofs only [op, ef, cl, sq, reduceIte, q1, q2, q3, q4, q5, q6, q7, q8, q9, S1]
    refine callB_of _ _ _ _ _ _ _ _ (rload7 k1 k2 kept lasts hkl hll hko _) ?_
    rintro u H2 (⟨hok, _⟩ | ⟨_, hu, hx2⟩)
    · exact absurd hok hno
    · cases hu
      simp -implicitDefEqProofs only [op, ef, cl, sq, reduceIte, q1, q2, q3, q4, q5, q6, q7, q8, q9, S1]
      refine callB_of _ _ _ _ _ _ _ _ (known8 _) ?_
      rintro u H3 ⟨hu, hx3⟩
      cases hu
      simp -implicitDefEqProofs only [op, ef, cl, sq, reduceIte, q1, q2, q3, q4, q5, q6, q7, q8, q9, S1, eqRef, nilOf]
end Go.Proofs.YtbkgokabcnogdaaGreat.St
end

section
namespace Go.Proofs.YtbkgokabcnogdaaGreat
open Go.ChangeShapes Go.WideShapes Go.ChangeAt Go.RowKit
namespace Law
theorem own : ownKnob Tryz.prog.godebug = none := by kernel_rfl
theorem kids : Kids Tryz.prog (· < Tryz.prog.types.size) := kids_rows (by kernel_rfl) (by kernel_rfl)
noncomputable def hzB : Bool := (List.range Tryz.prog.types.size).all fun t => match Tryz.prog.underlying t with
  | some (.slice e) => decide (0 < Tryz.prog.cellsOf e)
  | _ => true
theorem hzB_ok : hzB = true := by kernel_rfl
theorem hz : ∀ t e, t < Tryz.prog.types.size → Tryz.prog.underlying t = some (.slice e) → 0 < Tryz.prog.cellsOf e := fun t e ht h => by
  have := (List.all_eq_true.1 hzB_ok) t (List.mem_range.2 ht)
  rw [h] at this
  simpa using this
mutual
theorem bulk_eq {H : Type} : ∀ d : DataW H, Go.Rmp.bulkW d = Rows.uptoBulk d
  | .lit l => by cases l <;> simp [Go.Rmp.bulkW, Rows.uptoBulk]
  | .nil => by simp [Go.Rmp.bulkW, Rows.uptoBulk]
  | .ptr d => by simp [Go.Rmp.bulkW, Rows.uptoBulk, bulk_eq d]
  | .slice elems spare => by simp [Go.Rmp.bulkW, Rows.uptoBulk, bulks_eq elems, bulks_eq spare]
  | .agg parts => by simp [Go.Rmp.bulkW, Rows.uptoBulk, bulks_eq parts]
  | .iface _ d => by simp [Go.Rmp.bulkW, Rows.uptoBulk, bulk_eq d]
  | .map entries => by simp [Go.Rmp.bulkW, Rows.uptoBulk, bulkE_eq entries]
  | .held _ => by simp [Go.Rmp.bulkW, Rows.uptoBulk]
theorem bulks_eq {H : Type} : ∀ l : List (DataW H), Go.Rmp.bulkAllW l = Rows.uptoBulkAll l
  | [] => by simp [Go.Rmp.bulkAllW, Rows.uptoBulkAll]
  | d :: r => by simp [Go.Rmp.bulkAllW, Rows.uptoBulkAll, bulk_eq d, bulks_eq r]
theorem bulkE_eq {H : Type} : ∀ l : List (Lit × DataW H), Go.Rmp.bulkEntriesW l = Rows.uptoBulkEntries l
  | [] => by simp [Go.Rmp.bulkEntriesW, Rows.uptoBulkEntries]
  | x :: r => by simp [Go.Rmp.bulkEntriesW, Rows.uptoBulkEntries, bulkEn_eq x, bulkE_eq r]
theorem bulkEn_eq {H : Type} : ∀ x : Lit × DataW H, Go.Rmp.bulkEntryW x = Rows.uptoBulkEntry x
  | (l, d) => by cases l <;> simp [Go.Rmp.bulkEntryW, Rows.uptoBulkEntry, bulk_eq d]
end
theorem bulk_ok {H : Type} {ds : List (DataW H)} (h : Rows.uptoSmall H ds = true) : Go.Rmp.bulkAllW ds ≤ 1048576 := by
  rw [bulks_eq]; simpa [Rows.uptoSmall] using h
theorem hasS {B : Nat} {t : Go.Rmp.T} (h : Go.Rmp.HasSh B .str t) : ∃ s, t = .str s ∧ s.size ≤ B := by
  cases h with | str h hB => exact ⟨_, rfl, hB⟩
theorem hasI {B : Nat} {t : Go.Rmp.T} (h : Go.Rmp.HasSh B (.int .i64) t) : ∃ n : Int, t = .int .i64 n ∧ St.I64 n := by
  cases h with | int h =>
    rename_i n
    exact ⟨n, rfl, by simpa [St.I64, Lit.wf, IntKind.min, IntKind.max, IntKind.signed, IntKind.bits] using h⟩
theorem hasU {B : Nat} {t : Go.Rmp.T} (h : Go.Rmp.HasSh B (.int .u64) t) : ∃ n : Nat, t = .int .u64 n ∧ n < 18446744073709551616 := by
  cases h with | int h =>
    rename_i n
    simp -implicitDefEqProofs only [Lit.wf, IntKind.min, IntKind.max, IntKind.signed, IntKind.bits] at h
    simp at h
    exact ⟨n.toNat, by congr 1; omega, by omega⟩
end Law
namespace St
open Go.Rmp
theorem map_of {α : Type} {P : α → Prop} (enc : α → List T) (es : List (List T)) (h : ∀ c ∈ es, ∃ x, c = enc x ∧ P x) : ∃ l : List α, es = l.map enc ∧ ∀ x ∈ l, P x := by
  induction es with
  | nil => exact ⟨[], rfl, by simp⟩
  | cons c es ih =>
    obtain ⟨l, rfl, hl⟩ := ih (fun c hc => h c (List.mem_cons_of_mem _ hc))
    obtain ⟨x, rfl, hx⟩ := h _ List.mem_cons_self
    exact ⟨x :: l, rfl, fun y hy => by rcases List.mem_cons.1 hy with rfl | hy; exact hx; exact hl y hy⟩
theorem hasSs {B : Nat} {t : T} (h : HasSh B (.sl [.str]) t) : ∃ k l, t = .sl k (List.map eS l) ∧ KOk k l ∧ l.length ≤ B := by
  cases h with
  | nil => exact ⟨.nil, [], rfl, fun _ => rfl, Nat.zero_le _⟩
  | sl hl hB h0 h =>
    rename_i es
    obtain ⟨l, rfl, _⟩ := map_of (P := fun _ => True) eS es fun c hc => by
      have hc1 := h0 c hc
      match c, hc1 with
      | [a], _ => obtain ⟨s, rfl, _⟩ := Law.hasS (h _ hc 0 .str a rfl rfl); exact ⟨s, rfl, trivial⟩
    exact ⟨.arg, l, rfl, fun h => (by cases h), by simpa using hB⟩
theorem hasKs {B : Nat} {t : T} (h : HasSh B (.sl [.str, .int .u64, .str, .sl [.str], .int .i64]) t) : ∃ (k : SK) (l : List Kd), t = .sl k (l.map eKd) ∧ l.length ≤ B ∧ ∀ x ∈ l, KOk x.kk x.keys ∧ x.keys.length ≤ B := by
  cases h with
  | nil => exact ⟨.nil, [], rfl, Nat.zero_le _, by simp⟩
  | sl hl hB h0 h =>
    rename_i es
    obtain ⟨l, rfl, hP⟩ := map_of (P := fun x : Kd => KOk x.kk x.keys ∧ x.keys.length ≤ B) eKd es fun c hc => by
      have hc1 := h0 c hc
      match c, hc1 with
      | [a, b, c, d, e], _ =>
        obtain ⟨s, rfl, _⟩ := Law.hasS (h _ hc 0 .str a rfl rfl)
        obtain ⟨n, rfl, _⟩ := Law.hasU (h _ hc 1 (.int .u64) b rfl rfl)
        obtain ⟨s', rfl, _⟩ := Law.hasS (h _ hc 2 .str c rfl rfl)
        obtain ⟨k, l, rfl, hk, hl⟩ := hasSs (h _ hc 3 (.sl [.str]) d rfl rfl)
        obtain ⟨z, rfl, _⟩ := Law.hasI (h _ hc 4 (.int .i64) e rfl rfl)
        exact ⟨⟨s, n, s', k, l, z⟩, rfl, hk, hl⟩
    exact ⟨.arg, l, rfl, by simpa using hB, hP⟩
theorem hasLs {B : Nat} {t : T} (h : HasSh B (.sl [.str, .int .u64]) t) : ∃ (k : SK) (l : List Nm), t = .sl k (l.map eW) ∧ l.length ≤ B := by
  cases h with
  | nil => exact ⟨.nil, [], rfl, Nat.zero_le _⟩
  | sl hl hB h0 h =>
    rename_i es
    obtain ⟨l, rfl, _⟩ := map_of (P := fun _ => True) eW es fun c hc => by
      have hc1 := h0 c hc
      match c, hc1 with
      | [a, b], _ =>
        obtain ⟨s, rfl, _⟩ := Law.hasS (h _ hc 0 .str a rfl rfl)
        obtain ⟨n, rfl, _⟩ := Law.hasU (h _ hc 1 (.int .u64) b rfl rfl)
        exact ⟨(s, n), rfl, trivial⟩
    exact ⟨.arg, l, rfl, by simpa using hB⟩
end St
namespace Law
end Law
end Go.Proofs.YtbkgokabcnogdaaGreat
end

section
namespace Go.Proofs.YtbkgokabcnogdaaGreat
open Go.ChangeShapes Go.WideShapes Go.ChangeAt Go.RowKit
namespace Law
theorem storeLoads_w (as' : List Go.Rmp.T) (hs : Go.Rmp.HasShs 1048576 [Go.Rmp.Sh.sl [.str, .int .u64, .str, .sl [.str], .int .i64], Go.Rmp.Sh.sl [.str, .int .u64]] as') : Go.Rmp.W Ir.env (.call 3 as') [] (fun o _ => o = .val (.bool true)) := by
  cases hs with | cons h1 hs =>
  cases hs with | cons h2 hs =>
  cases hs
  obtain ⟨k, l, rfl, n1, n2⟩ := St.hasKs h1
  obtain ⟨k', l', rfl, n3⟩ := St.hasLs h2
  exact St.loads3 k k' l l' (by omega) (by omega) (fun x hx => ⟨(n2 x hx).1, by have := (n2 x hx).2; omega⟩) []
theorem storeLoads_fn (H : Type) : ∀ ds : List (DataW H), ds.length = Tryz.f3.params.toList.length → Rows.storeLoadsSpec.fn H ds = { results := [.lit (.bool true)], args := ds } := by
  have hn : Tryz.f3.params.toList.length = 2 := by kernel_rfl
  rw [hn]
  intro ds hds
  cases ds with | nil => simp at hds | cons d0 ds =>
  cases ds with | nil => simp at hds | cons d1 ds =>
  cases ds with | cons => simp at hds | nil =>
  rfl
set_option maxRecDepth 100000 in
theorem storeLoads_lifted (os : Os) (started : os.Started) (H : Type) (enc : TypeId × Value → H) (F : Stop.Interp) :
    ReturnsInHanded {} Tryz.checked os 3 .any ((Rows.OpenSpec.upto Rows.storeLoadsSpec).pre6 enc Tryz.prog Tryz.f3 Rows.storeLoadsUptoRow.domain false) (((Rows.OpenSpec.upto Rows.storeLoadsSpec).at F).post enc Tryz.prog Tryz.f3 false true false false) := by
  refine returnsInHanded_of_cond (C := Tryz.checked) (s := Rows.OpenSpec.upto Rows.storeLoadsSpec) (k := Rows.uptoSmall) rfl own started (by kernel_rfl) Tryz.func3
    (OpenSpec.witness (enc := enc) (C := Tryz.checked) (s := Rows.OpenSpec.upto Rows.storeLoadsSpec) (k := Rows.uptoSmall) rfl false ⟨#[], #[.slice .none 0 0, .slice .none 0 0], []⟩ 8 (by kernel_rfl) (by kernel_rfl) (by kernel_rfl)
      (x := ([.nil, .nil], [], [])) (by kernel_rfl) rfl (by kernel_rfl)) ?_
  intro W base args ds gs before hval hW _ hk _
  exact Go.Rmp.law_contract (s := Rows.storeLoadsSpec) (shs := [Go.Rmp.Sh.sl [.str, .int .u64, .str, .sl [.str], .int .i64], Go.Rmp.Sh.sl [.str, .int .u64]]) (B := 1048576) (tb := Tryz.f3.resultTypes[0]!) Ir.envOk kids hz (by kernel_rfl) (by intro t ht; exact of_decide_eq_true ((List.all_eq_true.1 (show Tryz.f3.params.toList.all (fun t => decide (t < Tryz.prog.types.size)) = true by kernel_rfl)) t ht)) (by kernel_rfl) (by kernel_rfl) rfl (storeLoads_fn H) storeLoads_w base args ds gs before hval hW (bulk_ok hk)
theorem storeLoads_over : Rows.storeLoadsUptoRow.holds Tryz.pinned (Rows.OpenSpec.upto Rows.storeLoadsSpec) :=
  OpenClaim.holds_of_cond 3 Tryz.f3 rfl rfl rfl rfl rfl rfl rfl ⟨rfl, rfl, rfl, rfl, rfl⟩ rfl rfl rfl rfl rfl (by kernel_rfl) Tryz.func3 (by kernel_rfl)
    (of_decide_eq_true (by kernel_rfl)) (by unfold Func.isWrapper; first | (rw [if_pos (by decide +kernel)]; kernel_rfl) | (rw [if_neg (by decide +kernel)]; exact ⟨rfl, rfl⟩))
    (fun os started H enc _ F => storeLoads_lifted os started H enc F)
theorem storeLoads_proved : Rows.StoreLoadsUptoSaid := storeLoads_over
end Law
end Go.Proofs.YtbkgokabcnogdaaGreat
end
