/- Part of a proof of a law of this seat: the machine of plain values, its simulation, and the contracts of the functions that the law reaches. Conditions: none beyond the given row. -/
import Derived.Test.YtodegnhallgnkaaGreatM5
import Derived.Test.YtodegnhallgnkaaGreatRows
import Derived.WalkKit
import Derived.ProofKit
import Derived.OpenShut
import Derived.JoinedCond
import Derived.ChangeBears
open Int renaming reduceLT → q4, reduceLE → q5, reduceBEq → q6, reduceBNe → q7, reduceEq → q8
open Nat renaming reduceAdd → q9, reduceLeDiff → j1, reduceLT → j2, reduceEqDiff → j3
set_option linter.unusedSimpArgs false
set_option linter.unusedVariables false
set_option linter.unnecessarySimpa false
set_option maxHeartbeats 4000000
section
namespace Go.Proofs.YtodegnhallgnkaaGreat.St
open Go.Rmp Go.Proofs.YtodegnhallgnkaaGreat.Ir
set_option maxRecDepth 10000
theorem has_cuts {a : Ab} {D : List Nm} {m : Nm} : (a.cuts D).has m = (a.has m && !memN D m) := by
  simp -implicitDefEqProofs only [Ab.has, Ab.cuts]
  cases memN D m <;> simp
theorem AbW.cutsDue {a : Ab} (h : AbW a) {l : List Nm} (hn : Names a l) (now r : Int) : AbW (a.cuts (dueL a now r l)) := by
  refine ⟨h.S.cuts _, h.T.cuts _, fun m x e => ?_, fun k n e => ?_⟩
  · simp -implicitDefEqProofs only [Ab.cuts] at e
    split at e
    · cases e
    · exact h.G m x e
  · have e : a.l k = some n := e
    rw [has_cuts, h.L k n e, Bool.true_and]
    cases hm : memN (dueL a now r l) (k, n) with
    | false => rfl
    | true =>
      obtain ⟨x, hv, h0, _⟩ := due_mem hn (memN_iff.1 hm)
      have h1 := h.S _ _ hv
      have h2 : ¬ n < a.last k := by simp [Ab.last, e]
      have := h1.2 h2
      omega
set_option maxHeartbeats 1000000 in
theorem rcollect22 {H : Heap} {p : Nat} {tK tL : T} {a : Ab} {K : List Kd} {L : List Nm} {G : Nat → Prop} (h : RC H p tK tL K L G) (hr : RfA a K L) (hK : K.length ≤ 8000000) (hL : L.length ≤ 8000000) (now r : Int) (ht : TickOk now) (hro : RetOk r) : W env (.call 22 [.ptr p 0, .int .i64 now, .int .i64 r]) H (fun o H' => (∃ k, o = .val (.tup [.sl k ((dueL a now r (K.map Kd.nm)).map eW), .int .i64 0])) ∧ ∃ tK' K' G', RC H' p tK' tL K' L G' ∧ RfA (a.cuts (dueL a now r (K.map Kd.nm))) K' L ∧ Frm G H H' ∧ Gro G G' H H') := by
  refine W.fnI rfl rfl rfl ?_
  simp -implicitDefEqProofs only [ir22, op, ef, cl, sq, reduceIte, q4, q5, q6, q7, q8, q9, j1, j2, j3, S1]
  refine callB_of _ _ _ _ _ _ _ _ (rdue14 h hr hK hL now r ht hro) ?_
  rintro u H1 ⟨hx1, k, hko, hu⟩
  cases hu
  have hx1 : Ext H H1 := hx1
  have hn := hr.names
  obtain ⟨D, hD⟩ : ∃ D, D = dueL a now r (K.map Kd.nm) := ⟨_, rfl⟩
  have hDl : D.length ≤ K.length := by have := dueL_len a now r (K.map Kd.nm); rw [hD]; simpa using this
  have hdm := fun x => due_mem (a := a) (now := now) (r := r) (l := K.map Kd.nm) (x := x) hn
  have hdn := dueL_nd (now := now) (r := r) hn
  have hw := hr.w.cutsDue hn now r
  rw [← hD] at hdm hdn hw ⊢
  simp -implicitDefEqProofs only [op, ef, cl, sq, reduceIte, q4, q5, q6, q7, q8, q9, j1, j2, j3, S1]
  refine W.loopV [(0, _), (8, _), (9, _)] (fun (i : Nat) R H' => At H' (fun H' => ∃ tK' K' G', RC H' p tK' tL K' L G' ∧ keptUp K' ∧ ldAb K' L = a.cuts (D.take i) ∧ K'.length ≤ K.length ∧ Frm G H H' ∧ Gro G G' H H') ∧ R 10 = .int .i64 i ∧ i ≤ D.length) (fun i => D.length - i) 0 ⟨.i ⟨tK, K, G, h.ext hx1, hr.up, by rw [List.take_zero, cuts_nil]; exact hr.ab, Nat.le_refl _, ext_frm hx1, Gro.refl _ _ _⟩, rfl, Nat.zero_le _⟩ ?_
  rintro i R H2 ⟨⟨tK', K', G', h2, ku, hab, hlen, f2, g2⟩, g10, hi⟩
  by_cases hlt : i < D.length
  rotate_left
  · have hie : i = D.length := by omega
    subst hie
    rw [List.take_length] at hab
    simp -implicitDefEqProofs only [mkR_nil, mkR_cons, op, ef, cl, sq, reduceIte, q4, q5, q6, q7, q8, q9, j1, j2, j3, S1, List.length_map, g10, hlt]
    exact ⟨⟨k, rfl⟩, tK', K', G', h2, ⟨ku, hr.lu, hab, hw⟩, f2, g2⟩
  obtain ⟨m, hm⟩ := getP hlt
  have im := iadX (e := eW) (n := 2) (fun _ => rfl) (by decide) (k := k) hm
  have wsi := wrap_succ (show i < 9223372036854775807 by omega)
  obtain ⟨x, hv, h0, _⟩ := hdm m (List.mem_of_getElem? hm)
  have hnot : memN (D.take i) m = false := memN_no fun hh => by
    have h3 := hdn
    rw [← List.take_append_drop i D, drop_at hm, List.nodup_append] at h3
    exact h3.2.2 _ hh m (by simp) rfl
  have hhas : (ldAb K' L).has m = true := by rw [hab, has_cuts, hnot]; simp [Ab.has, hv]
  have hlast : (ldAb K' L).last m.1 = a.last m.1 := by rw [hab]; rfl
  have hold : m.2 < a.last m.1 := Decidable.of_not_not fun hh => by
    have := (hr.w.S m x hv).2 hh; omega
  simp -implicitDefEqProofs only [mkR_nil, mkR_cons, op, ef, cl, sq, reduceIte, q4, q5, q6, q7, q8, q9, j1, j2, j3, S1, List.length_map, g10, hlt, natOf_nat, im, eW]
  refine callB_of _ _ _ _ _ _ _ _ (rdrop53 h2 ku (by omega) hL m.1 m.2) ?_
  rintro u H3 (⟨hv2, _⟩ | ⟨_, hl2, _⟩ | ⟨_, _, hu, tK2, K2, G2, rc2, ku2, hab2, hlen2, f3, g3⟩)
  · have hv2 : (ldAb K' L).v m = none := hv2
    simp [Ab.has, hv2] at hhas
  · rw [hlast] at hl2; exact absurd hold hl2
  · cases hu
    simp -implicitDefEqProofs only [mkR_nil, mkR_cons, op, ef, cl, sq, reduceIte, q4, q5, q6, q7, q8, q9, j1, j2, j3, S1, g10, wsi]
    refine ⟨i + 1, by omega, .i ⟨tK2, K2, G2, rc2, ku2, ?_, by omega, f2.trans f3 fun c hc => (g2 c hc).imp id And.left, g2.trans g3 f2.1 f3.1⟩, rfl, hlt⟩
    rw [hab2, hab, take_sn hm]
    exact cuts_s a (D.take i) m
theorem rcollectNo (t : T) (now r : Int) (H : Heap) (hp : t = .nilp ∨ ∃ b, t = .ptr b 0 ∧ ¬ (TickOk now ∧ RetOk r)) : W env (.call 22 [t, .int .i64 now, .int .i64 r]) H (Ret (.tup [.sl .nil [], .int .i64 1]) H) := by
  refine W.fnI rfl rfl rfl ?_
  simp -implicitDefEqProofs only [ir22, op, ef, cl, sq, reduceIte, q4, q5, q6, q7, q8, q9, j1, j2, j3, S1]
  refine callB_of _ _ _ _ _ _ _ _ (rdueNo t now r _ hp) ?_
  rintro u H1 ⟨hu, rfl⟩
  cases hu
  simp -implicitDefEqProofs only [op, ef, cl, sq, reduceIte, q4, q5, q6, q7, q8, q9, j1, j2, j3, S1]
  refine W.loopV [(0, _), (8, _), (9, _)] (fun (i : Nat) R H' => H' = H1 ∧ R 10 = .int .i64 0 ∧ i = 0) (fun i => i) 0 ⟨rfl, rfl, rfl⟩ ?_
  rintro i R H2 ⟨rfl, g10, rfl⟩
  simp -implicitDefEqProofs only [mkR_nil, mkR_cons, op, ef, cl, sq, reduceIte, q4, q5, q6, q7, q8, q9, j1, j2, j3, S1, g10]
theorem rputO {H : Heap} {p : Nat} {tK tL : T} {a : Ab} {K : List Kd} {L : List Nm} {G : Nat → Prop} (o : Opv) (k k' : SK) (now : Int) (h : RC H p tK tL K L G) (hr : RfA a K L) (hK : K.length + 6 ≤ 8000000) (hL : L.length ≤ 8000000) (ht : TickOk now) :
    W env (.call 10 [.ptr p 0, .int .u64 (idO o : Nat), .sl k ((pairsO o).map eP), .sl k' ((keysO o).map eS), .int .i64 now]) H (fun u H' => (∃ b e, u = .val (.tup [.bool b, .int .i64 e])) ∧ ∃ tK' K' G', RC H' p tK' tL K' L G' ∧ RfA (if (pairsO o).isEmpty = true then a else a.put (idO o) (pairsO o) (keysO o) now) K' L ∧ Frm G H H' ∧ Gro G G' H H') := by
  have h6 := pairsO_len o
  have k6 := keysO_len o
  by_cases he : (pairsO o).isEmpty = true
  · refine W.use (rputNo (idO o) k k' (pairsO o) (keysO o) now (by omega) (by omega) fun hh => ?_) fun u H' ⟨hu, hx⟩ => ⟨⟨_, _, hu⟩, tK, K, G, h.ext hx, ?_, ext_frm hx, Gro.refl _ _ _⟩
    · have := hh.1.2.2.1
      rw [List.isEmpty_iff.1 he] at this; simp at this
    · rw [if_pos he]; exact hr
  · have hm := may_O o fun e => he (by rw [e]; rfl)
    refine W.use (rput51 h hr.up (idO o) k k' (pairsO o) (keysO o) now (by omega) hL hm ht) fun u H' ⟨hu, tK', K', G', pr⟩ => ⟨⟨_, _, hu⟩, tK', K', G', pr.rc, ?_, pr.frm, pr.gro⟩
    rw [if_neg he]
    exact ⟨pr.up, hr.lu, by rw [pr.ab, hr.ab], hr.w.put hm ht⟩
structure Pr2 (H : Heap) (b : Bk) (p : Nat) (a : Ab) (m : Nat) (F G : Nat → Prop) (tK tL : T) (K : List Kd) (L : List Nm) : Prop where
  at_ : AtS H b a F m
  rc : RC H p tK tL K L G
  dis : ∀ c, F c → G c → False
  lF : ∀ c, F c → c < H.length
  lG : ∀ c, G c → c < H.length
section
variable {H H' : Heap} {p m m' : Nat} {b b' : Bk} {a a' : Ab} {F F' G G' : Nat → Prop} {tK tL tK' tL' : T} {K K' : List Kd} {L L' : List Nm}
theorem Pr2.goE (h : Pr2 H b p a m F G tK tL K L) (hx : Ext H H') : Pr2 H' b p a m F G tK tL K L :=
  ⟨h.at_.ext hx, h.rc.ext hx, h.dis, fun c hc => Nat.lt_of_lt_of_le (h.lF c hc) hx.len, fun c hc => Nat.lt_of_lt_of_le (h.lG c hc) hx.len⟩
theorem Pr2.le (h : Pr2 H b p a m F G tK tL K L) (hm : m ≤ m') : Pr2 H b p a m' F G tK tL K L := ⟨h.at_.le hm, h.rc, h.dis, h.lF, h.lG⟩
theorem Pr2.goS (h : Pr2 H b p a m F G tK tL K L) (ha : AtS H' b a' F' m') (hf : Frm F H H') (hg : Gro F F' H H') : Pr2 H' b p a' m' F' G tK tL K L := by
  refine ⟨ha, h.rc.frm hf fun c hc _ hF => h.dis c hF hc, fun c hF hG => ?_, fun c hc => ?_, fun c hc => Nat.lt_of_lt_of_le (h.lG c hc) hf.1⟩
  · rcases hg c hF with h1 | h1
    · exact h.dis c h1 hG
    · have := h.lG c hG; omega
  · rcases hg c hc with h1 | h1
    · have := h.lF c h1; have := hf.1; omega
    · exact h1.2
theorem Pr2.goR (h : Pr2 H b p a m F G tK tL K L) (hr : RC H' p tK' tL' K' L' G') (hf : Frm G H H') (hg : Gro G G' H H') : Pr2 H' b p a m F G' tK' tL' K' L' := by
  refine ⟨h.at_.frm hf fun c hF _ hG => h.dis c hF hG, hr, fun c hF hG => ?_, fun c hc => Nat.lt_of_lt_of_le (h.lF c hc) hf.1, fun c hc => ?_⟩
  · rcases hg c hG with h1 | h1
    · exact h.dis c hF h1
    · have := h.lF c hF; omega
  · rcases hg c hc with h1 | h1
    · have := h.lG c h1; have := hf.1; omega
    · exact h1.2
end
end Go.Proofs.YtodegnhallgnkaaGreat.St
end

section
namespace Go.Proofs.YtodegnhallgnkaaGreat.St
open Go.Rmp Go.Proofs.YtodegnhallgnkaaGreat.Ir
set_option maxRecDepth 10000
def Fine (now r : Int) : Prop := TickOk now ∧ RetOk r
noncomputable def dueR (a : Ab) (now r : Int) (l : List Nm) : List Nm := open Classical in if Fine now r then dueL a now r l else []
noncomputable def dueE (now r : Int) : Int := open Classical in if Fine now r then 0 else 1
noncomputable def cutR (a : Ab) (now r : Int) (l : List Nm) : Ab := open Classical in if Fine now r then a.cuts (dueL a now r l) else a
section
variable {H : Heap} {p m : Nat} {b : Bk} {a : Ab} {F G : Nat → Prop} {tK tL : T} {K : List Kd} {L : List Nm}
theorem dueB (h : Pr2 H b p a m F G tK tL K L) (hr : RfA a K L) (hm : m ≤ 8000000) (now r : Int) : W env (.call 13 [.ptr b.s 0, .int .i64 now, .int .i64 r]) H (fun o H' => Ext H H' ∧ ∃ k, o = .val (.tup [.sl k ((dueR a now r (K.map Kd.nm)).map eW), .int .i64 (dueE now r)])) := by
  by_cases hf : Fine now r
  · refine W.use (due9 now r h.at_ hm hf.1 hf.2) fun o H' ⟨hx, k, l, hko, hn, hl, hu⟩ => ⟨hx, k, ?_⟩
    rw [hu, dueR, dueE, if_pos hf, if_pos hf, hn.uniq hr.names]
  · refine W.use (dueNo (.ptr b.s 0) now r H (.inr ⟨_, rfl, hf⟩)) fun o H' ⟨hu, hx⟩ => ⟨by rw [hx]; exact Ext.rfl', .nil, ?_⟩
    rw [hu, dueR, dueE, if_neg hf, if_neg hf]; rfl
theorem rdueB (h : Pr2 H b p a m F G tK tL K L) (hr : RfA a K L) (hm : m ≤ 8000000) (now r : Int) : W env (.call 14 [.ptr p 0, .int .i64 now, .int .i64 r]) H (fun o H' => Ext H H' ∧ ∃ k, o = .val (.tup [.sl k ((dueR a now r (K.map Kd.nm)).map eW), .int .i64 (dueE now r)])) := by
  have hK := hr.len h.at_
  have hL := hr.llen
  by_cases hf : Fine now r
  · refine W.use (rdue14 h.rc hr (by omega) (by omega) now r hf.1 hf.2) fun o H' ⟨hx, k, hko, hu⟩ => ⟨hx, k, ?_⟩
    rw [hu, dueR, dueE, if_pos hf, if_pos hf]
  · refine W.use (rdueNo (.ptr p 0) now r H (.inr ⟨_, rfl, hf⟩)) fun o H' ⟨hu, hx⟩ => ⟨by rw [hx]; exact Ext.rfl', .nil, ?_⟩
    rw [hu, dueR, dueE, if_neg hf, if_neg hf]; rfl
def NxtR (a : Ab) (l : List Nm) (r t : Int) (is : Bool) (e : Int) : Prop := (RetOk r ∧ NxtV a l r t is ∧ e = 0) ∨ (¬ RetOk r ∧ t = 0 ∧ is = false ∧ e = 1)
theorem NxtR.uniq {l : List Nm} {r t t' : Int} {is is' : Bool} {e e' : Int} (h : NxtR a l r t is e) (h' : NxtR a l r t' is' e') : t' = t ∧ is' = is ∧ e' = e := by
  rcases h with ⟨h1, h2, rfl⟩ | ⟨h1, rfl, rfl, rfl⟩
  · rcases h' with ⟨_, h3, rfl⟩ | ⟨h3, _⟩
    · obtain ⟨e1, e2⟩ := h3.uniq h2; exact ⟨e1, e2, rfl⟩
    · exact absurd h1 h3
  · rcases h' with ⟨h3, _⟩ | ⟨_, rfl, rfl, rfl⟩
    · exact absurd h3 h1
    · exact ⟨rfl, rfl, rfl⟩
theorem nextB (h : Pr2 H b p a m F G tK tL K L) (hr : RfA a K L) (hm : m ≤ 8000000) (r : Int) : W env (.call 15 [.ptr b.s 0, .int .i64 r]) H (fun o H' => Ext H H' ∧ ∃ t is e, NxtR a (K.map Kd.nm) r t is e ∧ o = .val (.tup [.int .i64 t, .bool is, .int .i64 e])) := by
  by_cases hf : RetOk r
  · refine W.use (next24 r h.at_ hm hr.w.T hf) fun o H' ⟨hx, l, t, is, hn, hv, hu⟩ => ⟨hx, t, is, 0, .inl ⟨hf, ?_, rfl⟩, hu⟩
    rw [← hn.uniq hr.names]; exact hv
  · exact W.use (nextNo (.ptr b.s 0) r H (.inr ⟨_, rfl, hf⟩)) fun o H' ⟨hu, hx⟩ => ⟨by rw [hx]; exact Ext.rfl', 0, false, 1, .inr ⟨hf, rfl, rfl, rfl⟩, hu⟩
theorem rnextB (h : Pr2 H b p a m F G tK tL K L) (hr : RfA a K L) (hm : m ≤ 8000000) (r : Int) : W env (.call 16 [.ptr p 0, .int .i64 r]) H (fun o H' => Ext H H' ∧ ∃ t is e, NxtR a (K.map Kd.nm) r t is e ∧ o = .val (.tup [.int .i64 t, .bool is, .int .i64 e])) := by
  have hK := hr.len h.at_
  have hL := hr.llen
  by_cases hf : RetOk r
  · exact W.use (rnext16 h.rc hr (by omega) (by omega) r hf) fun o H' ⟨hx, t, is, hv, hu⟩ => ⟨hx, t, is, 0, .inl ⟨hf, hv, rfl⟩, hu⟩
  · exact W.use (rnextNo (.ptr p 0) r H (.inr ⟨_, rfl, hf⟩)) fun o H' ⟨hu, hx⟩ => ⟨by rw [hx]; exact Ext.rfl', 0, false, 1, .inr ⟨hf, rfl, rfl, rfl⟩, hu⟩
theorem collectB (h : Pr2 H b p a m F G tK tL K L) (hr : RfA a K L) (hm : m ≤ 8000000) (now r : Int) : W env (.call 21 [.ptr b.s 0, .int .i64 now, .int .i64 r]) H (fun o H' => (∃ k, o = .val (.tup [.sl k ((dueR a now r (K.map Kd.nm)).map eW), .int .i64 (dueE now r)])) ∧ Pr2 H' b p (cutR a now r (K.map Kd.nm)) m F G tK tL K L) := by
  by_cases hf : Fine now r
  · refine W.use (collect11 now r h.at_ hm hf.1 hf.2) fun o H' ⟨k, l, hko, hn, hl, hu, ha, hfr⟩ => ⟨⟨k, ?_⟩, ?_⟩
    · rw [hu, dueR, dueE, if_pos hf, if_pos hf, hn.uniq hr.names]
    · rw [cutR, if_pos hf, ← hn.uniq hr.names]
      exact h.goS ha hfr (Gro.refl _ _ _)
  · refine W.use (collectNo (.ptr b.s 0) now r H (.inr ⟨_, rfl, hf⟩)) fun o H' ⟨hu, hx⟩ => ⟨⟨.nil, ?_⟩, ?_⟩
    · rw [hu, dueR, dueE, if_neg hf, if_neg hf]; rfl
    · rw [cutR, if_neg hf, hx]; exact h
theorem rcollectB {a' : Ab} (h : Pr2 H b p a' m F G tK tL K L) (hr : RfA a K L) (hK : K.length ≤ 8000000) (now r : Int) : W env (.call 22 [.ptr p 0, .int .i64 now, .int .i64 r]) H (fun o H' => (∃ k, o = .val (.tup [.sl k ((dueR a now r (K.map Kd.nm)).map eW), .int .i64 (dueE now r)])) ∧ ∃ G' tK' K', Pr2 H' b p a' m F G' tK' tL K' L ∧ RfA (cutR a now r (K.map Kd.nm)) K' L) := by
  have hL := hr.llen
  by_cases hf : Fine now r
  · refine W.use (rcollect22 h.rc hr hK (by omega) now r hf.1 hf.2) fun o H' ⟨⟨k, hu⟩, tK', K', G', rc, rf, f, g⟩ => ⟨⟨k, ?_⟩, G', tK', K', h.goR rc f g, ?_⟩
    · rw [hu, dueR, dueE, if_pos hf, if_pos hf]
    · rw [cutR, if_pos hf]; exact rf
  · refine W.use (rcollectNo (.ptr p 0) now r H (.inr ⟨_, rfl, hf⟩)) fun o H' ⟨hu, hx⟩ => ⟨⟨.nil, ?_⟩, G, tK, K, ?_, ?_⟩
    · rw [hu, dueR, dueE, if_neg hf, if_neg hf]; rfl
    · rw [hx]; exact h
    · rw [cutR, if_neg hf]; exact hr
end
theorem cutR_l (a : Ab) (now r : Int) (l : List Nm) : (cutR a now r l).l = a.l := by
  unfold cutR; split <;> rfl
theorem cutR_has {a : Ab} {now r : Int} {l : List Nm} {m : Nm} (h : (cutR a now r l).has m = true) : a.has m = true := by
  unfold cutR at h
  split at h
  · rw [has_cuts, Bool.and_eq_true] at h; exact h.1
  · exact h
structure In6 (a : Ab) : Prop where
  few : ∀ k, (a.l k).isSome = true → k ∈ names 63
  key : ∀ m, a.has m = true → m.1 ∈ names 63
theorem In6.few12 {a : Ab} (h : In6 a) : Few a := ⟨names 63, by have := namesN_len 63 6; unfold names; omega, h.few⟩
theorem In6.step {a : Ab} (h : In6 a) (o : Opv) (now : Int) : In6 (stepO (a, now) o).1 := by
  unfold stepO
  split
  · split
    · exact h
    · refine ⟨h.few, fun m hm => ?_⟩
      simp -implicitDefEqProofs only [has_put, Bool.or_eq_true, Bool.and_eq_true] at hm
      rcases hm with hm | hm
      · exact h.key m hm
      · have := mlook_key hm.2
        simp -implicitDefEqProofs only [pairsO, List.map_map, List.mem_map] at this
        obtain ⟨x, hx, e⟩ := this
        exact e ▸ names63 hx
  · split
    · refine ⟨fun k hk => ?_, fun m hm => h.key m (by rw [has_com] at hm; exact hm)⟩
      simp -implicitDefEqProofs only [Ab.com] at hk
      split at hk
      · rename_i hc; exact h.key (k, _) hc.1
      · exact h.few k hk
    · exact h
theorem In6.cut {a : Ab} (h : In6 a) (now r : Int) (l : List Nm) : In6 (cutR a now r l) := ⟨fun k hk => h.few k (by rw [cutR_l] at hk; exact hk), fun m hm => h.key m (cutR_has hm)⟩
theorem and1i (a : Nat) (h : a < 9223372036854775808) : IntKind.i64.wrap ((BitVec.ofInt IntKind.i64.bits (a : Int) &&& BitVec.ofInt IntKind.i64.bits 1).toNat : Nat) = ((a % 2 : Nat) : Int) := by
  have h1 := and_nat IntKind.i64.bits a 1 (by simp -implicitDefEqProofs only [IntKind.bits]; omega) (by simp [IntKind.bits])
  have h2 : ((1 : Nat) : Int) = 1 := rfl
  rw [h2] at h1
  rw [h1, show (1 : Nat) = 2 ^ 1 - 1 from rfl, Nat.and_two_pow_sub_one_eq_mod, wrap64 (by omega)]
end Go.Proofs.YtodegnhallgnkaaGreat.St
end

section
namespace Go.Proofs.YtodegnhallgnkaaGreat.St
open Go.Rmp Go.Proofs.YtodegnhallgnkaaGreat.Ir
set_option maxRecDepth 10000
def eZ (x : Int) : List T := [.int .i64 x]
def AnsP (b : Bk) (p i : Nat) (now : T) (H : Heap) : Prop := ∃ a F G tK tL K L n, now = .int .i64 n ∧ 0 ≤ n ∧ n ≤ 7 * i ∧ Pr2 H b p a (6 * i) F G tK tL K L ∧ RfA a K L ∧ In6 a
theorem AnsP.ext {b : Bk} {p i : Nat} {now : T} {H H' : Heap} (h : AnsP b p i now H) (hx : Ext H H') : AnsP b p i now H' := by
  obtain ⟨a, F, G, tK, tL, K, L, n, h1, h2, h3, h4, h5, h6⟩ := h
  exact ⟨a, F, G, tK, tL, K, L, n, h1, h2, h3, h4.goE hx, h5, h6⟩
set_option maxHeartbeats 4000000 in
theorem answers3 (k k2 k3 : SK) (l : List Opv) (nows keeps : List Int) (hl : l.length ≤ 262144) (hl2 : nows.length ≤ 1048576) (hl3 : keeps.length ≤ 1048576) (ho : ∀ o ∈ l, OkO o) (H : Heap) : W env (.call 3 [.sl k (l.map eO), .sl k2 (nows.map eZ), .sl k3 (keeps.map eZ)]) H (fun o _ => o = .val (.bool true)) := by
  refine W.fnI rfl rfl rfl ?_
  simp -implicitDefEqProofs only [ir3, op, ef, cl, sq, reduceIte, q4, q5, q6, q7, q8, q9, j1, j2, j3, S1]
  refine callB_of _ _ _ _ _ _ _ _ (alive7 _) ?_
  rintro u H1 ⟨hu, hx1⟩
  cases hu
  simp -implicitDefEqProofs only [op, ef, cl, sq, reduceIte, q4, q5, q6, q7, q8, q9, j1, j2, j3, S1]
  refine callB_of _ _ _ _ _ _ _ _ (newA _) ?_
  rintro u H2 ⟨hx2, b, F, hu, v1, nF⟩
  cases hu
  simp -implicitDefEqProofs only [op, ef, cl, sq, reduceIte, q4, q5, q6, q7, q8, q9, j1, j2, j3, S1]
  refine callB_of _ _ _ _ _ _ _ (fun o H' => H' = H2 ++ [.cells [.sl .nil [], .sl .nil []]] ∧ o = .val (.ptr H2.length 0)) ?_ ?_
  · refine W.fnI rfl rfl rfl ?_
    simp -implicitDefEqProofs only [ir6, op, ef, cl, sq, reduceIte, q4, q5, q6, q7, q8, q9, j1, j2, j3, S1]
  rintro u H3 ⟨hH3, hu⟩
  cases hu
  have hx3 : Ext H2 H3 := ⟨_, hH3⟩
  have hl3' : H3.length = H2.length + 1 := by rw [hH3]; simp
  obtain ⟨p, hp⟩ : ∃ p, p = H2.length := ⟨_, rfl⟩
  have pr : Pr2 H3 b p Ab.emp 0 F (fun c => c = p) (.sl .nil []) (.sl .nil []) [] [] := by
    refine ⟨v1.ext hx3, ⟨by rw [hH3, hp]; exact g_tail rfl, mut_nil _ _ _ _, mut_nil _ _ _ _, rfl, fun c hc => (by cases hc), fun c hc => (by cases hc), fun c hc => (by cases hc), fun x hx => (by cases hx)⟩, fun c hf e => ?_, fun c hf => ?_, fun c e => ?_⟩
    · have := (nF c hf).2; omega
    · have := (nF c hf).2; omega
    · omega
  have rf : RfA Ab.emp [] [] := ⟨List.Pairwise.nil, List.Pairwise.nil, rfl, AbW.emp⟩
  have a0 : AnsP b p 0 (.int .i64 0) H3 := ⟨_, _, _, _, _, _, _, 0, rfl, Int.le_refl _, by omega, pr, rf, ⟨fun k h => (by cases h), fun m h => (by cases h)⟩⟩
  rw [← hp]
  simp -implicitDefEqProofs only [op, ef, cl, sq, reduceIte, q4, q5, q6, q7, q8, q9, j1, j2, j3, S1, eqRef, nilOf]
  refine W.loopX 0 [(0, _), (1, _), (2, _), (7, _), (8, _)] (fun (i : Nat) R H' => At H' (fun H' => AnsP b p i (R 9) H') ∧ R 10 = .int .i64 i ∧ i ≤ l.length) (fun i => l.length - i) 0
    (fun R H' => At H' (fun H' => AnsP b p l.length (R 9) H')) ⟨.i a0, rfl, Nat.zero_le _⟩ ?_ ?_
  · rintro i R H4 ⟨h4, g10, hi⟩
    have h4 : AnsP b p i (R 9) H4 := h4
    by_cases hlt : i < l.length
    rotate_left
    · have hie : i = l.length := by omega
      subst hie
      simp -implicitDefEqProofs only [mkR_nil, mkR_cons, op, ef, cl, sq, reduceIte, q4, q5, q6, q7, q8, q9, j1, j2, j3, S1, List.length_map, g10, hlt]
      exact .i h4
    obtain ⟨o, hoi⟩ := getP hlt
    have hok := ho o (List.mem_of_getElem? hoi)
    have io := iadX (e := eO) (n := 5) (fun _ => rfl) (by decide) (k := k) hoi
    have wsi := wrap_succ (show i < 9223372036854775807 by omega)
    have l5 : ∀ Hx, ldc Hx 5 (.iptr (eO o)) = some (eO o) := fun _ => rfl
    have x0 : fadT 0 (.iptr (eO o)) = some (.iptr (eO o)) := rfl
    have x1 : fadT 1 (.iptr (eO o)) = some (.iptr [.int .u64 o.id, .int .u8 o.keys, .int .u8 o.some, .str o.value]) := rfl
    have l0 : ∀ Hx, ldc Hx 1 (.iptr (eO o)) = some [.int .i64 o.kind] := fun _ => rfl
    have l1 : ∀ Hx, ldc Hx 1 (.iptr [.int .u64 o.id, .int .u8 o.keys, .int .u8 o.some, .str o.value]) = some [.int .u64 o.id] := fun _ => rfl
    simp -implicitDefEqProofs only [mkR_nil, mkR_cons, op, ef, cl, sq, reduceIte, q4, q5, q6, q7, q8, q9, j1, j2, j3, S1, List.length_map, g10, hlt, natOf_nat, io, l5]
    refine callB_of _ _ _ _ _ _ _ _ (write13 o hok _) ?_
    rintro u H5 ⟨hx5, kp, kk, hkp, hkk, hu⟩
    cases hu
    have h5 := h4.ext hx5
    simp -implicitDefEqProofs only [mkR_nil, mkR_cons, op, ef, cl, sq, reduceIte, q4, q5, q6, q7, q8, q9, j1, j2, j3, S1, g10, natOf_nat, io, x0, l0]
    refine condC_cut [(0, _), (1, _), (2, _), (7, _), (8, _), (10, _)] (fun R' H' => At H' (fun H' => AnsP b p (i + 1) (R' 9) H')) ?_ ?_
    · obtain ⟨a, F, G, tK, tL, K, L, n, g9, hn0, hn7, p5, r5, s5⟩ := h5
      have ht : TickOk n := ⟨hn0, by omega⟩
      have hK := r5.len p5.at_
      have hL := r5.llen
      have hst : In6 (stepO (a, n) o).1 := s5.step o n
      by_cases hk1 : o.kind = 1
      · have e1 : (o.kind == 1) = true := by simp [hk1]
        rw [stepO, if_pos hk1] at hst
        simp -implicitDefEqProofs only [mkR_nil, mkR_cons, op, ef, cl, sq, reduceIte, q4, q5, q6, q7, q8, q9, j1, j2, j3, S1, e1, g10, natOf_nat, io, l5]
        refine callB_of _ _ _ _ _ _ _ _ (id15 o hok _) ?_
        rintro u H6 ⟨hu, hx6⟩
        cases hu
        have hx6 : Ext H5 H6 := hx6
        have p6 := p5.goE hx6
        simp -implicitDefEqProofs only [mkR_nil, mkR_cons, op, ef, cl, sq, reduceIte, q4, q5, q6, q7, q8, q9, j1, j2, j3, S1, g9]
        refine callB_of _ _ _ _ _ _ _ _ (putO o kp kk n p6.at_ (by omega) hkk ht) ?_
        rintro u H7 ⟨F', hu, a7, f7, g7⟩
        have p7 := p6.goS a7 f7 g7
        have hu2 : ∃ bb ee, u = .tup [.bool bb, .int .i64 ee] := by
          split at hu <;> (cases hu; exact ⟨_, _, rfl⟩)
        obtain ⟨bb, ee, hu2⟩ := hu2
        subst hu2
        simp -implicitDefEqProofs only [mkR_nil, mkR_cons, op, ef, cl, sq, reduceIte, q4, q5, q6, q7, q8, q9, j1, j2, j3, S1, g10, natOf_nat, io, l5]
        refine callB_of _ _ _ _ _ _ _ _ (id15 o hok _) ?_
        rintro u H8 ⟨hu, hx8⟩
        cases hu
        have hx8 : Ext H7 H8 := hx8
        have p8 := p7.goE hx8
        simp -implicitDefEqProofs only [mkR_nil, mkR_cons, op, ef, cl, sq, reduceIte, q4, q5, q6, q7, q8, q9, j1, j2, j3, S1, g9]
        refine callB_of _ _ _ _ _ _ _ _ (rputO o kp kk n p8.rc r5 (by omega) (by omega) ht) ?_
        rintro u H9 ⟨⟨b2, e2, hu⟩, tK', K', G', rc9, r9, f9, gg9⟩
        cases hu
        simp -implicitDefEqProofs only [mkR_nil, mkR_cons, op, ef, cl, sq, reduceIte, q4, q5, q6, q7, q8, q9, j1, j2, j3, S1, g9, normO_n]
        exact .i ⟨_, F', G', tK', tL, K', L, n, rfl, hn0, by omega, (p8.goR rc9 f9 gg9).le (by omega), r9, hst⟩
      have e1 : (o.kind == 1) = false := by simp [hk1]
      by_cases hk2 : o.kind = 2
      · have e2 : (o.kind == 2) = true := by simp [hk2]
        rw [stepO, if_neg hk1, if_pos hk2] at hst
        simp -implicitDefEqProofs only [mkR_nil, mkR_cons, op, ef, cl, sq, reduceIte, q4, q5, q6, q7, q8, q9, j1, j2, j3, S1, e1, e2, g10, natOf_nat, io, l5]
        refine callB_of _ _ _ _ _ _ _ _ (id15 o hok _) ?_
        rintro u H6 ⟨hu, hx6⟩
        cases hu
        have hx6 : Ext H5 H6 := hx6
        have p6 := p5.goE hx6
        simp -implicitDefEqProofs only [mkR_nil, mkR_cons, op, ef, cl, sq, reduceIte, q4, q5, q6, q7, q8, q9, j1, j2, j3, S1, g9]
        refine callB_of _ _ _ _ _ _ _ _ (comA (idO o) n p6.at_ (by omega) (idO_ge o) ht) ?_
        rintro u H7 ⟨D, hd, hD, hu, a7, f7⟩
        cases hu
        have p7 := p6.goS a7 f7 (Gro.refl _ _ _)
        simp -implicitDefEqProofs only [mkR_nil, mkR_cons, op, ef, cl, sq, reduceIte, q4, q5, q6, q7, q8, q9, j1, j2, j3, S1, g10, natOf_nat, io, l5]
        refine callB_of _ _ _ _ _ _ _ _ (id15 o hok _) ?_
        rintro u H8 ⟨hu, hx8⟩
        cases hu
        have hx8 : Ext H7 H8 := hx8
        have p8 := p7.goE hx8
        simp -implicitDefEqProofs only [mkR_nil, mkR_cons, op, ef, cl, sq, reduceIte, q4, q5, q6, q7, q8, q9, j1, j2, j3, S1, g9]
        refine callB_of _ _ _ _ _ _ _ _ (rcommit52 p8.rc r5.up r5.lu (by rw [r5.ab]; exact r5.w.S) (by omega) (by omega) (idO o) n (idO_ge o) ht) ?_
        rintro u H9 ⟨hu, tL', K', L', G', rc9, ku, lu, hab, hlen, f9, gg9⟩
        cases hu
        simp -implicitDefEqProofs only [mkR_nil, mkR_cons, op, ef, cl, sq, reduceIte, q4, q5, q6, q7, q8, q9, j1, j2, j3, S1, g9, normO_n]
        exact .i ⟨_, F, G', tK, tL', K', L', n, rfl, hn0, by omega, (p8.goR rc9 f9 gg9).le (by omega), ⟨ku, lu, by rw [hab, r5.ab], r5.w.com ht⟩, hst⟩
      have e2 : (o.kind == 2) = false := by simp [hk2]
      have h7 := and7 o.id hok.1
      have wc : IntKind.i64.wrap ((o.id % 8 : Nat) : Int) = ((o.id % 8 : Nat) : Int) := by rw [wrap64 (by omega)]
      have wt : IntKind.i64.wrap (n + ((o.id % 8 : Nat) : Int)) = n + ((o.id % 8 : Nat) : Int) := by rw [wrap64 (by omega)]
      simp -implicitDefEqProofs only [mkR_nil, mkR_cons, op, ef, cl, sq, reduceIte, q4, q5, q6, q7, q8, q9, j1, j2, j3, S1, e1, e2, g9, g10, natOf_nat, io, x1, l1, ldc1, h7, wc, wt, normO_n]
      exact .i ⟨a, F, G, tK, tL, K, L, _, rfl, by omega, by omega, p5.le (by omega), r5, s5⟩
    rintro R' H6 h6
    have h6 : AnsP b p (i + 1) (R' 9) H6 := h6
    by_cases hc : i < nows.length ∧ i < keeps.length
    rotate_left
    · by_cases hc1 : i < nows.length
      · have hc2 : ¬ i < keeps.length := fun h => hc ⟨hc1, h⟩
        simp -implicitDefEqProofs only [mkR_nil, mkR_cons, op, ef, cl, sq, reduceIte, q4, q5, q6, q7, q8, q9, j1, j2, j3, S1, g10, List.length_map, hc1, hc2, wsi]
        exact ⟨i + 1, by omega, .i h6, rfl, hlt⟩
      · simp -implicitDefEqProofs only [mkR_nil, mkR_cons, op, ef, cl, sq, reduceIte, q4, q5, q6, q7, q8, q9, j1, j2, j3, S1, g10, List.length_map, hc1, wsi]
        exact ⟨i + 1, by omega, .i h6, rfl, hlt⟩
    obtain ⟨hc1, hc2⟩ := hc
    obtain ⟨w, hw⟩ := getP hc1
    obtain ⟨r, hr⟩ := getP hc2
    have iw := iadX (e := eZ) (n := 1) (fun _ => rfl) (by decide) (k := k2) hw
    have ir := iadX (e := eZ) (n := 1) (fun _ => rfl) (by decide) (k := k3) hr
    obtain ⟨a, F, G, tK, tL, K, L, n, g9, hn0, hn7, p6, r6, s6⟩ := h6
    have hK := r6.len p6.at_
    simp -implicitDefEqProofs only [mkR_nil, mkR_cons, op, ef, cl, sq, reduceIte, q4, q5, q6, q7, q8, q9, j1, j2, j3, S1, g10, List.length_map, hc1, hc2, natOf_nat, iw, ir, eZ, ldc1]
    refine callB_of _ _ _ _ _ _ _ _ (dueB p6 r6 (by omega) w r) ?_
    rintro u H7 ⟨hx7, ka, hu⟩
    cases hu
    have hx7 : Ext H6 H7 := hx7
    have p7 := p6.goE hx7
    simp -implicitDefEqProofs only [mkR_nil, mkR_cons, op, ef, cl, sq, reduceIte, q4, q5, q6, q7, q8, q9, j1, j2, j3, S1, g10, natOf_nat, iw, ir, eZ, ldc1]
    refine callB_of _ _ _ _ _ _ _ _ (rdueB p7 r6 (by omega) w r) ?_
    rintro u H8 ⟨hx8, kb, hu⟩
    cases hu
    have hx8 : Ext H7 H8 := hx8
    have p8 := p7.goE hx8
    simp -implicitDefEqProofs only [mkR_nil, mkR_cons, op, ef, cl, sq, reduceIte, q4, q5, q6, q7, q8, q9, j1, j2, j3, S1, g10, natOf_nat, iw, ir, eZ, ldc1]
    refine callB_of _ _ _ _ _ _ _ _ (nextB p8 r6 (by omega) r) ?_
    rintro u H9 ⟨hx9, t1, is1, e1, hn1, hu⟩
    cases hu
    have hx9 : Ext H8 H9 := hx9
    have p9 := p8.goE hx9
    simp -implicitDefEqProofs only [mkR_nil, mkR_cons, op, ef, cl, sq, reduceIte, q4, q5, q6, q7, q8, q9, j1, j2, j3, S1, g10, natOf_nat, iw, ir, eZ, ldc1]
    refine callB_of _ _ _ _ _ _ _ _ (rnextB p9 r6 (by omega) r) ?_
    rintro u H10 ⟨hx10, t2, is2, e2, hn2, hu⟩
    cases hu
    obtain ⟨q1, q2, q3⟩ := hn1.uniq hn2
    subst q1 q2 q3
    have hx10 : Ext H9 H10 := hx10
    have p10 := p9.goE hx10
    have hdl : (dueR a w r (K.map Kd.nm)).length ≤ 16777216 := by
      unfold dueR; split
      · have := dueL_len a w r (K.map Kd.nm); rw [List.length_map] at this; omega
      · simp
    simp -implicitDefEqProofs only [mkR_nil, mkR_cons, op, ef, cl, sq, reduceIte, q4, q5, q6, q7, q8, q9, j1, j2, j3, S1]
    refine callB_of _ _ _ _ _ _ _ _ (sameN10 ka kb _ _ _ hdl) ?_
    rintro u H11 ⟨hu, rfl⟩
    cases hu
    simp -implicitDefEqProofs only [mkR_nil, mkR_cons, op, ef, cl, sq, reduceIte, q4, q5, q6, q7, q8, q9, j1, j2, j3, S1]
    refine callB_of _ _ _ _ _ _ _ _ (keptA p10.at_ (by omega)) ?_
    rintro u H12 ⟨hx12, kc, l2, hkc, hnm, hlm, hu⟩
    cases hu
    have hx12 : Ext H11 H12 := hx12
    have p12 := p10.goE hx12
    have hl2 := hnm.uniq r6.names
    subst hl2
    simp -implicitDefEqProofs only [mkR_nil, mkR_cons, op, ef, cl, sq, reduceIte, q4, q5, q6, q7, q8, q9, j1, j2, j3, S1]
    refine callB_of _ _ _ _ _ _ _ _ (rkept11 p12.rc (by omega)) ?_
    rintro u H13 ⟨hx13, kd, hkd, hu⟩
    cases hu
    have hx13 : Ext H12 H13 := hx13
    have p13 := p12.goE hx13
    rw [r6.enc fun x hx => (p6.rc.ko x hx).1]
    simp -implicitDefEqProofs only [mkR_nil, mkR_cons, op, ef, cl, sq, reduceIte, q4, q5, q6, q7, q8, q9, j1, j2, j3, S1]
    refine callB_of _ _ _ _ _ _ _ _ (sameK20 kc kd a (K.map Kd.nm) (by rw [List.length_map]; omega) p6.at_.keys _) ?_
    rintro u H14 ⟨hu, hx14⟩
    cases hu
    have hx14 : Ext H13 H14 := hx14
    have p14 := p13.goE hx14
    have h1 := and1i i (by omega)
    by_cases hodd : i % 2 = 1
    rotate_left
    · have hev : ¬ ((i % 2 : Nat) : Int) = 1 := by omega
      have hev2 : (((i % 2 : Nat) : Int) == 1) = false := by simpa using hev
      simp -implicitDefEqProofs only [mkR_nil, mkR_cons, op, ef, cl, sq, reduceIte, q4, q5, q6, q7, q8, q9, j1, j2, j3, S1, g10, h1, hev2, wsi]
      exact ⟨i + 1, by omega, .i ⟨a, F, G, tK, tL, K, L, n, g9, hn0, hn7, p14, r6, s6⟩, rfl, hlt⟩
    have hod : (((i % 2 : Nat) : Int) == 1) = true := by rw [hodd]; rfl
    simp -implicitDefEqProofs only [mkR_nil, mkR_cons, op, ef, cl, sq, reduceIte, q4, q5, q6, q7, q8, q9, j1, j2, j3, S1, g10, h1, hod, natOf_nat, iw, ir, eZ, ldc1]
    refine callB_of _ _ _ _ _ _ _ _ (collectB p14 r6 (by omega) w r) ?_
    rintro u H15 ⟨⟨ke, hu⟩, p15⟩
    cases hu
    simp -implicitDefEqProofs only [mkR_nil, mkR_cons, op, ef, cl, sq, reduceIte, q4, q5, q6, q7, q8, q9, j1, j2, j3, S1, g10, natOf_nat, iw, ir, eZ, ldc1]
    refine callB_of _ _ _ _ _ _ _ _ (rcollectB p15 r6 (by omega) w r) ?_
    rintro u H16 ⟨⟨kf, hu⟩, G', tK', K', p16, r16⟩
    cases hu
    have s16 := s6.cut w r (K.map Kd.nm)
    have hK16 := r16.len p16.at_
    obtain ⟨a', ha'⟩ : ∃ a', a' = cutR a w r (K.map Kd.nm) := ⟨_, rfl⟩
    rw [← ha'] at p16 r16 s16
    simp -implicitDefEqProofs only [mkR_nil, mkR_cons, op, ef, cl, sq, reduceIte, q4, q5, q6, q7, q8, q9, j1, j2, j3, S1]
    refine callB_of _ _ _ _ _ _ _ _ (sameN10 ke kf _ _ _ hdl) ?_
    rintro u H17 ⟨hu, rfl⟩
    cases hu
    simp -implicitDefEqProofs only [mkR_nil, mkR_cons, op, ef, cl, sq, reduceIte, q4, q5, q6, q7, q8, q9, j1, j2, j3, S1]
    refine callB_of _ _ _ _ _ _ _ _ (keptA p16.at_ (by omega)) ?_
    rintro u H18 ⟨hx18, kg, l2, hkg, hnm, hlm, hu⟩
    cases hu
    have hx18 : Ext H17 H18 := hx18
    have p18 := p16.goE hx18
    have hl2 := hnm.uniq r16.names
    subst hl2
    simp -implicitDefEqProofs only [mkR_nil, mkR_cons, op, ef, cl, sq, reduceIte, q4, q5, q6, q7, q8, q9, j1, j2, j3, S1]
    refine callB_of _ _ _ _ _ _ _ _ (rkept11 p18.rc (by omega)) ?_
    rintro u H19 ⟨hx19, kh, hkh, hu⟩
    cases hu
    have hx19 : Ext H18 H19 := hx19
    have p19 := p18.goE hx19
    rw [r16.enc fun x hx => (p16.rc.ko x hx).1]
    simp -implicitDefEqProofs only [mkR_nil, mkR_cons, op, ef, cl, sq, reduceIte, q4, q5, q6, q7, q8, q9, j1, j2, j3, S1]
    refine callB_of _ _ _ _ _ _ _ _ (sameK20 kg kh a' (K'.map Kd.nm) (by rw [List.length_map]; omega) p16.at_.keys _) ?_
    rintro u H20 ⟨hu, hx20⟩
    cases hu
    have hx20 : Ext H19 H20 := hx20
    simp -implicitDefEqProofs only [mkR_nil, mkR_cons, op, ef, cl, sq, reduceIte, q4, q5, q6, q7, q8, q9, j1, j2, j3, S1, g10, wsi]
    exact ⟨i + 1, by omega, .i ⟨a', F, G', tK', tL, K', L, n, g9, hn0, hn7, p19.goE hx20, r16, s16⟩, rfl, hlt⟩
  rintro R H4 h4
  obtain ⟨a, F, G, tK, tL, K, L, n, g9, hn0, hn7, p4, r4, s4⟩ : AnsP b p l.length (R 9) H4 := h4
  have hK := r4.len p4.at_
  have hL := r4.llen
  simp -implicitDefEqProofs only [mkR_nil, mkR_cons, op, ef, cl, sq, reduceIte, q4, q5, q6, q7, q8, q9, j1, j2, j3, S1]
  refine callB_of _ _ _ _ _ _ _ _ (dueNo .nilp 0 0 _ (.inl rfl)) ?_
  rintro u H5 ⟨hu, rfl⟩
  cases hu
  simp -implicitDefEqProofs only [mkR_nil, mkR_cons, op, ef, cl, sq, reduceIte, q4, q5, q6, q7, q8, q9, j1, j2, j3, S1]
  refine callB_of _ _ _ _ _ _ _ _ (collectNo .nilp 0 0 _ (.inl rfl)) ?_
  rintro u H6 ⟨hu, rfl⟩
  cases hu
  simp -implicitDefEqProofs only [mkR_nil, mkR_cons, op, ef, cl, sq, reduceIte, q4, q5, q6, q7, q8, q9, j1, j2, j3, S1]
  refine callB_of _ _ _ _ _ _ _ _ (nextNo .nilp 0 _ (.inl rfl)) ?_
  rintro u H7 ⟨hu, rfl⟩
  cases hu
  simp -implicitDefEqProofs only [mkR_nil, mkR_cons, op, ef, cl, sq, reduceIte, q4, q5, q6, q7, q8, q9, j1, j2, j3, S1]
  refine callB_of _ _ _ _ _ _ _ _ (keptA p4.at_ (by omega)) ?_
  rintro u H8 ⟨hx8, kc, l2, hkc, hnm, hlm, hu⟩
  cases hu
  have hx8 : Ext H7 H8 := hx8
  have p8 := p4.goE hx8
  have hl2 := hnm.uniq r4.names
  subst hl2
  simp -implicitDefEqProofs only [mkR_nil, mkR_cons, op, ef, cl, sq, reduceIte, q4, q5, q6, q7, q8, q9, j1, j2, j3, S1]
  refine callB_of _ _ _ _ _ _ _ _ (rkept11 p8.rc (by omega)) ?_
  rintro u H9 ⟨hx9, kd, hkd, hu⟩
  cases hu
  have hx9 : Ext H8 H9 := hx9
  have p9 := p8.goE hx9
  rw [r4.enc fun x hx => (p4.rc.ko x hx).1]
  simp -implicitDefEqProofs only [mkR_nil, mkR_cons, op, ef, cl, sq, reduceIte, q4, q5, q6, q7, q8, q9, j1, j2, j3, S1]
  refine callB_of _ _ _ _ _ _ _ _ (sameK20 kc kd a (K.map Kd.nm) (by rw [List.length_map]; omega) p4.at_.keys _) ?_
  rintro u H10 ⟨hu, hx10⟩
  cases hu
  have hx10 : Ext H9 H10 := hx10
  have p10 := p9.goE hx10
  simp -implicitDefEqProofs only [mkR_nil, mkR_cons, op, ef, cl, sq, reduceIte, q4, q5, q6, q7, q8, q9, j1, j2, j3, S1]
  refine callB_of _ _ _ _ _ _ _ _ (lastsA p10.at_ s4.few12) ?_
  rintro u H11 ⟨hx11, kg, l2, hkg, hnl, hlm2, hu⟩
  cases hu
  have hx11 : Ext H10 H11 := hx11
  have p11 := p10.goE hx11
  have hl2 := hnl.uniq r4.lnames
  subst hl2
  rw [r4.lenc]
  simp -implicitDefEqProofs only [mkR_nil, mkR_cons, op, ef, cl, sq, reduceIte, q4, q5, q6, q7, q8, q9, j1, j2, j3, S1]
  refine callB_of _ _ _ _ _ _ _ _ (rlasts14 p11.rc (by omega)) ?_
  rintro u H12 ⟨hx12, kh, hkh, hu⟩
  cases hu
  simp -implicitDefEqProofs only [mkR_nil, mkR_cons, op, ef, cl, sq, reduceIte, q4, q5, q6, q7, q8, q9, j1, j2, j3, S1]
  refine callB_of _ _ _ _ _ _ _ _ (sameN22 kg kh L L _ (by omega)) ?_
  rintro u H13 ⟨hu, rfl⟩
  cases hu
  simp -implicitDefEqProofs only [mkR_nil, mkR_cons, op, ef, cl, sq, reduceIte, q4, q5, q6, q7, q8, q9, j1, j2, j3, S1]
end Go.Proofs.YtodegnhallgnkaaGreat.St
end

section
namespace Go.Proofs.YtodegnhallgnkaaGreat
open Go.ChangeShapes Go.WideShapes Go.ChangeAt Go.RowKit
namespace Law
theorem own : ownKnob Tryz.prog.godebug = none := by kernel_rfl
theorem kids : Kids Tryz.prog (· < Tryz.prog.types.size) := kids_rows (by kernel_rfl) (by kernel_rfl)
noncomputable def hzB : Bool := (List.range Tryz.prog.types.size).all fun t => match Tryz.prog.underlying t with
  | some (.slice e) => decide (0 < Tryz.prog.cellsOf e)
  | _ => true
theorem hzB_ok : hzB = true := by kernel_rfl
theorem hz : ∀ t e, t < Tryz.prog.types.size → Tryz.prog.underlying t = some (.slice e) → 0 < Tryz.prog.cellsOf e := fun t e ht h => by
  have := (List.all_eq_true.1 hzB_ok) t (List.mem_range.2 ht)
  rw [h] at this
  simpa using this
mutual
theorem bulk_eq {H : Type} : ∀ d : DataW H, Go.Rmp.bulkW d = Rows.uptoBulk d
  | .lit l => by cases l <;> simp [Go.Rmp.bulkW, Rows.uptoBulk]
  | .nil => by simp [Go.Rmp.bulkW, Rows.uptoBulk]
  | .ptr d => by simp [Go.Rmp.bulkW, Rows.uptoBulk, bulk_eq d]
  | .slice elems spare => by simp [Go.Rmp.bulkW, Rows.uptoBulk, bulks_eq elems, bulks_eq spare]
  | .agg parts => by simp [Go.Rmp.bulkW, Rows.uptoBulk, bulks_eq parts]
  | .iface _ d => by simp [Go.Rmp.bulkW, Rows.uptoBulk, bulk_eq d]
  | .map entries => by simp [Go.Rmp.bulkW, Rows.uptoBulk, bulkE_eq entries]
  | .held _ => by simp [Go.Rmp.bulkW, Rows.uptoBulk]
theorem bulks_eq {H : Type} : ∀ l : List (DataW H), Go.Rmp.bulkAllW l = Rows.uptoBulkAll l
  | [] => by simp [Go.Rmp.bulkAllW, Rows.uptoBulkAll]
  | d :: r => by simp [Go.Rmp.bulkAllW, Rows.uptoBulkAll, bulk_eq d, bulks_eq r]
theorem bulkE_eq {H : Type} : ∀ l : List (Lit × DataW H), Go.Rmp.bulkEntriesW l = Rows.uptoBulkEntries l
  | [] => by simp [Go.Rmp.bulkEntriesW, Rows.uptoBulkEntries]
  | x :: r => by simp [Go.Rmp.bulkEntriesW, Rows.uptoBulkEntries, bulkEn_eq x, bulkE_eq r]
theorem bulkEn_eq {H : Type} : ∀ x : Lit × DataW H, Go.Rmp.bulkEntryW x = Rows.uptoBulkEntry x
  | (l, d) => by cases l <;> simp [Go.Rmp.bulkEntryW, Rows.uptoBulkEntry, bulk_eq d]
end
theorem bulk_ok {H : Type} {ds : List (DataW H)} (h : Rows.uptoSmall H ds = true) : Go.Rmp.bulkAllW ds ≤ 1048576 := by
  rw [bulks_eq]; simpa [Rows.uptoSmall] using h
theorem hasS {B : Nat} {t : Go.Rmp.T} (h : Go.Rmp.HasSh B .str t) : ∃ s, t = .str s ∧ s.size ≤ B := by
  cases h with | str h hB => exact ⟨_, rfl, hB⟩
theorem hasI {B : Nat} {t : Go.Rmp.T} (h : Go.Rmp.HasSh B (.int .i64) t) : ∃ n : Int, t = .int .i64 n ∧ St.I64 n := by
  cases h with | int h =>
    rename_i n
    exact ⟨n, rfl, by simpa [St.I64, Lit.wf, IntKind.min, IntKind.max, IntKind.signed, IntKind.bits] using h⟩
theorem hasU8 {B : Nat} {t : Go.Rmp.T} (h : Go.Rmp.HasSh B (.int .u8) t) : ∃ n : Nat, t = .int .u8 n ∧ n < 256 := by
  cases h with | int h =>
    rename_i n
    have : 0 ≤ n ∧ n ≤ 255 := by simpa [Lit.wf, IntKind.min, IntKind.max, IntKind.signed, IntKind.bits] using h
    exact ⟨n.toNat, by congr 1; omega, by omega⟩
theorem hasU64 {B : Nat} {t : Go.Rmp.T} (h : Go.Rmp.HasSh B (.int .u64) t) : ∃ n : Nat, t = .int .u64 n ∧ n < 18446744073709551616 := by
  cases h with | int h =>
    rename_i n
    have : 0 ≤ n ∧ n ≤ 18446744073709551615 := by simpa [Lit.wf, IntKind.min, IntKind.max, IntKind.signed, IntKind.bits] using h
    exact ⟨n.toNat, by congr 1; omega, by omega⟩
end Law
namespace St
open Go.Rmp
theorem map_of {α : Type} {P : α → Prop} (enc : α → List T) (es : List (List T)) (h : ∀ c ∈ es, ∃ x, c = enc x ∧ P x) : ∃ l : List α, es = l.map enc ∧ ∀ x ∈ l, P x := by
  induction es with
  | nil => exact ⟨[], rfl, by simp⟩
  | cons c es ih =>
    obtain ⟨l, rfl, hl⟩ := ih (fun c hc => h c (List.mem_cons_of_mem _ hc))
    obtain ⟨x, rfl, hx⟩ := h _ List.mem_cons_self
    exact ⟨x :: l, rfl, fun y hy => by rcases List.mem_cons.1 hy with rfl | hy; exact hx; exact hl y hy⟩
theorem hasOs {B : Nat} {t : T} (h : HasSh B (.sl [.int .i64, .int .u64, .int .u8, .int .u8, .str]) t) : ∃ (k : SK) (l : List Opv), t = .sl k (l.map eO) ∧ l.length ≤ B ∧ ∀ o ∈ l, OkO o := by
  cases h with
  | nil => exact ⟨.nil, [], rfl, Nat.zero_le _, by simp⟩
  | sl hl hB h0 h =>
    rename_i es
    obtain ⟨l, rfl, hP⟩ := map_of (P := fun o : Opv => OkO o) eO es fun c hc => by
      have hc1 := h0 c hc
      match c, hc1 with
      | [a, b, d, e, f], _ =>
        obtain ⟨x, rfl, hx⟩ := Law.hasI (h _ hc 0 (.int .i64) a rfl rfl)
        obtain ⟨y, rfl, hy⟩ := Law.hasU64 (h _ hc 1 (.int .u64) b rfl rfl)
        obtain ⟨z, rfl, hz⟩ := Law.hasU8 (h _ hc 2 (.int .u8) d rfl rfl)
        obtain ⟨w, rfl, hw⟩ := Law.hasU8 (h _ hc 3 (.int .u8) e rfl rfl)
        obtain ⟨s, rfl, _⟩ := Law.hasS (h _ hc 4 .str f rfl rfl)
        exact ⟨⟨x, y, z, w, s⟩, rfl, hy, hz, hw⟩
    exact ⟨.arg, l, rfl, by simpa using hB, hP⟩
end St
namespace Law
end Law
namespace St
open Go.Rmp
theorem hasZs {B : Nat} {t : T} (h : HasSh B (.sl [.int .i64]) t) : ∃ (k : SK) (l : List Int), t = .sl k (l.map eZ) ∧ l.length ≤ B := by
  cases h with
  | nil => exact ⟨.nil, [], rfl, Nat.zero_le _⟩
  | sl hl hB h0 h =>
    rename_i es
    have key : ∀ es : List (List T), (∀ c ∈ es, ∃ x, c = eZ x) → ∃ l : List Int, es = l.map eZ := fun es => by
      induction es with
      | nil => exact fun _ => ⟨[], rfl⟩
      | cons c es ih =>
        intro h
        obtain ⟨l, rfl⟩ := ih fun c hc => h c (List.mem_cons_of_mem _ hc)
        obtain ⟨x, rfl⟩ := h _ List.mem_cons_self
        exact ⟨x :: l, rfl⟩
    obtain ⟨l, rfl⟩ := key es fun c hc => by
      have hc1 := h0 c hc
      match c, hc1 with
      | [a], _ =>
        obtain ⟨x, rfl, _⟩ := Law.hasI (h _ hc 0 (.int .i64) a rfl rfl)
        exact ⟨x, rfl⟩
    exact ⟨.arg, l, rfl, by simpa using hB⟩
theorem ops_bk : ∀ l : List Opv, 5 * l.length ≤ bkE (l.map eO)
  | [] => Nat.zero_le _
  | o :: l => by
    have h1 := ops_bk l
    simp -implicitDefEqProofs only [List.map_cons, bkE, eO, bkL, T.bk, List.length_cons]
    omega
end St
namespace Law
end Law
end Go.Proofs.YtodegnhallgnkaaGreat
end

section
namespace Go.Proofs.YtodegnhallgnkaaGreat
open Go.ChangeShapes Go.WideShapes Go.ChangeAt Go.RowKit
namespace Law
theorem retainAnswers_w (as' : List Go.Rmp.T) (hs : Go.Rmp.HasShs 1048576 [Go.Rmp.Sh.sl [.int .i64, .int .u64, .int .u8, .int .u8, .str], Go.Rmp.Sh.sl [.int .i64], Go.Rmp.Sh.sl [.int .i64]] as') (hb : Go.Rmp.bkL as' ≤ 1048576) : Go.Rmp.W Ir.env (.call 3 as') [] (fun o _ => o = .val (.bool true)) := by
  cases hs with | cons h1 hs =>
  cases hs with | cons h2 hs =>
  cases hs with | cons h3 hs =>
  cases hs
  obtain ⟨k, l, rfl, n1, n2⟩ := St.hasOs h1
  obtain ⟨k2, l2, rfl, n3⟩ := St.hasZs h2
  obtain ⟨k3, l3, rfl, n4⟩ := St.hasZs h3
  have := St.ops_bk l
  simp -implicitDefEqProofs only [Go.Rmp.bkL, Go.Rmp.T.bk] at hb
  exact St.answers3 k k2 k3 l l2 l3 (by omega) n3 n4 n2 []
theorem retainAnswers_fn (H : Type) : ∀ ds : List (DataW H), ds.length = Tryz.f3.params.toList.length → Rows.retainAnswersSpec.fn H ds = { results := [.lit (.bool true)], args := ds } := by
  have hn : Tryz.f3.params.toList.length = 3 := by kernel_rfl
  rw [hn]
  intro ds hds
  cases ds with | nil => simp at hds | cons d0 ds =>
  cases ds with | nil => simp at hds | cons d1 ds =>
  cases ds with | nil => simp at hds | cons d2 ds =>
  cases ds with | cons => simp at hds | nil =>
  rfl
set_option maxRecDepth 100000 in
theorem retainAnswers_lifted (os : Os) (started : os.Started) (H : Type) (enc : TypeId × Value → H) (F : Stop.Interp) :
    ReturnsInHanded {} Tryz.checked os 3 .any ((Rows.OpenSpec.upto Rows.retainAnswersSpec).pre6 enc Tryz.prog Tryz.f3 Rows.retainAnswersUptoRow.domain false) (((Rows.OpenSpec.upto Rows.retainAnswersSpec).at F).post enc Tryz.prog Tryz.f3 false true false false) := by
  refine returnsInHanded_of_cond (C := Tryz.checked) (s := Rows.OpenSpec.upto Rows.retainAnswersSpec) (k := Rows.uptoSmall) rfl own started (by kernel_rfl) Tryz.func3
    (OpenSpec.witness (enc := enc) (C := Tryz.checked) (s := Rows.OpenSpec.upto Rows.retainAnswersSpec) (k := Rows.uptoSmall) rfl false ⟨#[], #[.slice .none 0 0, .slice .none 0 0, .slice .none 0 0], []⟩ 8 (by kernel_rfl) (by kernel_rfl) (by kernel_rfl)
      (x := ([.nil, .nil, .nil], [], [])) (by kernel_rfl) rfl (by kernel_rfl)) ?_
  intro W base args ds gs before hval hW _ hk _
  exact Go.Rmp.law_contractB (s := Rows.retainAnswersSpec) (shs := [Go.Rmp.Sh.sl [.int .i64, .int .u64, .int .u8, .int .u8, .str], Go.Rmp.Sh.sl [.int .i64], Go.Rmp.Sh.sl [.int .i64]]) (B := 1048576) (tb := Tryz.f3.resultTypes[0]!) Ir.envOk kids hz (by kernel_rfl) (by intro t ht; exact of_decide_eq_true ((List.all_eq_true.1 (show Tryz.f3.params.toList.all (fun t => decide (t < Tryz.prog.types.size)) = true by kernel_rfl)) t ht)) (by kernel_rfl) (by kernel_rfl) rfl (retainAnswers_fn H) retainAnswers_w base args ds gs before hval hW (bulk_ok hk)
theorem retainAnswers_over : Rows.retainAnswersUptoRow.holds Tryz.pinned (Rows.OpenSpec.upto Rows.retainAnswersSpec) :=
  OpenClaim.holds_of_cond 3 Tryz.f3 rfl rfl rfl rfl rfl rfl rfl ⟨rfl, rfl, rfl, rfl, rfl⟩ rfl rfl rfl rfl rfl (by kernel_rfl) Tryz.func3 (by kernel_rfl)
    (of_decide_eq_true (by kernel_rfl)) (by unfold Func.isWrapper; first | (rw [if_pos (by decide +kernel)]; kernel_rfl) | (rw [if_neg (by decide +kernel)]; exact ⟨rfl, rfl⟩))
    (fun os started H enc _ F => retainAnswers_lifted os started H enc F)
theorem retainAnswers_proved : Rows.RetainAnswersUptoSaid := retainAnswers_over
end Law
end Go.Proofs.YtodegnhallgnkaaGreat
end
