/- Part of a proof of a law of this seat: the machine of plain values, its simulation, and the contracts of the functions that the law reaches. Conditions: none beyond the given row. -/
import Derived.Test.YtpbilghnfldmiaaM2
set_option linter.unusedSimpArgs false
set_option linter.unusedVariables false
set_option maxHeartbeats 4000000
/-! text ShardK -/
section
namespace Go.Proofs.Ytpbilghnfldmiaa.Sx
open Go.Rmp Go.Proofs.Ytpbilghnfldmiaa.Ir
set_option maxRecDepth 10000
theorem mut_at {α : Type} {e : α → List T} {n0 : Nat} {H : Heap} {t : T} {ps : List (Pt α)} (hm : Mut (encPt e) 2 n0 H t ps) {i : Nat} {p : Pt α} (hp : ps[i]? = some p) : ∃ b, H[b]? = some (.cells (msC (encPt e) ps)) ∧ iadT 2 i t = some (.ptr b (i * 2)) ∧ ldcB 1 (i * 2 + 0) (some (.cells (msC (encPt e) ps))) = some [.int .i64 p.part] ∧ ldcB 1 (i * 2 + 1) (some (.cells (msC (encPt e) ps))) = some [.sl p.kk (p.items.map e)] := by
  obtain ⟨b, h1, h2, h3, h4, h5⟩ := mut_get hm hp
  exact ⟨b, h3, h4, by rw [msC_get (n := 2) (encPt_len e) hp 0 1 (by decide)]; rfl, by rw [msC_get (n := 2) (encPt_len e) hp 1 1 (by decide)]; rfl⟩
theorem same_at {α : Type} {ps qs : List (Pt α)} (h : ps.map (fun x => (x.part, x.items)) = qs.map (fun x => (x.part, x.items))) {i : Nat} {p : Pt α} (hp : ps[i]? = some p) : ∃ q, qs[i]? = some q ∧ q.part = p.part ∧ q.items = p.items := by
  have h1 := congrArg (·[i]?) h
  simp -implicitDefEqProofs only [List.getElem?_map, hp, Option.map_some] at h1
  cases hq : qs[i]? with
  | none => rw [hq] at h1; cases h1
  | some q => rw [hq] at h1; simp at h1; exact ⟨q, rfl, h1.1.symm, h1.2.symm⟩
theorem groups5 (k k' : SK) (ks : List ByteArray) (xs : List (ByteArray × ByteArray)) (p : Int) (H : Heap) (hl : ks.length ≤ 1048576) (hs : ∀ s ∈ ks, s.size < 9223372036854775807) (hl' : xs.length ≤ 1048576) (hs' : ∀ s ∈ xs, s.1.size < 9223372036854775807) :
    W env (.call 5 [.sl k (ks.map eS), .sl k' (xs.map eP), .int .i64 p]) H (fun o _ => o = .val (.bool true)) := by
  refine W.fnI rfl rfl rfl ?_
  simp -implicitDefEqProofs only [ir5, op, ef, cl, sq, reduceIte, Int.reduceLT, Int.reduceLE, Int.reduceBEq, Int.reduceBNe, Int.reduceEq, Nat.reduceAdd, Nat.reduceLeDiff, Nat.reduceLT, Nat.reduceEqDiff, S1]
  refine callB_of _ _ _ _ _ _ _ _ (all12 k ks p _ hl hs) ?_
  rintro u H1 ⟨hx1, t1, ps1, hu, hm1, _, hd1⟩
  cases hu
  simp -implicitDefEqProofs only [op, ef, cl, sq, reduceIte, Int.reduceLT, Int.reduceLE, Int.reduceBEq, Int.reduceBNe, Int.reduceEq, Nat.reduceAdd, Nat.reduceLeDiff, Nat.reduceLT, Nat.reduceEqDiff, S1]
  refine callB_of _ _ _ _ _ _ _ _ (all14 k ks p _ hl hs) ?_
  rintro u H2 ⟨hx2, kw1, qs1, hu, he1⟩
  cases hu
  simp -implicitDefEqProofs only [op, ef, cl, sq, reduceIte, Int.reduceLT, Int.reduceLE, Int.reduceBEq, Int.reduceBNe, Int.reduceEq, Nat.reduceAdd, Nat.reduceLeDiff, Nat.reduceLT, Nat.reduceEqDiff, S1]
  refine callB_of _ _ _ _ _ _ _ _ (all15 k' xs p _ hl' hs') ?_
  rintro u H3 ⟨hx3, t2, ps2, hu, hm2, _, hd2⟩
  cases hu
  simp -implicitDefEqProofs only [op, ef, cl, sq, reduceIte, Int.reduceLT, Int.reduceLE, Int.reduceBEq, Int.reduceBNe, Int.reduceEq, Nat.reduceAdd, Nat.reduceLeDiff, Nat.reduceLT, Nat.reduceEqDiff, S1]
  refine callB_of _ _ _ _ _ _ _ _ (all16 k' xs p _ hl' hs') ?_
  rintro u H4 ⟨hx4, kw2, qs2, hu, he2⟩
  cases hu
  simp -implicitDefEqProofs only [op, ef, cl, sq, reduceIte, Int.reduceLT, Int.reduceLE, Int.reduceBEq, Int.reduceBNe, Int.reduceEq, Nat.reduceAdd, Nat.reduceLeDiff, Nat.reduceLT, Nat.reduceEqDiff, S1]
  refine callB_of _ _ _ _ _ _ _ _ (known10 _) ?_
  rintro u H5 ⟨hu, hx5⟩
  have hx5 : Ext H4 H5 := hx5
  cases hu
  have m1 := hm1.ext (hx2.trans (hx3.trans (hx4.trans hx5)))
  have m2 := hm2.ext (hx4.trans hx5)
  have l1 := m1.len
  have l2 := m2.len
  have u1 := hd1.uniq he1
  have u2 := hd2.uniq he2
  have n1 : ps1.length = qs1.length := by simpa using congrArg List.length u1
  have n2 : ps2.length = qs2.length := by simpa using congrArg List.length u2
  have b1 := hd1.len
  have b2 := hd2.len
  simp -implicitDefEqProofs only [op, ef, cl, sq, reduceIte, Int.reduceLT, Int.reduceLE, Int.reduceBEq, Int.reduceBNe, Int.reduceEq, Nat.reduceAdd, Nat.reduceLeDiff, Nat.reduceLT, Nat.reduceEqDiff, S1, l1, l2, List.length_map, n1, n2]
  refine W.loopI (fun (i : Nat) R H' => H' = H5 ∧ R 7 = t1 ∧ R 9 = .sl kw1 (qs1.map (encPt eS)) ∧ R 11 = t2 ∧ R 13 = .sl kw2 (qs2.map (encPt eP)) ∧ R 15 = .int .i64 i ∧ i ≤ ps1.length) (fun i => ps1.length - i) 0 ⟨rfl, rfl, rfl, rfl, rfl, rfl, Nat.zero_le _⟩ ?_
  rintro i R H5 ⟨rfl, h7, h9, h11, h13, h15, hi⟩
  by_cases hlt : i < ps1.length
  · obtain ⟨x, hx⟩ := getP (l := ps1) hlt
    obtain ⟨y, hy, e1, e2⟩ := same_at u1 hx
    obtain ⟨b, g1, g2, g3, g4⟩ := mut_at m1 hx
    have hiy := iadX (e := encPt eS) (encPt_len eS) (by decide) (k := kw1) hy
    have ws := wrap_succ (show i < 9223372036854775807 by omega)
    simp -implicitDefEqProofs only [op, ef, cl, sq, reduceIte, Int.reduceLT, Int.reduceLE, Int.reduceBEq, Int.reduceBNe, Int.reduceEq, Nat.reduceAdd, Nat.reduceLeDiff, Nat.reduceLT, Nat.reduceEqDiff, S1, h7, h9, h15, l1, hlt, natOf_nat, g1, g2, g3, g4, hiy, encPt, e1, e2]
    refine callB_of _ _ _ _ _ _ _ _ (same13 _ _ x.items x.items _ (by have := hd1.items (List.mem_of_getElem? hx); omega)) ?_
    rintro u H6 ⟨hu, rfl⟩
    cases hu
    simp -implicitDefEqProofs only [op, ef, cl, sq, reduceIte, Int.reduceLT, Int.reduceLE, Int.reduceBEq, Int.reduceBNe, Int.reduceEq, Nat.reduceAdd, Nat.reduceLeDiff, Nat.reduceLT, Nat.reduceEqDiff, S1, h7, h9, h11, h13, h15, ws]
    exact ⟨i + 1, by omega, rfl, by omega⟩
  · simp -implicitDefEqProofs only [op, ef, cl, sq, reduceIte, Int.reduceLT, Int.reduceLE, Int.reduceBEq, Int.reduceBNe, Int.reduceEq, Nat.reduceAdd, Nat.reduceLeDiff, Nat.reduceLT, Nat.reduceEqDiff, S1, h7, h9, h11, h13, h15, l1, hlt]
    refine W.loopI (fun (i : Nat) R H' => H' = H5 ∧ R 11 = t2 ∧ R 13 = .sl kw2 (qs2.map (encPt eP)) ∧ R 16 = .int .i64 i ∧ i ≤ ps2.length) (fun i => ps2.length - i) 0 ⟨rfl, by simp -implicitDefEqProofs only [op, ef, cl, sq, reduceIte, Int.reduceLT, Int.reduceLE, Int.reduceBEq, Int.reduceBNe, Int.reduceEq, Nat.reduceAdd, Nat.reduceLeDiff, Nat.reduceLT, Nat.reduceEqDiff, S1, h11], by simp -implicitDefEqProofs only [op, ef, cl, sq, reduceIte, Int.reduceLT, Int.reduceLE, Int.reduceBEq, Int.reduceBNe, Int.reduceEq, Nat.reduceAdd, Nat.reduceLeDiff, Nat.reduceLT, Nat.reduceEqDiff, S1, h13], rfl, Nat.zero_le _⟩ ?_
    rintro i R _ ⟨rfl, h11, h13, h16, hi⟩
    by_cases hlt : i < ps2.length
    · obtain ⟨x, hx⟩ := getP (l := ps2) hlt
      obtain ⟨y, hy, e1, e2⟩ := same_at u2 hx
      obtain ⟨b, g1, g2, g3, g4⟩ := mut_at m2 hx
      have hiy := iadX (e := encPt eP) (encPt_len eP) (by decide) (k := kw2) hy
      have ws := wrap_succ (show i < 9223372036854775807 by omega)
      simp -implicitDefEqProofs only [op, ef, cl, sq, reduceIte, Int.reduceLT, Int.reduceLE, Int.reduceBEq, Int.reduceBNe, Int.reduceEq, Nat.reduceAdd, Nat.reduceLeDiff, Nat.reduceLT, Nat.reduceEqDiff, S1, h11, h13, h16, l2, hlt, natOf_nat, g1, g2, g3, g4, hiy, encPt, e1, e2]
      refine callB_of _ _ _ _ _ _ _ _ (same17 _ _ x.items x.items _ (by have := hd2.items (List.mem_of_getElem? hx); omega)) ?_
      rintro u H6 ⟨hu, rfl⟩
      cases hu
      simp -implicitDefEqProofs only [op, ef, cl, sq, reduceIte, Int.reduceLT, Int.reduceLE, Int.reduceBEq, Int.reduceBNe, Int.reduceEq, Nat.reduceAdd, Nat.reduceLeDiff, Nat.reduceLT, Nat.reduceEqDiff, S1, h11, h13, h16, ws]
      exact ⟨i + 1, by omega, rfl, by omega⟩
    · simp -implicitDefEqProofs only [op, ef, cl, sq, reduceIte, Int.reduceLT, Int.reduceLE, Int.reduceBEq, Int.reduceBNe, Int.reduceEq, Nat.reduceAdd, Nat.reduceLeDiff, Nat.reduceLT, Nat.reduceEqDiff, S1, h11, h13, h16, l2, hlt]
end Go.Proofs.Ytpbilghnfldmiaa.Sx
end

/-! text ShardRb -/
section
namespace Go.Proofs.Ytpbilghnfldmiaa
open Go.ChangeShapes Go.WideShapes Go.ChangeAt Go.RowKit
namespace Sx
open Go.Rmp
theorem map_of {α : Type} {P : α → Prop} (enc : α → List T) (es : List (List T)) (h : ∀ c ∈ es, ∃ x, c = enc x ∧ P x) : ∃ l : List α, es = l.map enc ∧ ∀ x ∈ l, P x := by
  induction es with
  | nil => exact ⟨[], rfl, by simp⟩
  | cons c es ih =>
    obtain ⟨l, rfl, hl⟩ := ih (fun c hc => h c (List.mem_cons_of_mem _ hc))
    obtain ⟨x, rfl, hx⟩ := h _ List.mem_cons_self
    exact ⟨x :: l, rfl, fun y hy => by rcases List.mem_cons.1 hy with rfl | hy; exact hx; exact hl y hy⟩
theorem hasSs {B : Nat} {t : T} (h : HasSh B (.sl [.str]) t) : ∃ (k : SK) (l : List ByteArray), t = .sl k (l.map eS) ∧ l.length ≤ B ∧ ∀ s ∈ l, s.size ≤ B := by
  cases h with
  | nil => exact ⟨.nil, [], rfl, Nat.zero_le _, by simp⟩
  | sl hl hB h0 h =>
    rename_i es
    obtain ⟨l, rfl, hP⟩ := map_of (P := fun s => s.size ≤ B) eS es fun c hc => by
      have hc1 := h0 c hc
      match c, hc1 with
      | [a], _ => obtain ⟨s, rfl, hs⟩ := Law.hasS (h _ hc 0 .str a rfl rfl); exact ⟨s, rfl, hs⟩
    exact ⟨.arg, l, rfl, by simpa using hB, hP⟩
theorem hasPs {B : Nat} {t : T} (h : HasSh B (.sl [.str, .str]) t) : ∃ (k : SK) (l : List (ByteArray × ByteArray)), t = .sl k (l.map eP) ∧ l.length ≤ B ∧ ∀ s ∈ l, s.1.size ≤ B := by
  cases h with
  | nil => exact ⟨.nil, [], rfl, Nat.zero_le _, by simp⟩
  | sl hl hB h0 h =>
    rename_i es
    obtain ⟨l, rfl, hP⟩ := map_of (P := fun s : ByteArray × ByteArray => s.1.size ≤ B) eP es fun c hc => by
      have hc1 := h0 c hc
      match c, hc1 with
      | [a, b], _ =>
        obtain ⟨s, rfl, hs⟩ := Law.hasS (h _ hc 0 .str a rfl rfl)
        obtain ⟨s', rfl, _⟩ := Law.hasS (h _ hc 1 .str b rfl rfl)
        exact ⟨(s, s'), rfl, hs⟩
    exact ⟨.arg, l, rfl, by simpa using hB, hP⟩
end Sx
namespace Law
theorem shardGroups_w (as' : List Go.Rmp.T) (hs : Go.Rmp.HasShs 1048576 [Go.Rmp.Sh.sl [.str], .sl [.str, .str], .int .i64] as') : Go.Rmp.W Ir.env (.call 5 as') [] (fun o _ => o = .val (.bool true)) := by
  cases hs with | cons h1 hs =>
  cases hs with | cons h2 hs =>
  cases hs with | cons h3 hs =>
  cases hs
  obtain ⟨k, l, rfl, n1, n2⟩ := Sx.hasSs h1
  obtain ⟨k', l', rfl, n3, n4⟩ := Sx.hasPs h2
  obtain ⟨p, rfl⟩ := hasI h3
  exact Sx.groups5 k k' l l' p [] n1 (fun s hs => by have := n2 s hs; omega) n3 (fun s hs => by have := n4 s hs; omega)

theorem shardGroups_fn (H : Type) : ∀ ds : List (DataW H), ds.length = Try.f5.params.toList.length → Rows.shardGroupsSpec.fn H ds = { results := [.lit (.bool true)], args := ds } := by
  have hn : Try.f5.params.toList.length = 3 := by kernel_rfl
  rw [hn]
  intro ds hds
  cases ds with | nil => simp at hds | cons d0 ds =>
  cases ds with | nil => simp at hds | cons d1 ds =>
  cases ds with | nil => simp at hds | cons d2 ds =>
  cases ds with | cons => simp at hds | nil =>
  rfl
set_option maxRecDepth 100000 in
theorem shardGroups_lifted (os : Os) (started : os.Started) (H : Type) (enc : TypeId × Value → H) (F : Stop.Interp) :
    ReturnsInHanded {} Try.checked os 5 .any ((Rows.OpenSpec.upto Rows.shardGroupsSpec).pre6 enc Try.prog Try.f5 Rows.shardGroupsUptoRow.domain false) (((Rows.OpenSpec.upto Rows.shardGroupsSpec).at F).post enc Try.prog Try.f5 false true false false) := by
  refine returnsInHanded_of_cond (C := Try.checked) (s := Rows.OpenSpec.upto Rows.shardGroupsSpec) (k := Rows.uptoSmall) rfl own started (by kernel_rfl) Try.func5
    (OpenSpec.witness (enc := enc) (C := Try.checked) (s := Rows.OpenSpec.upto Rows.shardGroupsSpec) (k := Rows.uptoSmall) rfl false ⟨#[], #[.slice .none 0 0, .slice .none 0 0, .int .i64 0], []⟩ 8 (by kernel_rfl) (by kernel_rfl) (by kernel_rfl)
      (x := ([.nil, .nil, .lit (.int .i64 0)], [], [])) (by kernel_rfl) rfl (by kernel_rfl)) ?_
  intro W base args ds gs before hval hW _ hk _
  exact Go.Rmp.law_contract (s := Rows.shardGroupsSpec) (shs := [Go.Rmp.Sh.sl [.str], .sl [.str, .str], .int .i64]) (B := 1048576) (tb := Try.f5.resultTypes[0]!) Ir.envOk kids hz (by kernel_rfl) (by intro t ht; exact of_decide_eq_true ((List.all_eq_true.1 (show Try.f5.params.toList.all (fun t => decide (t < Try.prog.types.size)) = true by kernel_rfl)) t ht)) (by kernel_rfl) (by kernel_rfl) rfl (shardGroups_fn H) shardGroups_w base args ds gs before hval hW (bulk_ok hk)
theorem shardGroups_over : Rows.shardGroupsUptoRow.holds Try.pinned (Rows.OpenSpec.upto Rows.shardGroupsSpec) :=
  OpenClaim.holds_of_cond 5 Try.f5 rfl rfl rfl rfl rfl rfl rfl ⟨rfl, rfl, rfl, rfl, rfl⟩ rfl rfl rfl rfl rfl (by kernel_rfl) Try.func5 (by kernel_rfl)
    (of_decide_eq_true (by kernel_rfl)) (by unfold Func.isWrapper; first | (rw [if_pos (by decide +kernel)]; kernel_rfl) | (rw [if_neg (by decide +kernel)]; exact ⟨rfl, rfl⟩))
    (fun os started H enc _ F => shardGroups_lifted os started H enc F)
theorem shardGroups_proved : Rows.ShardGroupsUptoSaid := shardGroups_over
end Law
end Go.Proofs.Ytpbilghnfldmiaa
end
