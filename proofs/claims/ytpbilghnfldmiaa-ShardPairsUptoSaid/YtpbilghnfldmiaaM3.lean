/- Part of a proof of a law of this seat: the machine of plain values, its simulation, and the contracts of the functions that the law reaches. Conditions: none beyond the given row. -/
import Derived.Test.YtpbilghnfldmiaaM2
set_option linter.unusedSimpArgs false
set_option linter.unusedVariables false
set_option maxHeartbeats 4000000
/-! text ShardK -/
section
namespace Go.Proofs.Ytpbilghnfldmiaa.Sx
open Go.Rmp Go.Proofs.Ytpbilghnfldmiaa.Ir
set_option maxRecDepth 10000
theorem mut_at {α : Type} {e : α → List T} {n0 : Nat} {H : Heap} {t : T} {ps : List (Pt α)} (hm : Mut (encPt e) 2 n0 H t ps) {i : Nat} {p : Pt α} (hp : ps[i]? = some p) : ∃ b, H[b]? = some (.cells (msC (encPt e) ps)) ∧ iadT 2 i t = some (.ptr b (i * 2)) ∧ ldcB 1 (i * 2 + 0) (some (.cells (msC (encPt e) ps))) = some [.int .i64 p.part] ∧ ldcB 1 (i * 2 + 1) (some (.cells (msC (encPt e) ps))) = some [.sl p.kk (p.items.map e)] := by
  obtain ⟨b, h1, h2, h3, h4, h5⟩ := mut_get hm hp
  exact ⟨b, h3, h4, by rw [msC_get (n := 2) (encPt_len e) hp 0 1 (by decide)]; rfl, by rw [msC_get (n := 2) (encPt_len e) hp 1 1 (by decide)]; rfl⟩
theorem same_at {α : Type} {ps qs : List (Pt α)} (h : ps.map (fun x => (x.part, x.items)) = qs.map (fun x => (x.part, x.items))) {i : Nat} {p : Pt α} (hp : ps[i]? = some p) : ∃ q, qs[i]? = some q ∧ q.part = p.part ∧ q.items = p.items := by
  have h1 := congrArg (·[i]?) h
  simp -implicitDefEqProofs only [List.getElem?_map, hp, Option.map_some] at h1
  cases hq : qs[i]? with
  | none => rw [hq] at h1; cases h1
  | some q => rw [hq] at h1; simp at h1; exact ⟨q, rfl, h1.1.symm, h1.2.symm⟩
theorem groups5 (k k' : SK) (ks : List ByteArray) (xs : List (ByteArray × ByteArray)) (p : Int) (H : Heap) (hl : ks.length ≤ 1048576) (hs : ∀ s ∈ ks, s.size < 9223372036854775807) (hl' : xs.length ≤ 1048576) (hs' : ∀ s ∈ xs, s.1.size < 9223372036854775807) :
    W env (.call 5 [.sl k (ks.map eS), .sl k' (xs.map eP), .int .i64 p]) H (fun o _ => o = .val (.bool true)) := by
  refine W.fnI rfl rfl rfl ?_
  simp -implicitDefEqProofs only [ir5, op, ef, cl, sq, reduceIte, Int.reduceLT, Int.reduceLE, Int.reduceBEq, Int.reduceBNe, Int.reduceEq, Nat.reduceAdd, Nat.reduceLeDiff, Nat.reduceLT, Nat.reduceEqDiff, S1]
  refine callB_of _ _ _ _ _ _ _ _ (all12 k ks p _ hl hs) ?_
  rintro u H1 ⟨hx1, t1, ps1, hu, hm1, _, hd1⟩
  cases hu
  simp -implicitDefEqProofs only [op, ef, cl, sq, reduceIte, Int.reduceLT, Int.reduceLE, Int.reduceBEq, Int.reduceBNe, Int.reduceEq, Nat.reduceAdd, Nat.reduceLeDiff, Nat.reduceLT, Nat.reduceEqDiff, S1]
  refine callB_of _ _ _ _ _ _ _ _ (all14 k ks p _ hl hs) ?_
  rintro u H2 ⟨hx2, kw1, qs1, hu, he1⟩
  cases hu
  simp -implicitDefEqProofs only [op, ef, cl, sq, reduceIte, Int.reduceLT, Int.reduceLE, Int.reduceBEq, Int.reduceBNe, Int.reduceEq, Nat.reduceAdd, Nat.reduceLeDiff, Nat.reduceLT, Nat.reduceEqDiff, S1]
  refine callB_of _ _ _ _ _ _ _ _ (all15 k' xs p _ hl' hs') ?_
  rintro u H3 ⟨hx3, t2, ps2, hu, hm2, _, hd2⟩
  cases hu
  simp -implicitDefEqProofs only [op, ef, cl, sq, reduceIte, Int.reduceLT, Int.reduceLE, Int.reduceBEq, Int.reduceBNe, Int.reduceEq, Nat.reduceAdd, Nat.reduceLeDiff, Nat.reduceLT, Nat.reduceEqDiff, S1]
  refine callB_of _ _ _ _ _ _ _ _ (all16 k' xs p _ hl' hs') ?_
  rintro u H4 ⟨hx4, kw2, qs2, hu, he2⟩
  cases hu
  simp -implicitDefEqProofs only [op, ef, cl, sq, reduceIte, Int.reduceLT, Int.reduceLE, Int.reduceBEq, Int.reduceBNe, Int.reduceEq, Nat.reduceAdd, Nat.reduceLeDiff, Nat.reduceLT, Nat.reduceEqDiff, S1]
  refine callB_of _ _ _ _ _ _ _ _ (known10 _) ?_
  rintro u H5 ⟨hu, hx5⟩
  have hx5 : Ext H4 H5 := hx5
  cases hu
  have m1 := hm1.ext (hx2.trans (hx3.trans (hx4.trans hx5)))
  have m2 := hm2.ext (hx4.trans hx5)
  have l1 := m1.len
  have l2 := m2.len
  have u1 := hd1.uniq he1
  have u2 := hd2.uniq he2
  have n1 : ps1.length = qs1.length := by simpa using congrArg List.length u1
  have n2 : ps2.length = qs2.length := by simpa using congrArg List.length u2
  have b1 := hd1.len
  have b2 := hd2.len
  simp -implicitDefEqProofs only [op, ef, cl, sq, reduceIte, Int.reduceLT, Int.reduceLE, Int.reduceBEq, Int.reduceBNe, Int.reduceEq, Nat.reduceAdd, Nat.reduceLeDiff, Nat.reduceLT, Nat.reduceEqDiff, S1, l1, l2, List.length_map, n1, n2]
  refine W.loopI (fun (i : Nat) R H' => H' = H5 ∧ R 7 = t1 ∧ R 9 = .sl kw1 (qs1.map (encPt eS)) ∧ R 11 = t2 ∧ R 13 = .sl kw2 (qs2.map (encPt eP)) ∧ R 15 = .int .i64 i ∧ i ≤ ps1.length) (fun i => ps1.length - i) 0 ⟨rfl, rfl, rfl, rfl, rfl, rfl, Nat.zero_le _⟩ ?_
  rintro i R H5 ⟨rfl, h7, h9, h11, h13, h15, hi⟩
  by_cases hlt : i < ps1.length
  · obtain ⟨x, hx⟩ := getP (l := ps1) hlt
    obtain ⟨y, hy, e1, e2⟩ := same_at u1 hx
    obtain ⟨b, g1, g2, g3, g4⟩ := mut_at m1 hx
    have hiy := iadX (e := encPt eS) (encPt_len eS) (by decide) (k := kw1) hy
    have ws := wrap_succ (show i < 9223372036854775807 by omega)
    simp -implicitDefEqProofs only [op, ef, cl, sq, reduceIte, Int.reduceLT, Int.reduceLE, Int.reduceBEq, Int.reduceBNe, Int.reduceEq, Nat.reduceAdd, Nat.reduceLeDiff, Nat.reduceLT, Nat.reduceEqDiff, S1, h7, h9, h15, l1, hlt, natOf_nat, g1, g2, g3, g4, hiy, encPt, e1, e2]
    refine callB_of _ _ _ _ _ _ _ _ (same13 _ _ x.items x.items _ (by have := hd1.items (List.mem_of_getElem? hx); omega)) ?_
    rintro u H6 ⟨hu, rfl⟩
    cases hu
    simp -implicitDefEqProofs only [op, ef, cl, sq, reduceIte, Int.reduceLT, Int.reduceLE, Int.reduceBEq, Int.reduceBNe, Int.reduceEq, Nat.reduceAdd, Nat.reduceLeDiff, Nat.reduceLT, Nat.reduceEqDiff, S1, h7, h9, h11, h13, h15, ws]
    exact ⟨i + 1, by omega, rfl, by omega⟩
  · simp -implicitDefEqProofs only [op, ef, cl, sq, reduceIte, Int.reduceLT, Int.reduceLE, Int.reduceBEq, Int.reduceBNe, Int.reduceEq, Nat.reduceAdd, Nat.reduceLeDiff, Nat.reduceLT, Nat.reduceEqDiff, S1, h7, h9, h11, h13, h15, l1, hlt]
    refine W.loopI (fun (i : Nat) R H' => H' = H5 ∧ R 11 = t2 ∧ R 13 = .sl kw2 (qs2.map (encPt eP)) ∧ R 16 = .int .i64 i ∧ i ≤ ps2.length) (fun i => ps2.length - i) 0 ⟨rfl, by simp -implicitDefEqProofs only [op, ef, cl, sq, reduceIte, Int.reduceLT, Int.reduceLE, Int.reduceBEq, Int.reduceBNe, Int.reduceEq, Nat.reduceAdd, Nat.reduceLeDiff, Nat.reduceLT, Nat.reduceEqDiff, S1, h11], by simp -implicitDefEqProofs only [op, ef, cl, sq, reduceIte, Int.reduceLT, Int.reduceLE, Int.reduceBEq, Int.reduceBNe, Int.reduceEq, Nat.reduceAdd, Nat.reduceLeDiff, Nat.reduceLT, Nat.reduceEqDiff, S1, h13], rfl, Nat.zero_le _⟩ ?_
    rintro i R _ ⟨rfl, h11, h13, h16, hi⟩
    by_cases hlt : i < ps2.length
    · obtain ⟨x, hx⟩ := getP (l := ps2) hlt
      obtain ⟨y, hy, e1, e2⟩ := same_at u2 hx
      obtain ⟨b, g1, g2, g3, g4⟩ := mut_at m2 hx
      have hiy := iadX (e := encPt eP) (encPt_len eP) (by decide) (k := kw2) hy
      have ws := wrap_succ (show i < 9223372036854775807 by omega)
      simp -implicitDefEqProofs only [op, ef, cl, sq, reduceIte, Int.reduceLT, Int.reduceLE, Int.reduceBEq, Int.reduceBNe, Int.reduceEq, Nat.reduceAdd, Nat.reduceLeDiff, Nat.reduceLT, Nat.reduceEqDiff, S1, h11, h13, h16, l2, hlt, natOf_nat, g1, g2, g3, g4, hiy, encPt, e1, e2]
      refine callB_of _ _ _ _ _ _ _ _ (same17 _ _ x.items x.items _ (by have := hd2.items (List.mem_of_getElem? hx); omega)) ?_
      rintro u H6 ⟨hu, rfl⟩
      cases hu
      simp -implicitDefEqProofs only [op, ef, cl, sq, reduceIte, Int.reduceLT, Int.reduceLE, Int.reduceBEq, Int.reduceBNe, Int.reduceEq, Nat.reduceAdd, Nat.reduceLeDiff, Nat.reduceLT, Nat.reduceEqDiff, S1, h11, h13, h16, ws]
      exact ⟨i + 1, by omega, rfl, by omega⟩
    · simp -implicitDefEqProofs only [op, ef, cl, sq, reduceIte, Int.reduceLT, Int.reduceLE, Int.reduceBEq, Int.reduceBNe, Int.reduceEq, Nat.reduceAdd, Nat.reduceLeDiff, Nat.reduceLT, Nat.reduceEqDiff, S1, h11, h13, h16, l2, hlt]
end Go.Proofs.Ytpbilghnfldmiaa.Sx
end

/-! text ShardRb -/
section
namespace Go.Proofs.Ytpbilghnfldmiaa
open Go.ChangeShapes Go.WideShapes Go.ChangeAt Go.RowKit
namespace Sx
open Go.Rmp
theorem map_of {α : Type} {P : α → Prop} (enc : α → List T) (es : List (List T)) (h : ∀ c ∈ es, ∃ x, c = enc x ∧ P x) : ∃ l : List α, es = l.map enc ∧ ∀ x ∈ l, P x := by
  induction es with
  | nil => exact ⟨[], rfl, by simp⟩
  | cons c es ih =>
    obtain ⟨l, rfl, hl⟩ := ih (fun c hc => h c (List.mem_cons_of_mem _ hc))
    obtain ⟨x, rfl, hx⟩ := h _ List.mem_cons_self
    exact ⟨x :: l, rfl, fun y hy => by rcases List.mem_cons.1 hy with rfl | hy; exact hx; exact hl y hy⟩
theorem hasSs {B : Nat} {t : T} (h : HasSh B (.sl [.str]) t) : ∃ (k : SK) (l : List ByteArray), t = .sl k (l.map eS) ∧ l.length ≤ B ∧ ∀ s ∈ l, s.size ≤ B := by
  cases h with
  | nil => exact ⟨.nil, [], rfl, Nat.zero_le _, by simp⟩
  | sl hl hB h0 h =>
    rename_i es
    obtain ⟨l, rfl, hP⟩ := map_of (P := fun s => s.size ≤ B) eS es fun c hc => by
      have hc1 := h0 c hc
      match c, hc1 with
      | [a], _ => obtain ⟨s, rfl, hs⟩ := Law.hasS (h _ hc 0 .str a rfl rfl); exact ⟨s, rfl, hs⟩
    exact ⟨.arg, l, rfl, by simpa using hB, hP⟩
theorem hasPs {B : Nat} {t : T} (h : HasSh B (.sl [.str, .str]) t) : ∃ (k : SK) (l : List (ByteArray × ByteArray)), t = .sl k (l.map eP) ∧ l.length ≤ B ∧ ∀ s ∈ l, s.1.size ≤ B := by
  cases h with
  | nil => exact ⟨.nil, [], rfl, Nat.zero_le _, by simp⟩
  | sl hl hB h0 h =>
    rename_i es
    obtain ⟨l, rfl, hP⟩ := map_of (P := fun s : ByteArray × ByteArray => s.1.size ≤ B) eP es fun c hc => by
      have hc1 := h0 c hc
      match c, hc1 with
      | [a, b], _ =>
        obtain ⟨s, rfl, hs⟩ := Law.hasS (h _ hc 0 .str a rfl rfl)
        obtain ⟨s', rfl, _⟩ := Law.hasS (h _ hc 1 .str b rfl rfl)
        exact ⟨(s, s'), rfl, hs⟩
    exact ⟨.arg, l, rfl, by simpa using hB, hP⟩
end Sx
namespace Law
theorem shardGroups_w (as' : List Go.Rmp.T) (hs : Go.Rmp.HasShs 1048576 [Go.Rmp.Sh.sl [.str], .sl [.str, .str], .int .i64] as') : Go.Rmp.W Ir.env (.call 5 as') [] (fun o _ => o = .val (.bool true)) := by
  cases hs with | cons h1 hs =>
  cases hs with | cons h2 hs =>
  cases hs with | cons h3 hs =>
  cases hs
  obtain ⟨k, l, rfl, n1, n2⟩ := Sx.hasSs h1
  obtain ⟨k', l', rfl, n3, n4⟩ := Sx.hasPs h2
  obtain ⟨p, rfl⟩ := hasI h3
  exact Sx.groups5 k k' l l' p [] n1 (fun s hs => by have := n2 s hs; omega) n3 (fun s hs => by have := n4 s hs; omega)

theorem shardGroups_fn (H : Type) : ∀ ds : List (DataW H), ds.length = Try.f5.params.toList.length → Rows.shardGroupsSpec.fn H ds = { results := [.lit (.bool true)], args := ds } := by
  have hn : Try.f5.params.toList.length = 3 := by kernel_rfl
  rw [hn]
  intro ds hds
  cases ds with | nil => simp at hds | cons d0 ds =>
  cases ds with | nil => simp at hds | cons d1 ds =>
  cases ds with | nil => simp at hds | cons d2 ds =>
  cases ds with | cons => simp at hds | nil =>
  rfl
set_option maxRecDepth 100000 in
theorem shardGroups_lifted (os : Os) (started : os.Started) (H : Type) (enc : TypeId × Value → H) (F : Stop.Interp) :
    ReturnsInHanded {} Try.checked os 5 .any ((Rows.OpenSpec.upto Rows.shardGroupsSpec).pre6 enc Try.prog Try.f5 Rows.shardGroupsUptoRow.domain false) (((Rows.OpenSpec.upto Rows.shardGroupsSpec).at F).post enc Try.prog Try.f5 false true false false) := by
  refine returnsInHanded_of_cond (C := Try.checked) (s := Rows.OpenSpec.upto Rows.shardGroupsSpec) (k := Rows.uptoSmall) rfl own started (by kernel_rfl) Try.func5
    (OpenSpec.witness (enc := enc) (C := Try.checked) (s := Rows.OpenSpec.upto Rows.shardGroupsSpec) (k := Rows.uptoSmall) rfl false ⟨#[], #[.slice .none 0 0, .slice .none 0 0, .int .i64 0], []⟩ 8 (by kernel_rfl) (by kernel_rfl) (by kernel_rfl)
      (x := ([.nil, .nil, .lit (.int .i64 0)], [], [])) (by kernel_rfl) rfl (by kernel_rfl)) ?_
  intro W base args ds gs before hval hW _ hk _
  exact Go.Rmp.law_contract (s := Rows.shardGroupsSpec) (shs := [Go.Rmp.Sh.sl [.str], .sl [.str, .str], .int .i64]) (B := 1048576) (tb := Try.f5.resultTypes[0]!) Ir.envOk kids hz (by kernel_rfl) (by intro t ht; exact of_decide_eq_true ((List.all_eq_true.1 (show Try.f5.params.toList.all (fun t => decide (t < Try.prog.types.size)) = true by kernel_rfl)) t ht)) (by kernel_rfl) (by kernel_rfl) rfl (shardGroups_fn H) shardGroups_w base args ds gs before hval hW (bulk_ok hk)
theorem shardGroups_over : Rows.shardGroupsUptoRow.holds Try.pinned (Rows.OpenSpec.upto Rows.shardGroupsSpec) :=
  OpenClaim.holds_of_cond 5 Try.f5 rfl rfl rfl rfl rfl rfl rfl ⟨rfl, rfl, rfl, rfl, rfl⟩ rfl rfl rfl rfl rfl (by kernel_rfl) Try.func5 (by kernel_rfl)
    (of_decide_eq_true (by kernel_rfl)) (by unfold Func.isWrapper; first | (rw [if_pos (by decide +kernel)]; kernel_rfl) | (rw [if_neg (by decide +kernel)]; exact ⟨rfl, rfl⟩))
    (fun os started H enc _ F => shardGroups_lifted os started H enc F)
theorem shardGroups_proved : Rows.ShardGroupsUptoSaid := shardGroups_over
end Law
end Go.Proofs.Ytpbilghnfldmiaa
end

/-! text ShardL -/
section
namespace Go.Proofs.Ytpbilghnfldmiaa.Sx
open Go.Rmp Go.Proofs.Ytpbilghnfldmiaa.Ir
set_option maxRecDepth 10000
def restI (n : Int) (most : Nat) : Nat := (n % ((most : Int) + 1)).toNat
theorem restI_le (n : Int) (most : Nat) : restI n most ≤ most := by
  unfold restI
  have h1 := Int.emod_nonneg n (show (most : Int) + 1 ≠ 0 by omega)
  have h2 := Int.emod_lt_of_pos n (show 0 < (most : Int) + 1 by omega)
  omega
theorem tmod_rest (n : Int) (most : Nat) : (if n.tmod ((most : Int) + 1) < 0 then n.tmod ((most : Int) + 1) + (most : Int) + 1 else n.tmod ((most : Int) + 1)) = (restI n most : Int) := by
  unfold restI
  have h1 := Int.emod_nonneg n (show (most : Int) + 1 ≠ 0 by omega)
  have h2 := Int.emod_lt_of_pos n (show 0 < (most : Int) + 1 by omega)
  have h3 := @Int.tmod_eq_emod n ((most : Int) + 1)
  rw [Int.toNat_of_nonneg h1]
  by_cases hc : 0 ≤ n ∨ (most : Int) + 1 ∣ n
  · simp -implicitDefEqProofs only [hc, if_true] at h3
    split <;> omega
  · simp -implicitDefEqProofs only [hc, if_false] at h3
    have h4 : (((most : Int) + 1).natAbs : Int) = (most : Int) + 1 := by omega
    split <;> omega
theorem rest11 (n : Int) (most : Nat) (hm : most < 4611686018427387903) (hn : -9223372036854775808 ≤ n ∧ n ≤ 9223372036854775807) (H : Heap) : W env (.call 11 [.int .i64 n, .int .i64 most]) H (Ret (.int .i64 (restI n most : Nat)) H) := by
  refine W.fnI rfl rfl rfl ?_
  have w1 : IntKind.i64.wrap ((most : Int) + 1) = ((most : Int) + 1) := wrap64 (by omega)
  have nz : ¬ ((most : Int) + 1) = 0 := by omega
  have hr := tmod_rest n most
  have hl := restI_le n most
  have hb : -((most : Int) + 1) < n.tmod ((most : Int) + 1) := Int.lt_tmod_of_pos n (by omega)
  have hb2 : n.tmod ((most : Int) + 1) < ((most : Int) + 1) := Int.tmod_lt_of_pos n (by omega)
  by_cases hneg : n.tmod ((most : Int) + 1) < 0
  · have w2 : IntKind.i64.wrap (n.tmod ((most : Int) + 1) + (most : Int)) = n.tmod ((most : Int) + 1) + (most : Int) := wrap64 (by omega)
    have w3 : IntKind.i64.wrap (n.tmod ((most : Int) + 1) + (most : Int) + 1) = n.tmod ((most : Int) + 1) + (most : Int) + 1 := wrap64 (by omega)
    rw [if_pos hneg] at hr
    simp -implicitDefEqProofs only [ir11, op, ef, cl, sq, reduceIte, Int.reduceLT, Int.reduceLE, Int.reduceBEq, Int.reduceBNe, Int.reduceEq, Nat.reduceAdd, Nat.reduceLeDiff, Nat.reduceLT, Nat.reduceEqDiff, S1, w1, nz, hneg, w2, w3]
    exact hr
  · rw [if_neg hneg] at hr
    simp -implicitDefEqProofs only [ir11, op, ef, cl, sq, reduceIte, Int.reduceLT, Int.reduceLE, Int.reduceBEq, Int.reduceBNe, Int.reduceEq, Nat.reduceAdd, Nat.reduceLeDiff, Nat.reduceLT, Nat.reduceEqDiff, S1, w1, nz, hneg]
    exact hr
end Go.Proofs.Ytpbilghnfldmiaa.Sx
end

/-! text ShardM -/
section
namespace Go.Proofs.Ytpbilghnfldmiaa.Sx
open Go.Rmp Go.Proofs.Ytpbilghnfldmiaa.Ir
set_option maxRecDepth 10000
/-! written slices of numbers -/
def eN (n : Nat) : List T := [.int .i64 n]
theorem msN_get {l : List Nat} {i x : Nat} (h : l[i]? = some x) : ldcB 1 (i * 1) (some (.cells (msC eN l))) = some [.int .i64 x] := by
  have := msC_get (enc := eN) (n := 1) (fun _ => rfl) h 0 1 (by decide)
  simpa [eN] using this
theorem msN_set {l : List Nat} {i : Nat} (h : i < l.length) (y : Nat) (Hx : Heap) (b : Nat) : stcB Hx b [.int .i64 y] (i * 1) (some (.cells (msC eN l))) = some (Hx.set b (.cells (msC eN (l.set i y)))) := by
  have := msC_set (enc := eN) (n := 1) (y := y) (fun _ => rfl) (List.getElem?_eq_getElem h) Hx b [.int .i64 y] 0 (by simp) (by simp [eN])
  simpa using this
/-- where a part stands, and one; none: 0 -/
def Wh {α : Type} (n : Nat) (ps : List (Pt α)) (i : Nat) (la : List Nat) : Prop := la.length = n ∧ ∀ q, q < n → (∃ j x, j < i ∧ ps[j]? = some x ∧ x.part = q ∧ la[q]? = some (j + 1)) ∨ ((∀ j x, j < i → ps[j]? = some x → x.part ≠ q) ∧ la[q]? = some 0)
theorem Wh.zero {α : Type} (n : Nat) (ps : List (Pt α)) : Wh n ps 0 (List.replicate n 0) := ⟨by simp, fun q hq => .inr ⟨fun j x h => by omega, by simp [hq]⟩⟩
theorem Wh.step {α : Type} {n : Nat} {ps : List (Pt α)} {i : Nat} {la : List Nat} (h : Wh n ps i la) (hr : Rise ps) {x : Pt α} (hx : ps[i]? = some x) (hn : x.part < n) : Wh n ps (i + 1) (la.set x.part (i + 1)) := by
  refine ⟨by simp [h.1], fun q hq => ?_⟩
  by_cases e : q = x.part
  · subst e
    exact .inl ⟨i, x, by omega, hx, rfl, by rw [List.getElem?_set_self (by rw [h.1]; exact hn)]⟩
  · rcases h.2 q hq with ⟨j, y, h1, h2, h3, h4⟩ | ⟨h1, h2⟩
    · exact .inl ⟨j, y, by omega, h2, h3, by rw [List.getElem?_set_ne (Ne.symm e)]; exact h4⟩
    · refine .inr ⟨fun j y hj hy => ?_, by rw [List.getElem?_set_ne (Ne.symm e)]; exact h2⟩
      by_cases hji : j = i
      · subst hji; rw [hx] at hy; cases hy; exact Ne.symm e
      · exact h1 j y (by omega) hy
/-- how many of each part were met -/
def Met {α : Type} (key : α → ByteArray) (n : Nat) (ks : List α) (i : Nat) (la : List Nat) : Prop := la.length = n ∧ ∀ q, q < n → la[q]? = some ((ks.take i).filter (fun k => decide (ofN (key k) n = q))).length
theorem Met.zero {α : Type} (key : α → ByteArray) (n : Nat) (ks : List α) : Met key n ks 0 (List.replicate n 0) := ⟨by simp, fun q hq => by simp [hq]⟩
theorem Met.step {α : Type} {key : α → ByteArray} {n : Nat} {ks : List α} {i : Nat} {la : List Nat} (h : Met key n ks i la) {k : α} (hk : ks[i]? = some k) (hn : 0 < n) :
    Met key n ks (i + 1) (la.set (ofN (key k) n) (((ks.take i).filter (fun k' => decide (ofN (key k') n = ofN (key k) n))).length + 1)) := by
  refine ⟨by simp [h.1], fun q hq => ?_⟩
  rw [take_sn hk, List.filter_append]
  by_cases e : ofN (key k) n = q
  · subst e
    rw [List.getElem?_set_self (by rw [h.1]; exact hq)]
    simp
  · rw [List.getElem?_set_ne e, h.2 q hq]
    simp [e]
/-- the next of a part is the key itself -/
theorem next_own {α : Type} {key : α → ByteArray} {n : Nat} {ks : List α} {i : Nat} {k : α} (hk : ks[i]? = some k) : (ks.filter (fun k' => decide (ofN (key k') n = ofN (key k) n)))[((ks.take i).filter (fun k' => decide (ofN (key k') n = ofN (key k) n))).length]? = some k := by
  obtain ⟨hi, e⟩ := List.getElem?_eq_some_iff.1 hk
  have h1 : ks = ks.take i ++ k :: ks.drop (i + 1) := by
    conv => lhs; rw [← List.take_append_drop i ks, List.drop_eq_getElem_cons hi, e]
  conv => lhs; arg 1; rw [h1]
  rw [List.filter_append, List.getElem?_append_right (Nat.le_refl _), Nat.sub_self]
  simp
end Go.Proofs.Ytpbilghnfldmiaa.Sx
end

/-! text ShardN -/
section
namespace Go.Proofs.Ytpbilghnfldmiaa.Sx
open Go.Rmp Go.Proofs.Ytpbilghnfldmiaa.Ir
set_option maxRecDepth 10000
def lastI {α : Type} (ps : List (Pt α)) : Nat → Int
  | 0 => -1
  | i + 1 => match ps[i]? with | some x => x.part | none => -1
theorem last_lt {α : Type} {ps : List (Pt α)} (hr : Rise ps) {i : Nat} {x : Pt α} (hx : ps[i]? = some x) : lastI ps i < (x.part : Int) := by
  cases i with
  | zero => simp -implicitDefEqProofs only [lastI]; omega
  | succ i =>
    obtain ⟨y, hy⟩ := getP (l := ps) (i := i) (by have := (List.getElem?_eq_some_iff.1 hx).1; omega)
    have := hr i (i + 1) y x (by omega) hy hx
    simp -implicitDefEqProofs only [lastI, hy]; omega
theorem deals4 (k : SK) (ks : List ByteArray) (m : Int) (H : Heap) (hm : -9223372036854775808 ≤ m ∧ m ≤ 9223372036854775807) (hl : ks.length ≤ 1048576) (hs : ∀ s ∈ ks, s.size < 9223372036854775807) :
    W env (.call 4 [.sl k (ks.map eS), .int .i64 m]) H (fun o _ => o = .val (.bool true)) := by
  refine W.fnI rfl rfl rfl ?_
  simp -implicitDefEqProofs only [ir4, op, ef, cl, sq, reduceIte, Int.reduceLT, Int.reduceLE, Int.reduceBEq, Int.reduceBNe, Int.reduceEq, Nat.reduceAdd, Nat.reduceLeDiff, Nat.reduceLT, Nat.reduceEqDiff, S1]
  refine callB_of _ _ _ _ _ _ _ _ (rest11 m 63 (by decide) hm _) ?_
  rintro u H ⟨hu, rfl⟩
  cases hu
  have hrl := restI_le m 63
  obtain ⟨n, hn⟩ : ∃ n : Nat, n = 1 + restI m 63 := ⟨_, rfl⟩
  have wn : IntKind.i64.wrap (1 + (restI m 63 : Int)) = (n : Int) := by rw [wrap64 (by omega)]; omega
  have n1 : 1 ≤ n := by omega
  have n2 : n ≤ 64 := by omega
  simp -implicitDefEqProofs only [op, ef, cl, sq, reduceIte, Int.reduceLT, Int.reduceLE, Int.reduceBEq, Int.reduceBNe, Int.reduceEq, Nat.reduceAdd, Nat.reduceLeDiff, Nat.reduceLT, Nat.reduceEqDiff, S1, wn]
  refine callB_of _ _ _ _ _ _ _ _ (group12 k ks n n1 n2 _ hl hs) ?_
  rintro u H1 ⟨hx1, t, ps, hu, hmu, _, hg⟩
  cases hu
  simp -implicitDefEqProofs only [op, ef, cl, sq, reduceIte, Int.reduceLT, Int.reduceLE, Int.reduceBEq, Int.reduceBNe, Int.reduceEq, Nat.reduceAdd, Nat.reduceLeDiff, Nat.reduceLT, Nat.reduceEqDiff, S1]
  refine callB_of _ _ _ _ _ _ _ _ (known10 _) ?_
  rintro u H2 ⟨hu, hx2⟩
  have hx2 : Ext H1 H2 := hx2
  cases hu
  have hmu := hmu.ext hx2
  have hlen := hmu.len
  have hpl := hg.len
  simp -implicitDefEqProofs only [op, ef, cl, sq, reduceIte, Int.reduceLT, Int.reduceLE, Int.reduceBEq, Int.reduceBNe, Int.reduceEq, Nat.reduceAdd, Nat.reduceLeDiff, Nat.reduceLT, Nat.reduceEqDiff, S1]
  refine W.loopI (fun (i : Nat) R H' => H' = H2 ∧ R 0 = .sl k (ks.map eS) ∧ R 1 = .int .i64 n ∧ R 5 = t ∧ R 7 = .int .i64 (lastI ps i) ∧ R 8 = .int .i64 i ∧ i ≤ ps.length) (fun i => ps.length - i) 0 ⟨rfl, rfl, rfl, rfl, rfl, rfl, Nat.zero_le _⟩ ?_
  rintro i R H2 ⟨rfl, h0, h1, h5, h7, h8, hi⟩
  by_cases hlt : i < ps.length
  · obtain ⟨x, hx⟩ := getP (l := ps) hlt
    obtain ⟨b, g1, g2, g3, g4⟩ := mut_at hmu hx
    have ws := wrap_succ (show i < 9223372036854775807 by omega)
    have hxm := hg.item x (List.mem_of_getElem? hx)
    have c1 : ¬ ((x.part : Int) ≤ lastI ps i) := by have := last_lt hg.rise.rise hx; omega
    have c2 : ¬ ((n : Int) ≤ (x.part : Int)) := by omega
    have c2' : ¬ (n ≤ x.part) := by omega
    have c3 : ¬ (x.items.length = 0) := by have := hxm.2.2; simpa using this
    have c3' : ¬ ((x.items.length : Int) = 0) := by omega
    simp -implicitDefEqProofs only [op, ef, cl, sq, reduceIte, Int.reduceLT, Int.reduceLE, Int.reduceBEq, Int.reduceBNe, Int.reduceEq, Nat.reduceAdd, Nat.reduceLeDiff, Nat.reduceLT, Nat.reduceEqDiff, S1, h1, h5, h7, h8, hlen, hlt, natOf_nat, g1, g2, g3, g4, c1, c2, c2', c3, c3', List.length_map, ws]
    exact ⟨i + 1, by omega, h0, by simp [lastI, hx], by omega⟩
  have hil : i = ps.length := by omega
  subst hil
  have w8 : n * 8 ≤ 281474976710656 := by omega
  have w9 : n ≤ 9223372036854775807 := by omega
  simp -implicitDefEqProofs only [op, ef, cl, sq, reduceIte, Int.reduceLT, Int.reduceLE, Int.reduceBEq, Int.reduceBNe, Int.reduceEq, Nat.reduceAdd, Nat.reduceLeDiff, Nat.reduceLT, Nat.reduceEqDiff, S1, S2, h0, h1, h5, h7, h8, hlen, hlt, natOf_nat, Nat.le_refl, w8, w9]
  refine W.loopI (fun (i : Nat) R H' => At H' (fun H' => ∃ la, Ext H2 H' ∧ H'[H2.length]? = some (.cells (msC eN (List.replicate n 0))) ∧ H'[H2.length + 1]? = some (.cells (msC eN la)) ∧ Wh n ps i la) ∧ R 0 = .sl k (ks.map eS) ∧ R 1 = .int .i64 n ∧ R 5 = t ∧ R 9 = .msl H2.length 0 n 1 ∧ R 10 = .msl (H2.length + 1) 0 n 1 ∧ R 11 = .int .i64 i ∧ i ≤ ps.length) (fun i => ps.length - i) 0 ?_ ?_
  · refine ⟨.i ⟨List.replicate n 0, (Ext.rfl'.app _).app _, ?_, ?_, Wh.zero n ps⟩, ?_, ?_, ?_, ?_, ?_, ?_, Nat.zero_le _⟩
    · rw [g_app (by simp), g_tail rfl, ← msC_rep]; rfl
    · rw [g_tail (by simp), ← msC_rep]; rfl
    all_goals (simp -implicitDefEqProofs only [op, ef, cl, sq, reduceIte, Int.reduceLT, Int.reduceLE, Int.reduceBEq, Int.reduceBNe, Int.reduceEq, Nat.reduceAdd, Nat.reduceLeDiff, Nat.reduceLT, Nat.reduceEqDiff, S1, h0, h1, h5])
    all_goals first | rfl | simp
  rintro i R H3 ⟨⟨la, hx3, ha3, hw3, hwh⟩, h0, h1, h5, h9, h10, h11, hi⟩
  have hmu3 := hmu.ext hx3
  have hlen3 := hmu3.len
  by_cases hlt : i < ps.length
  · obtain ⟨x, hx⟩ := getP (l := ps) hlt
    obtain ⟨b, g1, g2, g3, g4⟩ := mut_at hmu3 hx
    have ws := wrap_succ (show i < 9223372036854775807 by omega)
    have hxm := hg.item x (List.mem_of_getElem? hx)
    have hxn := hxm.1
    have ss := fun Hx b => msN_set (l := la) (i := x.part) (by rw [hwh.1]; exact hxn) (i + 1) Hx b
    simp -implicitDefEqProofs only [op, ef, cl, sq, reduceIte, Int.reduceLT, Int.reduceLE, Int.reduceBEq, Int.reduceBNe, Int.reduceEq, Nat.reduceAdd, Nat.reduceLeDiff, Nat.reduceLT, Nat.reduceEqDiff, S1, h0, h1, h5, h9, h10, h11, hlen3, hlt, natOf_nat, g1, g2, g3, g4, iad_m, hxn, hw3, ss, ws]
    have ne1 : H2.length + 1 ≠ H2.length := by omega
    exact ⟨i + 1, by omega, .i ⟨_, hx3.set (by omega) _, by rw [g_ne ne1]; exact ha3, g_eq (glt hw3), hwh.step hg.rise.rise hx hxn⟩, rfl, by omega⟩
  have hil : i = ps.length := by omega
  subst hil
  simp -implicitDefEqProofs only [op, ef, cl, sq, reduceIte, Int.reduceLT, Int.reduceLE, Int.reduceBEq, Int.reduceBNe, Int.reduceEq, Nat.reduceAdd, Nat.reduceLeDiff, Nat.reduceLT, Nat.reduceEqDiff, S1, h0, h1, h5, h9, h10, h11, hlen3, hlt]
  refine W.loopI (fun (i : Nat) R H' => At H' (fun H' => ∃ lm, Ext H2 H' ∧ H'[H2.length]? = some (.cells (msC eN lm)) ∧ H'[H2.length + 1]? = some (.cells (msC eN la)) ∧ Met id n ks i lm) ∧ R 0 = .sl k (ks.map eS) ∧ R 1 = .int .i64 n ∧ R 5 = t ∧ R 9 = .msl H2.length 0 n 1 ∧ R 10 = .msl (H2.length + 1) 0 n 1 ∧ R 12 = .int .i64 i ∧ i ≤ ks.length) (fun i => ks.length - i) 0 ⟨.i ⟨_, hx3, ha3, hw3, Met.zero id n ks⟩, by simp -implicitDefEqProofs only [op, ef, cl, sq, reduceIte, Int.reduceLT, Int.reduceLE, Int.reduceBEq, Int.reduceBNe, Int.reduceEq, Nat.reduceAdd, Nat.reduceLeDiff, Nat.reduceLT, Nat.reduceEqDiff, S1, h0], by simp -implicitDefEqProofs only [op, ef, cl, sq, reduceIte, Int.reduceLT, Int.reduceLE, Int.reduceBEq, Int.reduceBNe, Int.reduceEq, Nat.reduceAdd, Nat.reduceLeDiff, Nat.reduceLT, Nat.reduceEqDiff, S1, h1], by simp -implicitDefEqProofs only [op, ef, cl, sq, reduceIte, Int.reduceLT, Int.reduceLE, Int.reduceBEq, Int.reduceBNe, Int.reduceEq, Nat.reduceAdd, Nat.reduceLeDiff, Nat.reduceLT, Nat.reduceEqDiff, S1, h5], by simp -implicitDefEqProofs only [op, ef, cl, sq, reduceIte, Int.reduceLT, Int.reduceLE, Int.reduceBEq, Int.reduceBNe, Int.reduceEq, Nat.reduceAdd, Nat.reduceLeDiff, Nat.reduceLT, Nat.reduceEqDiff, S1, h9], by simp -implicitDefEqProofs only [op, ef, cl, sq, reduceIte, Int.reduceLT, Int.reduceLE, Int.reduceBEq, Int.reduceBNe, Int.reduceEq, Nat.reduceAdd, Nat.reduceLeDiff, Nat.reduceLT, Nat.reduceEqDiff, S1, h10], rfl, Nat.zero_le _⟩ ?_
  rintro i R H4 ⟨⟨lm, hx4, ha4, hw4, hmet⟩, h0, h1, h5, h9, h10, h12, hi⟩
  have hmu4 := hmu.ext hx4
  have hlen4 := hmu4.len
  by_cases hlt : i < ks.length
  · obtain ⟨s, hsv⟩ := getP (l := ks) hlt
    have ws := wrap_succ (show i < 9223372036854775807 by omega)
    have hia := iadX (e := eS) (n := 1) (fun _ => rfl) (by decide) (k := k) hsv
    simp -implicitDefEqProofs only [op, ef, cl, sq, reduceIte, Int.reduceLT, Int.reduceLE, Int.reduceBEq, Int.reduceBNe, Int.reduceEq, Nat.reduceAdd, Nat.reduceLeDiff, Nat.reduceLT, Nat.reduceEqDiff, S1, h0, h1, h12, List.length_map, hlt, natOf_nat, hia, eS]
    refine callB_of _ _ _ _ _ _ _ _ (of8n s n n1 n2 _ (hs s (List.mem_of_getElem? hsv))) ?_
    rintro u H4 ⟨hu, rfl⟩
    cases hu
    obtain ⟨q, hq⟩ : ∃ q, q = ofN s n := ⟨_, rfl⟩
    have hqn : q < n := by rw [hq]; exact ofN_lt s (by omega)
    obtain ⟨j, x, hj, hx, hxq, hla⟩ : ∃ j x, j < ps.length ∧ ps[j]? = some x ∧ x.part = q ∧ la[q]? = some (j + 1) := by
      rcases hwh.2 q hqn with h | ⟨h, _⟩
      · exact h
      · obtain ⟨y, hy, e⟩ := hg.all s (List.mem_of_getElem? hsv)
        obtain ⟨j, hj, ej⟩ := List.getElem_of_mem hy
        exact absurd (e.trans hq.symm) (h j y hj (by rw [List.getElem?_eq_getElem hj, ej]))
    obtain ⟨b, g1, g2, g3, g4⟩ := mut_at hmu4 hx
    have hit := (hg.item x (List.mem_of_getElem? hx)).2.1
    obtain ⟨c, hc⟩ : ∃ c, c = ((ks.take i).filter (fun k => decide (ofN (id k) n = q))).length := ⟨_, rfl⟩
    have hlm := hmet.2 q hqn
    rw [← hc] at hlm
    have hown : x.items[c]? = some s := by rw [hit, hxq, hc, hq]; exact next_own (key := id) hsv
    have hcl : c < x.items.length := (List.getElem?_eq_some_iff.1 hown).1
    have hcb : c ≤ i := by rw [hc]; refine Nat.le_trans (List.length_filter_le ..) ?_; simp; omega
    have hio := iadX (e := eS) (n := 1) (fun _ => rfl) (by decide) (k := x.kk) hown
    have wj : IntKind.i64.wrap (((j + 1 : Nat) : Int) - 1) = (j : Int) := by rw [wrap64 (by omega)]; omega
    have wc := wrap_succ (show c < 9223372036854775807 by omega)
    have d1 : ¬ ((q : Int) < 0) := by omega
    have d2 : ¬ ((n : Int) ≤ (q : Int)) := by omega
    have d2' : ¬ (n ≤ q) := by omega
    have d3 : ¬ (((j + 1 : Nat) : Int) = 0) := by omega
    have d4 : ¬ (x.items.length ≤ c) := by omega
    have d4' : ¬ ((x.items.length : Int) ≤ (c : Int)) := by omega
    have ga := msN_get hlm
    have gw := msN_get hla
    have ss := fun Hx b => msN_set (l := lm) (i := q) (by rw [hmet.1]; exact hqn) (c + 1) Hx b
    have hst := hmet.step hsv (by omega)
    simp -implicitDefEqProofs only [id, ← hq] at hst
    simp -implicitDefEqProofs only [id] at hc
    rw [← hc] at hst
    have ne1 : H2.length ≠ H2.length + 1 := by omega
    simp -implicitDefEqProofs only [op, ef, cl, sq, reduceIte, Int.reduceLT, Int.reduceLE, Int.reduceBEq, Int.reduceBNe, Int.reduceEq, Nat.reduceAdd, Nat.reduceLeDiff, Nat.reduceLT, Nat.reduceEqDiff, S1, ← hq, h0, h1, h5, h9, h10, h12, d1, d2, d2', d3, d4, d4', natOf_nat, iad_m, hqn, ha4, hw4, ga, gw, wj, g1, g2, hj, g4, List.length_map, hio, hia, eS, wc, ss, ws]
    exact ⟨i + 1, by omega, .i ⟨_, hx4.set (Nat.le_refl _) _, g_eq (glt ha4), by rw [g_ne ne1]; exact hw4, hst⟩, rfl, by omega⟩
  have hil : i = ks.length := by omega
  subst hil
  simp -implicitDefEqProofs only [op, ef, cl, sq, reduceIte, Int.reduceLT, Int.reduceLE, Int.reduceBEq, Int.reduceBNe, Int.reduceEq, Nat.reduceAdd, Nat.reduceLeDiff, Nat.reduceLT, Nat.reduceEqDiff, S1, h0, h1, h5, h9, h10, h12, List.length_map, hlt]
  refine W.loopI (fun (i : Nat) R H' => H' = H4 ∧ R 0 = .sl k (ks.map eS) ∧ R 1 = .int .i64 n ∧ R 5 = t ∧ R 9 = .msl H2.length 0 n 1 ∧ R 16 = .int .i64 i ∧ i ≤ ps.length) (fun i => ps.length - i) 0 ⟨rfl, by simp -implicitDefEqProofs only [op, ef, cl, sq, reduceIte, Int.reduceLT, Int.reduceLE, Int.reduceBEq, Int.reduceBNe, Int.reduceEq, Nat.reduceAdd, Nat.reduceLeDiff, Nat.reduceLT, Nat.reduceEqDiff, S1, h0], by simp -implicitDefEqProofs only [op, ef, cl, sq, reduceIte, Int.reduceLT, Int.reduceLE, Int.reduceBEq, Int.reduceBNe, Int.reduceEq, Nat.reduceAdd, Nat.reduceLeDiff, Nat.reduceLT, Nat.reduceEqDiff, S1, h1], by simp -implicitDefEqProofs only [op, ef, cl, sq, reduceIte, Int.reduceLT, Int.reduceLE, Int.reduceBEq, Int.reduceBNe, Int.reduceEq, Nat.reduceAdd, Nat.reduceLeDiff, Nat.reduceLT, Nat.reduceEqDiff, S1, h5], by simp -implicitDefEqProofs only [op, ef, cl, sq, reduceIte, Int.reduceLT, Int.reduceLE, Int.reduceBEq, Int.reduceBNe, Int.reduceEq, Nat.reduceAdd, Nat.reduceLeDiff, Nat.reduceLT, Nat.reduceEqDiff, S1, h9], rfl, Nat.zero_le _⟩ ?_
  rintro i R H4 ⟨rfl, h0, h1, h5, h9, h16, hi⟩
  by_cases hlt : i < ps.length
  · obtain ⟨x, hx⟩ := getP (l := ps) hlt
    obtain ⟨b, g1, g2, g3, g4⟩ := mut_at hmu4 hx
    have ws := wrap_succ (show i < 9223372036854775807 by omega)
    have hxm := hg.item x (List.mem_of_getElem? hx)
    have hxn := hxm.1
    have hlm := hmet.2 x.part hxn
    rw [List.take_length] at hlm
    have e : (ks.filter (fun k => decide (ofN (id k) n = x.part))).length = x.items.length := by rw [hxm.2.1]
    rw [e] at hlm
    have ga := msN_get hlm
    simp -implicitDefEqProofs only [op, ef, cl, sq, reduceIte, Int.reduceLT, Int.reduceLE, Int.reduceBEq, Int.reduceBNe, Int.reduceEq, Nat.reduceAdd, Nat.reduceLeDiff, Nat.reduceLT, Nat.reduceEqDiff, S1, h0, h1, h5, h9, h16, hlen4, hlt, natOf_nat, g1, g2, g3, g4, iad_m, hxn, ha4, ga, List.length_map, ws]
    exact ⟨i + 1, by omega, rfl, by omega⟩
  have hil : i = ps.length := by omega
  subst hil
  by_cases hn1 : 1 < n
  · have hn1' : (1 : Int) < (n : Int) := by omega
    simp -implicitDefEqProofs only [op, ef, cl, sq, reduceIte, Int.reduceLT, Int.reduceLE, Int.reduceBEq, Int.reduceBNe, Int.reduceEq, Nat.reduceAdd, Nat.reduceLeDiff, Nat.reduceLT, Nat.reduceEqDiff, S1, h0, h1, h5, h9, h16, hlen4, hlt, hn1, hn1']
  have hn1' : ¬ ((1 : Int) < (n : Int)) := by omega
  by_cases hk0 : ks.length = 0
  · have hk0' : ((ks.length : Nat) : Int) = 0 := by omega
    simp -implicitDefEqProofs only [op, ef, cl, sq, reduceIte, Int.reduceLT, Int.reduceLE, Int.reduceBEq, Int.reduceBNe, Int.reduceEq, Nat.reduceAdd, Nat.reduceLeDiff, Nat.reduceLT, Nat.reduceEqDiff, S1, h0, h1, h5, h9, h16, hlen4, hlt, hn1, hn1', List.length_map, hk0, hk0']
  have hk0' : ¬ (((ks.length : Nat) : Int) = 0) := by omega
  have he : n = 1 := by omega
  obtain ⟨x, hps, hxi⟩ : ∃ x, ps = [x] ∧ x.items = ks := by
    obtain ⟨s, hsv⟩ := getP (l := ks) (i := 0) (by omega)
    obtain ⟨y, hy, ey⟩ := hg.all s (List.mem_of_getElem? hsv)
    match ps, hpl, hy, hg with
    | [x], _, hy, hg =>
      refine ⟨x, rfl, ?_⟩
      rw [(hg.item x (by simp)).2.1]
      refine List.filter_eq_self.2 fun a ha => ?_
      have h1 := ofN_lt a (p := n) (by omega)
      have h2 := (hg.item x (by simp)).1
      simp; omega
    | _ :: _ :: _, hpl, _, _ => simp at hpl; omega
  obtain ⟨b, g1, g2, g3, g4⟩ := mut_at hmu4 (i := 0) (p := x) (by rw [hps]; rfl)
  have hp1 : ps.length = 1 := by rw [hps]; rfl
  have z0 : natOf (.int .i64 0) = some 0 := rfl
  have z1 : ((1 : Nat) : Int) = 1 := rfl
  rw [hxi] at g4
  simp -implicitDefEqProofs only [op, ef, cl, sq, reduceIte, Int.reduceLT, Int.reduceLE, Int.reduceBEq, Int.reduceBNe, Int.reduceEq, Nat.reduceAdd, Nat.reduceLeDiff, Nat.reduceLT, Nat.reduceEqDiff, S1, h0, h1, h5, h9, h16, hlen4, hlt, hn1, hn1', List.length_map, hk0, hk0', hp1, z0, z1, g1, g2, g4]
  refine callB_of _ _ _ _ _ _ _ _ (same13 _ _ ks ks _ (by omega)) ?_
  rintro u H5 ⟨hu, rfl⟩
  cases hu
  simp -implicitDefEqProofs only [op, ef, cl, sq, reduceIte, Int.reduceLT, Int.reduceLE, Int.reduceBEq, Int.reduceBNe, Int.reduceEq, Nat.reduceAdd, Nat.reduceLeDiff, Nat.reduceLT, Nat.reduceEqDiff, S1]
end Go.Proofs.Ytpbilghnfldmiaa.Sx
end

/-! text ShardRc -/
section
namespace Go.Proofs.Ytpbilghnfldmiaa
open Go.ChangeShapes Go.WideShapes Go.ChangeAt Go.RowKit
namespace Law
theorem hasIN {B : Nat} {t : Go.Rmp.T} (h : Go.Rmp.HasSh B (.int .i64) t) : ∃ n : Int, t = .int .i64 n ∧ -9223372036854775808 ≤ n ∧ n ≤ 9223372036854775807 := by
  cases h with | int h =>
    rename_i n
    exact ⟨n, rfl, by simpa [Lit.wf, IntKind.min, IntKind.max, IntKind.signed, IntKind.bits] using h⟩
theorem shardDeals_w (as' : List Go.Rmp.T) (hs : Go.Rmp.HasShs 1048576 [Go.Rmp.Sh.sl [.str], .int .i64] as') : Go.Rmp.W Ir.env (.call 4 as') [] (fun o _ => o = .val (.bool true)) := by
  cases hs with | cons h1 hs =>
  cases hs with | cons h2 hs =>
  cases hs
  obtain ⟨k, l, rfl, n1, n2⟩ := Sx.hasSs h1
  obtain ⟨p, rfl, hp⟩ := hasIN h2
  exact Sx.deals4 k l p [] hp n1 (fun s hs => by have := n2 s hs; omega)

theorem shardDeals_fn (H : Type) : ∀ ds : List (DataW H), ds.length = Try.f4.params.toList.length → Rows.shardDealsSpec.fn H ds = { results := [.lit (.bool true)], args := ds } := by
  have hn : Try.f4.params.toList.length = 2 := by kernel_rfl
  rw [hn]
  intro ds hds
  cases ds with | nil => simp at hds | cons d0 ds =>
  cases ds with | nil => simp at hds | cons d1 ds =>
  cases ds with | cons => simp at hds | nil =>
  rfl
set_option maxRecDepth 100000 in
theorem shardDeals_lifted (os : Os) (started : os.Started) (H : Type) (enc : TypeId × Value → H) (F : Stop.Interp) :
    ReturnsInHanded {} Try.checked os 4 .any ((Rows.OpenSpec.upto Rows.shardDealsSpec).pre6 enc Try.prog Try.f4 Rows.shardDealsUptoRow.domain false) (((Rows.OpenSpec.upto Rows.shardDealsSpec).at F).post enc Try.prog Try.f4 false true false false) := by
  refine returnsInHanded_of_cond (C := Try.checked) (s := Rows.OpenSpec.upto Rows.shardDealsSpec) (k := Rows.uptoSmall) rfl own started (by kernel_rfl) Try.func4
    (OpenSpec.witness (enc := enc) (C := Try.checked) (s := Rows.OpenSpec.upto Rows.shardDealsSpec) (k := Rows.uptoSmall) rfl false ⟨#[], #[.slice .none 0 0, .int .i64 0], []⟩ 8 (by kernel_rfl) (by kernel_rfl) (by kernel_rfl)
      (x := ([.nil, .lit (.int .i64 0)], [], [])) (by kernel_rfl) rfl (by kernel_rfl)) ?_
  intro W base args ds gs before hval hW _ hk _
  exact Go.Rmp.law_contract (s := Rows.shardDealsSpec) (shs := [Go.Rmp.Sh.sl [.str], .int .i64]) (B := 1048576) (tb := Try.f4.resultTypes[0]!) Ir.envOk kids hz (by kernel_rfl) (by intro t ht; exact of_decide_eq_true ((List.all_eq_true.1 (show Try.f4.params.toList.all (fun t => decide (t < Try.prog.types.size)) = true by kernel_rfl)) t ht)) (by kernel_rfl) (by kernel_rfl) rfl (shardDeals_fn H) shardDeals_w base args ds gs before hval hW (bulk_ok hk)
theorem shardDeals_over : Rows.shardDealsUptoRow.holds Try.pinned (Rows.OpenSpec.upto Rows.shardDealsSpec) :=
  OpenClaim.holds_of_cond 4 Try.f4 rfl rfl rfl rfl rfl rfl rfl ⟨rfl, rfl, rfl, rfl, rfl⟩ rfl rfl rfl rfl rfl (by kernel_rfl) Try.func4 (by kernel_rfl)
    (of_decide_eq_true (by kernel_rfl)) (by unfold Func.isWrapper; first | (rw [if_pos (by decide +kernel)]; kernel_rfl) | (rw [if_neg (by decide +kernel)]; exact ⟨rfl, rfl⟩))
    (fun os started H enc _ F => shardDeals_lifted os started H enc F)
theorem shardDeals_proved : Rows.ShardDealsUptoSaid := shardDeals_over
end Law
end Go.Proofs.Ytpbilghnfldmiaa
end

/-! text ShardO -/
section
namespace Go.Proofs.Ytpbilghnfldmiaa.Sx
open Go.Rmp Go.Proofs.Ytpbilghnfldmiaa.Ir
set_option maxRecDepth 10000
/-- pairs are dealt as their keys are -/
theorem Grp.keys {n : Nat} {xs : List (ByteArray × ByteArray)} {ps : List (Pt (ByteArray × ByteArray))} (h : Grp Prod.fst n xs ps) : Grp id n (xs.map Prod.fst) (ps.map fun x => ⟨x.part, x.kk, x.items.map Prod.fst⟩) := by
  refine ⟨List.pairwise_map.2 h.rise, fun q hq => ?_, fun k hk => ?_⟩
  · obtain ⟨x, hx, rfl⟩ := List.mem_map.1 hq
    obtain ⟨h1, h2, h3⟩ := h.item x hx
    refine ⟨h1, ?_, by simpa using h3⟩
    simp -implicitDefEqProofs only [h2, List.filter_map]
    rfl
  · obtain ⟨x, hx, rfl⟩ := List.mem_map.1 hk
    obtain ⟨q, hq, e⟩ := h.all x hx
    exact ⟨_, List.mem_map.2 ⟨q, hq, rfl⟩, e⟩
theorem Dealt.keys {p : Int} {xs : List (ByteArray × ByteArray)} {ps : List (Pt (ByteArray × ByteArray))} (h : Dealt Prod.fst p xs ps) : Dealt id p (xs.map Prod.fst) (ps.map fun x => ⟨x.part, x.kk, x.items.map Prod.fst⟩) := by
  unfold Dealt at h ⊢
  split at h
  · rename_i hp; rw [if_pos hp]; exact h.keys
  · rename_i hp; rw [if_neg hp, h]; rfl
theorem keys_at {p : Int} {xs : List (ByteArray × ByteArray)} {bs : List (Pt ByteArray)} {ps : List (Pt (ByteArray × ByteArray))} (ha : Dealt id p (xs.map Prod.fst) bs) (h : Dealt Prod.fst p xs ps) : bs.length = ps.length ∧ ∀ (i : Nat) (x : Pt (ByteArray × ByteArray)), ps[i]? = some x → ∃ a, bs[i]? = some a ∧ a.part = x.part ∧ a.items.length = x.items.length := by
  have u := h.keys.uniq ha
  refine ⟨by simpa using (congrArg List.length u).symm, fun i x hx => ?_⟩
  obtain ⟨a, h1, h2, h3⟩ := same_at u (i := i) (p := ⟨x.part, x.kk, x.items.map Prod.fst⟩) (by rw [List.getElem?_map, hx]; rfl)
  exact ⟨a, h1, h2, by rw [h3]; simp⟩
end Go.Proofs.Ytpbilghnfldmiaa.Sx
end

/-! text ShardP -/
section
namespace Go.Proofs.Ytpbilghnfldmiaa.Sx
open Go.Rmp Go.Proofs.Ytpbilghnfldmiaa.Ir
set_option maxRecDepth 10000
/-- how many of each part were met, among more cells than parts -/
def MetL {α : Type} (key : α → ByteArray) (N n : Nat) (ks : List α) (i : Nat) (la : List Nat) : Prop := la.length = N ∧ ∀ q, q < N → la[q]? = some ((ks.take i).filter (fun k => decide (ofN (key k) n = q))).length
theorem MetL.zero {α : Type} (key : α → ByteArray) (N n : Nat) (ks : List α) : MetL key N n ks 0 (List.replicate N 0) := ⟨by simp, fun q hq => by simp [hq]⟩
theorem MetL.step {α : Type} {key : α → ByteArray} {N n : Nat} {ks : List α} {i : Nat} {la : List Nat} (h : MetL key N n ks i la) {k : α} (hk : ks[i]? = some k) (hn : 0 < n) (hN : ofN (key k) n < N) :
    MetL key N n ks (i + 1) (la.set (ofN (key k) n) (((ks.take i).filter (fun k' => decide (ofN (key k') n = ofN (key k) n))).length + 1)) := by
  refine ⟨by simp [h.1], fun q hq => ?_⟩
  rw [take_sn hk, List.filter_append]
  by_cases e : ofN (key k) n = q
  · subst e
    rw [List.getElem?_set_self (by rw [h.1]; exact hq)]
    simp
  · rw [List.getElem?_set_ne e, h.2 q hq]
    simp [e]
theorem pairs6 (k : SK) (xs : List (ByteArray × ByteArray)) (p : Int) (H : Heap) (hl : xs.length ≤ 1048576) (hs : ∀ s ∈ xs, s.1.size < 9223372036854775807) :
    W env (.call 6 [.sl k (xs.map eP), .int .i64 p]) H (fun o _ => o = .val (.bool true)) := by
  refine W.fnI rfl rfl rfl ?_
  simp -implicitDefEqProofs only [ir6, op, ef, cl, sq, reduceIte, Int.reduceLT, Int.reduceLE, Int.reduceBEq, Int.reduceBNe, Int.reduceEq, Nat.reduceAdd, Nat.reduceLeDiff, Nat.reduceLT, Nat.reduceEqDiff, S1]
  refine W.loopI (fun (i : Nat) R H' => At H' (fun H' => ∃ kl, R 5 = .sl kl (((xs.take i).map Prod.fst).map eS) ∧ Ext H H' ∧ Apd H.length H' kl) ∧ R 0 = .sl k (xs.map eP) ∧ R 1 = .int .i64 p ∧ R 6 = .int .i64 i ∧ i ≤ xs.length) (fun i => xs.length - i) 0 ⟨.i ⟨.nil, rfl, Ext.rfl', apd_nil _ _⟩, rfl, rfl, rfl, Nat.zero_le _⟩ ?_
  rintro i R H1 ⟨⟨kl, h5, hx1, hap⟩, h0, h1, h6, hi⟩
  by_cases hlt : i < xs.length
  · obtain ⟨s, hsv⟩ := getP (l := xs) hlt
    have ws := wrap_succ (show i < 9223372036854775807 by omega)
    have hia := iadX (e := eP) (n := 2) (fun _ => rfl) (by decide) (k := k) hsv
    have hall := all_map (enc := eS) (n := 1) (fun _ => rfl) ((xs.take i).map Prod.fst)
    obtain ⟨k', H', ha, hap', hst⟩ := app_ok (bytes := 16) (((xs.take i).map Prod.fst).map eS) [[T.str s.1]] hap hx1.len (by simp) (roomS (by simp; omega) (by omega))
    simp -implicitDefEqProofs only [op, ef, cl, sq, reduceIte, Int.reduceLT, Int.reduceLE, Int.reduceBEq, Int.reduceBNe, Int.reduceEq, Nat.reduceAdd, Nat.reduceLeDiff, Nat.reduceLT, Nat.reduceEqDiff, S1, h0, h1, h5, h6, List.length_map, hlt, natOf_nat, hia, eP, hall, ha, ws]
    refine ⟨i + 1, by omega, .i ⟨k', ?_, hst.ext H (Nat.le_refl _) hx1, hap'⟩, by omega⟩
    simp [take_sn hsv, eS, T.erase]
  have hil : i = xs.length := by omega
  subst hil
  rw [List.take_length] at h5
  simp -implicitDefEqProofs only [op, ef, cl, sq, reduceIte, Int.reduceLT, Int.reduceLE, Int.reduceBEq, Int.reduceBNe, Int.reduceEq, Nat.reduceAdd, Nat.reduceLeDiff, Nat.reduceLT, Nat.reduceEqDiff, S1, h0, h1, h5, h6, List.length_map, hlt]
  refine callB_of _ _ _ _ _ _ _ _ (all12 kl (xs.map Prod.fst) p _ (by simpa using hl) (fun s hm => by obtain ⟨x, hx, rfl⟩ := List.mem_map.1 hm; exact hs x hx)) ?_
  rintro u H2 ⟨hx2, t1, as', hu, hm1, _, hd1⟩
  cases hu
  simp -implicitDefEqProofs only [op, ef, cl, sq, reduceIte, Int.reduceLT, Int.reduceLE, Int.reduceBEq, Int.reduceBNe, Int.reduceEq, Nat.reduceAdd, Nat.reduceLeDiff, Nat.reduceLT, Nat.reduceEqDiff, S1, h0, h1]
  refine callB_of _ _ _ _ _ _ _ _ (all15 k xs p _ hl hs) ?_
  rintro u H3 ⟨hx3, t2, ps, hu, hm2, _, hd2⟩
  cases hu
  simp -implicitDefEqProofs only [op, ef, cl, sq, reduceIte, Int.reduceLT, Int.reduceLE, Int.reduceBEq, Int.reduceBNe, Int.reduceEq, Nat.reduceAdd, Nat.reduceLeDiff, Nat.reduceLT, Nat.reduceEqDiff, S1]
  refine callB_of _ _ _ _ _ _ _ _ (known10 _) ?_
  rintro u H4 ⟨hu, hx4⟩
  have hx4 : Ext H3 H4 := hx4
  cases hu
  have m1 := hm1.ext (hx3.trans hx4)
  have m2 := hm2.ext hx4
  have l1 := m1.len
  have l2 := m2.len
  obtain ⟨n1, kat⟩ := keys_at hd1 hd2
  have b2 := hd2.len
  cases hok : okP p
  · have ea : as' = [] := by simpa [Dealt, hok] using hd1
    have ep : ps = [] := by simpa [Dealt, hok] using hd2
    subst ea ep
    have hpp : p < 1 ∨ (¬ p < 1 ∧ 64 < p) := by simp [okP] at hok; omega
    have t65 : natOf (.int .i64 65) = some 65 := rfl
    rcases hpp with hp | ⟨hp, hp2⟩
    all_goals
      first
        | simp -implicitDefEqProofs only [op, ef, cl, sq, reduceIte, Int.reduceLT, Int.reduceLE, Int.reduceBEq, Int.reduceBNe, Int.reduceEq, Nat.reduceAdd, Nat.reduceLeDiff, Nat.reduceLT, Nat.reduceEqDiff, S1, h0, h1, hok, Bool.false_eq_true, l1, l2, hp, hp2, t65, Nat.le_refl, Nat.reduceMul]
        | simp -implicitDefEqProofs only [op, ef, cl, sq, reduceIte, Int.reduceLT, Int.reduceLE, Int.reduceBEq, Int.reduceBNe, Int.reduceEq, Nat.reduceAdd, Nat.reduceLeDiff, Nat.reduceLT, Nat.reduceEqDiff, S1, h0, h1, hok, Bool.false_eq_true, l1, l2, hp, t65, Nat.le_refl, Nat.reduceMul]
      refine W.loopI (fun (_ : Nat) R H' => At H' (fun H' => Ext H4 H') ∧ R 0 = .sl k (xs.map eP) ∧ R 7 = t1 ∧ R 8 = .int .i64 1 ∧ R 12 = .int .i64 0) (fun _ => 0) 0 ⟨.i (Ext.rfl'.app _), by simp -implicitDefEqProofs only [op, ef, cl, sq, reduceIte, Int.reduceLT, Int.reduceLE, Int.reduceBEq, Int.reduceBNe, Int.reduceEq, Nat.reduceAdd, Nat.reduceLeDiff, Nat.reduceLT, Nat.reduceEqDiff, S1, h0], rfl, rfl, rfl⟩ ?_
      rintro _ R H5 ⟨hx5, g0, g7, g8, g12⟩
      have l5 := (m1.ext hx5).len
      simp -implicitDefEqProofs only [op, ef, cl, sq, reduceIte, Int.reduceLT, Int.reduceLE, Int.reduceBEq, Int.reduceBNe, Int.reduceEq, Nat.reduceAdd, Nat.reduceLeDiff, Nat.reduceLT, Nat.reduceEqDiff, S1, List.length_nil] at l5
      have z0 : ¬ ((0 : Int) < ((0 : Nat) : Int)) := by decide
      simp -implicitDefEqProofs only [op, ef, cl, sq, reduceIte, Int.reduceLT, Int.reduceLE, Int.reduceBEq, Int.reduceBNe, Int.reduceEq, Nat.reduceAdd, Nat.reduceLeDiff, Nat.reduceLT, Nat.reduceEqDiff, S1, g0, g7, g8, g12, l5, z0]
      refine W.loopI (fun (_ : Nat) R H' => R 0 = .sl k (xs.map eP) ∧ R 8 = .int .i64 1 ∧ R 13 = .int .i64 0) (fun _ => 0) 0 ⟨by simp -implicitDefEqProofs only [op, ef, cl, sq, reduceIte, Int.reduceLT, Int.reduceLE, Int.reduceBEq, Int.reduceBNe, Int.reduceEq, Nat.reduceAdd, Nat.reduceLeDiff, Nat.reduceLT, Nat.reduceEqDiff, S1, g0], by simp -implicitDefEqProofs only [op, ef, cl, sq, reduceIte, Int.reduceLT, Int.reduceLE, Int.reduceBEq, Int.reduceBNe, Int.reduceEq, Nat.reduceAdd, Nat.reduceLeDiff, Nat.reduceLT, Nat.reduceEqDiff, S1, g8], rfl⟩ ?_
      rintro _ R H6 ⟨g0, g8, g13⟩
      by_cases hxl : (0 : Int) < (xs.length : Int)
      · simp -implicitDefEqProofs only [op, ef, cl, sq, reduceIte, Int.reduceLT, Int.reduceLE, Int.reduceBEq, Int.reduceBNe, Int.reduceEq, Nat.reduceAdd, Nat.reduceLeDiff, Nat.reduceLT, Nat.reduceEqDiff, S1, g0, g8, g13, List.length_map, hxl]
      · simp -implicitDefEqProofs only [op, ef, cl, sq, reduceIte, Int.reduceLT, Int.reduceLE, Int.reduceBEq, Int.reduceBNe, Int.reduceEq, Nat.reduceAdd, Nat.reduceLeDiff, Nat.reduceLT, Nat.reduceEqDiff, S1, g0, g8, g13, List.length_map, hxl]
  · obtain ⟨n, rfl, np1, np2⟩ := okP_t hok
    have hg : Grp Prod.fst n xs ps := by have := hd2; unfold Dealt at this; rw [if_pos hok, Int.toNat_natCast] at this; exact this
    have hp : ¬ ((n : Int) < 1) := by omega
    have hp2 : ¬ ((64 : Int) < (n : Int)) := by omega
    have t65 : natOf (.int .i64 65) = some 65 := rfl
    simp -implicitDefEqProofs only [op, ef, cl, sq, reduceIte, Int.reduceLT, Int.reduceLE, Int.reduceBEq, Int.reduceBNe, Int.reduceEq, Nat.reduceAdd, Nat.reduceLeDiff, Nat.reduceLT, Nat.reduceEqDiff, S1, h0, h1, hok, l1, l2, n1, hp, hp2, t65, Nat.le_refl, Nat.reduceMul]
    refine W.loopI (fun (i : Nat) R H' => At H' (fun H' => Ext H4 H' ∧ H'[H4.length]? = some (.cells (msC eN (List.replicate 65 0)))) ∧ R 0 = .sl k (xs.map eP) ∧ R 1 = .int .i64 n ∧ R 7 = t1 ∧ R 8 = .int .i64 0 ∧ R 9 = t2 ∧ R 11 = .msl H4.length 0 65 1 ∧ R 12 = .int .i64 i ∧ i ≤ ps.length) (fun i => ps.length - i) 0 ?_ ?_
    · refine ⟨.i ⟨Ext.rfl'.app _, ?_⟩, ?_, ?_, ?_, ?_, ?_, ?_, ?_, Nat.zero_le _⟩
      · rw [g_tail rfl, ← msC_rep]; rfl
      all_goals (simp -implicitDefEqProofs only [op, ef, cl, sq, reduceIte, Int.reduceLT, Int.reduceLE, Int.reduceBEq, Int.reduceBNe, Int.reduceEq, Nat.reduceAdd, Nat.reduceLeDiff, Nat.reduceLT, Nat.reduceEqDiff, S1, h0, h1])
      all_goals first | rfl | simp
    rintro i R H5 ⟨⟨hx5, hv5⟩, h0, h1, h7, h8, h9, h11, h12, hi⟩
    have m15 := m1.ext hx5
    have m25 := m2.ext hx5
    have l15 := m15.len
    have l25 := m25.len
    by_cases hlt : i < ps.length
    · obtain ⟨x, hx⟩ := getP (l := ps) hlt
      obtain ⟨a, ha, hap, hal⟩ := kat i x hx
      have hxn := (hg.item x (List.mem_of_getElem? hx)).1
      obtain ⟨b, g1, g2, g3, g4⟩ := mut_at m25 hx
      obtain ⟨b', k1, k2, k3, k4⟩ := mut_at m15 ha
      have ws := wrap_succ (show i < 9223372036854775807 by omega)
      have c1 : ¬ ((x.part : Int) < 0) := by omega
      have c2 : ¬ ((63 : Int) < (x.part : Int)) := by omega
      simp -implicitDefEqProofs only [op, ef, cl, sq, reduceIte, Int.reduceLT, Int.reduceLE, Int.reduceBEq, Int.reduceBNe, Int.reduceEq, Nat.reduceAdd, Nat.reduceLeDiff, Nat.reduceLT, Nat.reduceEqDiff, S1, h0, h1, h7, h8, h9, h11, h12, l15, l25, n1, hlt, natOf_nat, g1, g2, g3, g4, k1, k2, k3, k4, hap, hal, List.length_map, c1, c2, ws]
      exact ⟨i + 1, by omega, .i ⟨hx5, hv5⟩, rfl, by omega⟩
    have hil : i = ps.length := by omega
    subst hil
    simp -implicitDefEqProofs only [op, ef, cl, sq, reduceIte, Int.reduceLT, Int.reduceLE, Int.reduceBEq, Int.reduceBNe, Int.reduceEq, Nat.reduceAdd, Nat.reduceLeDiff, Nat.reduceLT, Nat.reduceEqDiff, S1, h0, h1, h7, h8, h9, h11, h12, l15, n1, hlt]
    refine W.loopI (fun (i : Nat) R H' => At H' (fun H' => ∃ la, Ext H4 H' ∧ H'[H4.length]? = some (.cells (msC eN la)) ∧ MetL Prod.fst 65 n xs i la) ∧ R 0 = .sl k (xs.map eP) ∧ R 1 = .int .i64 n ∧ R 8 = .int .i64 0 ∧ R 9 = t2 ∧ R 11 = .msl H4.length 0 65 1 ∧ R 13 = .int .i64 i ∧ i ≤ xs.length) (fun i => xs.length - i) 0 ⟨.i ⟨_, hx5, hv5, MetL.zero Prod.fst 65 n xs⟩, by simp -implicitDefEqProofs only [op, ef, cl, sq, reduceIte, Int.reduceLT, Int.reduceLE, Int.reduceBEq, Int.reduceBNe, Int.reduceEq, Nat.reduceAdd, Nat.reduceLeDiff, Nat.reduceLT, Nat.reduceEqDiff, S1, h0], by simp -implicitDefEqProofs only [op, ef, cl, sq, reduceIte, Int.reduceLT, Int.reduceLE, Int.reduceBEq, Int.reduceBNe, Int.reduceEq, Nat.reduceAdd, Nat.reduceLeDiff, Nat.reduceLT, Nat.reduceEqDiff, S1, h1], by simp -implicitDefEqProofs only [op, ef, cl, sq, reduceIte, Int.reduceLT, Int.reduceLE, Int.reduceBEq, Int.reduceBNe, Int.reduceEq, Nat.reduceAdd, Nat.reduceLeDiff, Nat.reduceLT, Nat.reduceEqDiff, S1, h8], by simp -implicitDefEqProofs only [op, ef, cl, sq, reduceIte, Int.reduceLT, Int.reduceLE, Int.reduceBEq, Int.reduceBNe, Int.reduceEq, Nat.reduceAdd, Nat.reduceLeDiff, Nat.reduceLT, Nat.reduceEqDiff, S1, h9], by simp -implicitDefEqProofs only [op, ef, cl, sq, reduceIte, Int.reduceLT, Int.reduceLE, Int.reduceBEq, Int.reduceBNe, Int.reduceEq, Nat.reduceAdd, Nat.reduceLeDiff, Nat.reduceLT, Nat.reduceEqDiff, S1, h11], rfl, Nat.zero_le _⟩ ?_
    rintro i R H6 ⟨⟨la, hx6, hv6, hmet⟩, h0, h1, h8, h9, h11, h13, hi⟩
    have m26 := m2.ext hx6
    have l26 := m26.len
    by_cases hlt : i < xs.length
    · obtain ⟨s, hsv⟩ := getP (l := xs) hlt
      have ws := wrap_succ (show i < 9223372036854775807 by omega)
      have hia := iadX (e := eP) (n := 2) (fun _ => rfl) (by decide) (k := k) hsv
      have hlt' : (i : Int) < (xs.length : Int) := by omega
      simp -implicitDefEqProofs only [op, ef, cl, sq, reduceIte, Int.reduceLT, Int.reduceLE, Int.reduceBEq, Int.reduceBNe, Int.reduceEq, Nat.reduceAdd, Nat.reduceLeDiff, Nat.reduceLT, Nat.reduceEqDiff, S1, h0, h1, h8, h9, h11, h13, List.length_map, hlt, hlt', natOf_nat, hia, eP]
      refine callB_of _ _ _ _ _ _ _ _ (of8n s.1 n np1 np2 _ (hs s (List.mem_of_getElem? hsv))) ?_
      rintro u H6 ⟨hu, rfl⟩
      cases hu
      obtain ⟨q, hq⟩ : ∃ q, q = ofN s.1 n := ⟨_, rfl⟩
      have hqn : q < n := by rw [hq]; exact ofN_lt s.1 (by omega)
      have d1 : ¬ ((q : Int) < 0) := by omega
      have d2 : ¬ ((63 : Int) < (q : Int)) := by omega
      obtain ⟨y, hy, ey⟩ := hg.all s (List.mem_of_getElem? hsv)
      obtain ⟨j, hj, ej⟩ := List.getElem_of_mem hy
      have hpj : ps[j]? = some y := by rw [List.getElem?_eq_getElem hj, ej]
      have hyq : y.part = q := by rw [hq, ey]
      obtain ⟨c, hc⟩ : ∃ c, c = ((xs.take i).filter (fun k => decide (ofN k.1 n = q))).length := ⟨_, rfl⟩
      have hlm := hmet.2 q (by omega)
      rw [← hc] at hlm
      have hit := (hg.item y hy).2.1
      have hown : y.items[c]? = some s := by rw [hit, hyq, hc, hq]; exact next_own (key := Prod.fst) hsv
      have hcl : c < y.items.length := (List.getElem?_eq_some_iff.1 hown).1
      have hcb : c ≤ i := by rw [hc]; refine Nat.le_trans (List.length_filter_le ..) ?_; simp; omega
      simp -implicitDefEqProofs only [op, ef, cl, sq, reduceIte, Int.reduceLT, Int.reduceLE, Int.reduceBEq, Int.reduceBNe, Int.reduceEq, Nat.reduceAdd, Nat.reduceLeDiff, Nat.reduceLT, Nat.reduceEqDiff, S1, ← hq, h0, h1, h8, h9, h11, h13, d1, d2]
      refine W.loopI (fun (m : Nat) R H' => H' = H6 ∧ R 0 = .sl k (xs.map eP) ∧ R 1 = .int .i64 n ∧ R 8 = .int .i64 0 ∧ R 9 = t2 ∧ R 11 = .msl H4.length 0 65 1 ∧ R 13 = .int .i64 i ∧ R 14 = .int .i64 q ∧ R 16 = .bool (decide (j < m)) ∧ R 17 = .int .i64 m ∧ m ≤ ps.length) (fun m => ps.length - m) 0 ⟨rfl, by simp -implicitDefEqProofs only [op, ef, cl, sq, reduceIte, Int.reduceLT, Int.reduceLE, Int.reduceBEq, Int.reduceBNe, Int.reduceEq, Nat.reduceAdd, Nat.reduceLeDiff, Nat.reduceLT, Nat.reduceEqDiff, S1, h0], by simp -implicitDefEqProofs only [op, ef, cl, sq, reduceIte, Int.reduceLT, Int.reduceLE, Int.reduceBEq, Int.reduceBNe, Int.reduceEq, Nat.reduceAdd, Nat.reduceLeDiff, Nat.reduceLT, Nat.reduceEqDiff, S1, h1], by simp -implicitDefEqProofs only [op, ef, cl, sq, reduceIte, Int.reduceLT, Int.reduceLE, Int.reduceBEq, Int.reduceBNe, Int.reduceEq, Nat.reduceAdd, Nat.reduceLeDiff, Nat.reduceLT, Nat.reduceEqDiff, S1, h8], by simp -implicitDefEqProofs only [op, ef, cl, sq, reduceIte, Int.reduceLT, Int.reduceLE, Int.reduceBEq, Int.reduceBNe, Int.reduceEq, Nat.reduceAdd, Nat.reduceLeDiff, Nat.reduceLT, Nat.reduceEqDiff, S1, h9], by simp -implicitDefEqProofs only [op, ef, cl, sq, reduceIte, Int.reduceLT, Int.reduceLE, Int.reduceBEq, Int.reduceBNe, Int.reduceEq, Nat.reduceAdd, Nat.reduceLeDiff, Nat.reduceLT, Nat.reduceEqDiff, S1, h11], by simp -implicitDefEqProofs only [op, ef, cl, sq, reduceIte, Int.reduceLT, Int.reduceLE, Int.reduceBEq, Int.reduceBNe, Int.reduceEq, Nat.reduceAdd, Nat.reduceLeDiff, Nat.reduceLT, Nat.reduceEqDiff, S1, h13], by simp -implicitDefEqProofs only [op, ef, cl, sq, reduceIte, Int.reduceLT, Int.reduceLE, Int.reduceBEq, Int.reduceBNe, Int.reduceEq, Nat.reduceAdd, Nat.reduceLeDiff, Nat.reduceLT, Nat.reduceEqDiff, S1], by simp [op, ef, cl, sq, reduceIte, Int.reduceLT, Int.reduceLE, Int.reduceBEq, Int.reduceBNe, Int.reduceEq, Nat.reduceAdd, Nat.reduceLeDiff, Nat.reduceLT, Nat.reduceEqDiff, S1], rfl, Nat.zero_le _⟩ ?_
      rintro m R H6 ⟨rfl, h0, h1, h8, h9, h11, h13, h14, h16, h17, hm⟩
      have ga := msN_get hlm
      by_cases hmlt : m < ps.length
      · obtain ⟨x, hx⟩ := getP (l := ps) hmlt
        obtain ⟨b, g1, g2, g3, g4⟩ := mut_at m26 hx
        have wm := wrap_succ (show m < 9223372036854775807 by omega)
        by_cases e : m = j
        · subst e
          rw [hpj] at hx
          cases hx
          have e1 : (y.part : Int) = (q : Int) := by omega
          have e1n : y.part = q := by omega
          have hio := iadX (e := eP) (n := 2) (fun _ => rfl) (by decide) (k := y.kk) hown
          have q65 : q < 65 := by omega
          have dj : decide (m < m + 1) = true := by simp
          simp -implicitDefEqProofs only [op, ef, cl, sq, reduceIte, Int.reduceLT, Int.reduceLE, Int.reduceBEq, Int.reduceBNe, Int.reduceEq, Nat.reduceAdd, Nat.reduceLeDiff, Nat.reduceLT, Nat.reduceEqDiff, S1, h0, h1, h8, h9, h11, h13, h14, h16, h17, l26, hmlt, natOf_nat, g1, g2, g3, g4, e1, e1n, iad_m, q65, hv6, ga, hcl, List.length_map, hio, hia, eP, p_all, p_eq, wm]
          exact ⟨m + 1, by omega, dj.symm, rfl, by omega⟩
        · have e1 : ¬ ((x.part : Int) = (q : Int)) := by
            rcases Nat.lt_or_gt_of_ne e with h | h
            · have := hg.rise.rise m j x y h hx hpj; omega
            · have := hg.rise.rise j m y x h hpj hx; omega
          have e1n : ¬ (x.part = q) := by omega
          have dj : decide (j < m) = decide (j < m + 1) := by
            by_cases h : j < m
            · simp [h]; omega
            · simp [h]; omega
          simp -implicitDefEqProofs only [op, ef, cl, sq, reduceIte, Int.reduceLT, Int.reduceLE, Int.reduceBEq, Int.reduceBNe, Int.reduceEq, Nat.reduceAdd, Nat.reduceLeDiff, Nat.reduceLT, Nat.reduceEqDiff, S1, h0, h1, h8, h9, h11, h13, h14, h16, h17, l26, hmlt, natOf_nat, g1, g2, g3, g4, e1, e1n, wm]
          exact ⟨m + 1, by omega, dj, rfl, by omega⟩
      have hil : m = ps.length := by omega
      subst hil
      have dj : decide (j < ps.length) = true := by simp [hj]
      have q65 : q < 65 := by omega
      have wc := wrap_succ (show c < 9223372036854775807 by omega)
      have ss := fun Hx b => msN_set (l := la) (i := q) (by rw [hmet.1]; exact q65) (c + 1) Hx b
      have hst := hmet.step hsv (by omega) (by rw [← hq]; exact q65)
      simp -implicitDefEqProofs only [← hq] at hst
      rw [← hc] at hst
      simp -implicitDefEqProofs only [op, ef, cl, sq, reduceIte, Int.reduceLT, Int.reduceLE, Int.reduceBEq, Int.reduceBNe, Int.reduceEq, Nat.reduceAdd, Nat.reduceLeDiff, Nat.reduceLT, Nat.reduceEqDiff, S1, h0, h1, h8, h9, h11, h13, h14, h16, h17, l26, hmlt, dj, iad_m, q65, hv6, natOf_nat, ga, wc, ss, ws]
      exact ⟨i + 1, by omega, .i ⟨_, hx6.set (Nat.le_refl _) _, g_eq (glt hv6), hst⟩, rfl, by omega⟩
    have hil : i = xs.length := by omega
    subst hil
    have hlt' : ¬ ((xs.length : Int) < (xs.length : Int)) := by omega
    simp -implicitDefEqProofs only [op, ef, cl, sq, reduceIte, Int.reduceLT, Int.reduceLE, Int.reduceBEq, Int.reduceBNe, Int.reduceEq, Nat.reduceAdd, Nat.reduceLeDiff, Nat.reduceLT, Nat.reduceEqDiff, S1, h0, h1, h8, h9, h11, h13, List.length_map, hlt, hlt']
end Go.Proofs.Ytpbilghnfldmiaa.Sx
end

/-! text ShardRd -/
section
namespace Go.Proofs.Ytpbilghnfldmiaa
open Go.ChangeShapes Go.WideShapes Go.ChangeAt Go.RowKit
namespace Law
theorem shardPairs_w (as' : List Go.Rmp.T) (hs : Go.Rmp.HasShs 1048576 [Go.Rmp.Sh.sl [.str, .str], .int .i64] as') : Go.Rmp.W Ir.env (.call 6 as') [] (fun o _ => o = .val (.bool true)) := by
  cases hs with | cons h1 hs =>
  cases hs with | cons h2 hs =>
  cases hs
  obtain ⟨k, l, rfl, n1, n2⟩ := Sx.hasPs h1
  obtain ⟨p, rfl⟩ := hasI h2
  exact Sx.pairs6 k l p [] n1 (fun s hs => by have := n2 s hs; omega)

theorem shardPairs_fn (H : Type) : ∀ ds : List (DataW H), ds.length = Try.f6.params.toList.length → Rows.shardPairsSpec.fn H ds = { results := [.lit (.bool true)], args := ds } := by
  have hn : Try.f6.params.toList.length = 2 := by kernel_rfl
  rw [hn]
  intro ds hds
  cases ds with | nil => simp at hds | cons d0 ds =>
  cases ds with | nil => simp at hds | cons d1 ds =>
  cases ds with | cons => simp at hds | nil =>
  rfl
set_option maxRecDepth 100000 in
theorem shardPairs_lifted (os : Os) (started : os.Started) (H : Type) (enc : TypeId × Value → H) (F : Stop.Interp) :
    ReturnsInHanded {} Try.checked os 6 .any ((Rows.OpenSpec.upto Rows.shardPairsSpec).pre6 enc Try.prog Try.f6 Rows.shardPairsUptoRow.domain false) (((Rows.OpenSpec.upto Rows.shardPairsSpec).at F).post enc Try.prog Try.f6 false true false false) := by
  refine returnsInHanded_of_cond (C := Try.checked) (s := Rows.OpenSpec.upto Rows.shardPairsSpec) (k := Rows.uptoSmall) rfl own started (by kernel_rfl) Try.func6
    (OpenSpec.witness (enc := enc) (C := Try.checked) (s := Rows.OpenSpec.upto Rows.shardPairsSpec) (k := Rows.uptoSmall) rfl false ⟨#[], #[.slice .none 0 0, .int .i64 0], []⟩ 8 (by kernel_rfl) (by kernel_rfl) (by kernel_rfl)
      (x := ([.nil, .lit (.int .i64 0)], [], [])) (by kernel_rfl) rfl (by kernel_rfl)) ?_
  intro W base args ds gs before hval hW _ hk _
  exact Go.Rmp.law_contract (s := Rows.shardPairsSpec) (shs := [Go.Rmp.Sh.sl [.str, .str], .int .i64]) (B := 1048576) (tb := Try.f6.resultTypes[0]!) Ir.envOk kids hz (by kernel_rfl) (by intro t ht; exact of_decide_eq_true ((List.all_eq_true.1 (show Try.f6.params.toList.all (fun t => decide (t < Try.prog.types.size)) = true by kernel_rfl)) t ht)) (by kernel_rfl) (by kernel_rfl) rfl (shardPairs_fn H) shardPairs_w base args ds gs before hval hW (bulk_ok hk)
theorem shardPairs_over : Rows.shardPairsUptoRow.holds Try.pinned (Rows.OpenSpec.upto Rows.shardPairsSpec) :=
  OpenClaim.holds_of_cond 6 Try.f6 rfl rfl rfl rfl rfl rfl rfl ⟨rfl, rfl, rfl, rfl, rfl⟩ rfl rfl rfl rfl rfl (by kernel_rfl) Try.func6 (by kernel_rfl)
    (of_decide_eq_true (by kernel_rfl)) (by unfold Func.isWrapper; first | (rw [if_pos (by decide +kernel)]; kernel_rfl) | (rw [if_neg (by decide +kernel)]; exact ⟨rfl, rfl⟩))
    (fun os started H enc _ F => shardPairs_lifted os started H enc F)
theorem shardPairs_proved : Rows.ShardPairsUptoSaid := shardPairs_over
end Law
end Go.Proofs.Ytpbilghnfldmiaa
end
