/- Part of a proof of a law of this seat: the machine of plain values, its simulation, and the contracts of the functions that the law reaches. Conditions: none beyond the given row. -/
import Derived.Test.YtobnjpgggocdlaaM2
import Derived.Test.YtobnjpgggocdlaaRows
import Derived.WalkKit
import Derived.ProofKit
import Derived.OpenShut
import Derived.JoinedCond
import Derived.ChangeBears
set_option linter.unusedSimpArgs false
set_option linter.unusedVariables false
set_option maxHeartbeats 4000000
/-! text FixG -/
section
namespace Go.Proofs.Ytobnjpgggocdlaa.Fx
open Go.Rmp Go.Proofs.Ytobnjpgggocdlaa.Ir
set_option maxRecDepth 10000
/-- the greatest ID of those that have a key among theirs -/
def gr (l : List Ver) (key : ByteArray) : Nat := l.foldl (fun m v => if memB v.keys key then max m v.id else m) 0
def grs (l : List Ver) : List Nat := l.map fun u => gr l u.key
theorem gr_snoc (l : List Ver) (v : Ver) (key : ByteArray) : gr (l ++ [v]) key = if memB v.keys key then max (gr l key) v.id else gr l key := by simp [gr]
theorem gr_app (l m : List Ver) (key : ByteArray) : gr l key ≤ gr (l ++ m) key := by
  induction m generalizing l with
  | nil => simp
  | cons v m ih =>
    have := ih (l ++ [v])
    rw [gr_snoc] at this
    rw [List.append_assoc] at this
    simp -implicitDefEqProofs only [List.cons_append, List.nil_append] at this
    split at this <;> omega
theorem gr_ge {l : List Ver} {v : Ver} {key : ByteArray} (hv : v ∈ l) (hk : memB v.keys key = true) : v.id ≤ gr l key := by
  obtain ⟨a, b, rfl⟩ := List.append_of_mem hv
  have h1 := gr_snoc a v key
  have h2 := gr_app (a ++ [v]) b key
  rw [List.append_assoc] at h2
  simp -implicitDefEqProofs only [List.cons_append, List.nil_append] at h2
  rw [hk] at h1
  simp at h1
  omega
theorem gr_is' (l : List Ver) (key : ByteArray) : ∀ m0, (l.foldl (fun m v => if memB v.keys key then max m v.id else m) m0 = m0) ∨ ∃ v ∈ l, memB v.keys key = true ∧ v.id = l.foldl (fun m v => if memB v.keys key then max m v.id else m) m0 := by
  induction l with
  | nil => exact fun m0 => .inl rfl
  | cons v l ih =>
    intro m0
    simp -implicitDefEqProofs only [List.foldl_cons]
    rcases ih (if memB v.keys key then max m0 v.id else m0) with h | ⟨u, hu, h1, h2⟩
    · by_cases hk : memB v.keys key = true
      · rw [h]; simp -implicitDefEqProofs only [hk, if_true]
        by_cases h' : v.id ≤ m0
        · left; omega
        · exact .inr ⟨v, by simp, hk, by omega⟩
      · rw [h]; simp -implicitDefEqProofs only [hk, if_false, Bool.false_eq_true]; simp
    · exact .inr ⟨u, by simp [hu], h1, h2⟩
theorem gr_is (l : List Ver) (key : ByteArray) : gr l key = 0 ∨ ∃ v ∈ l, memB v.keys key = true ∧ v.id = gr l key := gr_is' l key 0

/-- a place for each among the first i -/
def Places {β : Type} [DecidableEq β] (f : Ver → β) (l : List Ver) (i : Nat) (es : List (β × T)) : Prop := ∀ k, match mlook es k with
  | .none => k ∉ (l.take i).map f
  | some t => ∃ p v, p < i ∧ l[p]? = some v ∧ f v = k ∧ t = .int .i64 (p : Int)
theorem places_nil {β : Type} [DecidableEq β] (f : Ver → β) (l : List Ver) : Places f l 0 [] := fun k => by simp [mlook_nil]
theorem places_put {β : Type} [DecidableEq β] {f : Ver → β} {l : List Ver} {i : Nat} {es : List (β × T)} {v : Ver} (h : Places f l i es) (hv : l[i]? = some v) : Places f l (i + 1) (mput es (f v) (.int .i64 (i : Int))) := fun k => by
  rw [mlook_put, take_snoc hv]
  by_cases e : k = f v
  · subst e; simp -implicitDefEqProofs only [if_true]; exact ⟨i, v, by omega, hv, rfl, rfl⟩
  · have := h k
    simp -implicitDefEqProofs only [e, if_false]
    cases hl' : mlook es k with
    | none => rw [hl'] at this; simp [e]; simpa using this
    | some t => rw [hl'] at this; obtain ⟨p, u, hp, hu, he⟩ := this; exact ⟨p, u, by omega, hu, he⟩

def cnt (l : List Ver) (i id : Nat) : Nat := ((l.take i).filter fun v => decide (v.id = id)).length
def SeenOk (l : List Ver) (i : Nat) (es : List (Nat × T)) : Prop := ∀ id, (cnt l i id = 0 → mlook es id = Option.none) ∧ (cnt l i id ≠ 0 → mlook es id = some (T.int .i64 (cnt l i id : Int)))
theorem cnt_le (l : List Ver) (i id : Nat) : cnt l i id ≤ l.length := by
  unfold cnt; refine Nat.le_trans (List.length_filter_le _ _) ?_; simp; omega
theorem cnt_succ {l : List Ver} {i : Nat} {v : Ver} (hv : l[i]? = some v) (id : Nat) : cnt l (i + 1) id = cnt l i id + if v.id = id then 1 else 0 := by
  unfold cnt; rw [take_snoc hv, List.filter_append, List.length_append]
  by_cases e : v.id = id <;> simp [List.filter_cons, e]
theorem cnt_mem {l : List Ver} {i id : Nat} (h : cnt l i id ≠ 0) : ∃ p v, p < i ∧ l[p]? = some v ∧ v.id = id := by
  unfold cnt at h
  obtain ⟨x, hx⟩ := List.exists_mem_of_length_pos (Nat.pos_of_ne_zero h)
  rw [List.mem_filter] at hx
  obtain ⟨j, hj, e⟩ := mem_take hx.1
  exact ⟨j, x, hj, e, by simpa using hx.2⟩
def OutOk (l : List Ver) (i : Nat) (outs : List Nat) : Prop := outs.length = l.length ∧ ∀ (p : Nat) (u : Ver), l[p]? = some u → outs[p]? = some (gr (l.take i) u.key)
def InOk (l : List Ver) (i : Nat) (v : Ver) (j : Nat) (outs : List Nat) : Prop := outs.length = l.length ∧ ∀ (p : Nat) (u : Ver), l[p]? = some u → outs[p]? = some (if memB (v.keys.take j) u.key then max (gr (l.take i) u.key) v.id else gr (l.take i) u.key)
theorem mxN (a b : Nat) : (if ((b : Nat) : Int) > ((a : Nat) : Int) then ((b : Nat) : Int) else ((a : Nat) : Int)) = ((max a b : Nat) : Int) := by
  split <;> omega
theorem out0 (l : List Ver) : OutOk l 0 (List.replicate l.length 0) := ⟨by simp, fun p u hu => by
  have := (List.getElem?_eq_some_iff.1 hu).1
  simp [gr, this]⟩
theorem in0 {l : List Ver} {i : Nat} {outs : List Nat} (h : OutOk l i outs) (v : Ver) : InOk l i v 0 outs := ⟨h.1, fun p u hu => by rw [h.2 p u hu]; simp [memB]⟩
theorem in_end {l : List Ver} {i : Nat} {v : Ver} {outs : List Nat} (hv : l[i]? = some v) {j : Nat} (hj : v.keys.length ≤ j) (h : InOk l i v j outs) : OutOk l (i + 1) outs := ⟨h.1, fun p u hu => by
  rw [h.2 p u hu, take_snoc hv, gr_snoc, List.take_of_length_le hj]⟩
theorem out_dup {l : List Ver} {i : Nat} {v : Ver} {outs : List Nat} (hv : l[i]? = some v) (hf : Formed l) (hd : cnt l i v.id ≠ 0) (h : OutOk l i outs) : OutOk l (i + 1) outs := ⟨h.1, fun p u hu => by
  rw [h.2 p u hu, take_snoc hv, gr_snoc]
  obtain ⟨q, x, hq, hx, he⟩ := cnt_mem hd
  have hi := (List.getElem?_eq_some_iff.1 hv).1
  have := (hf.2.2 i hi v hv).2 q x hq hx
  simp -implicitDefEqProofs only [ok2, he, decide_true, Bool.not_true, Bool.false_or, Bool.and_eq_true, decide_eq_true_eq] at this
  by_cases hk : memB v.keys u.key = true
  · have := gr_ge (key := u.key) (take_mem hq hx) (by rw [this.2]; exact hk)
    simp -implicitDefEqProofs only [hk, if_true]; congr 1; omega
  · simp -implicitDefEqProofs only [hk, if_false, Bool.false_eq_true]⟩
theorem getU {l : List Nat} {i : Nat} (h : i < l.length) : ∃ x, l[i]? = some x := ⟨l[i], List.getElem?_eq_getElem h⟩

theorem memB_snoc (l : List ByteArray) (a k : ByteArray) : memB (l ++ [a]) k = (memB l k || decide (a = k)) := by simp [memB]
theorem takeS {l : List ByteArray} {i : Nat} {v : ByteArray} (h : l[i]? = some v) : l.take (i + 1) = l.take i ++ [v] := by
  rw [List.take_add_one, h]; rfl
theorem in_skip {l : List Ver} {i j : Nat} {v : Ver} {kk : ByteArray} {outs : List Nat} (hk : v.keys[j]? = some kk) (hn : ∀ (p : Nat) u, l[p]? = some u → u.key ≠ kk) (h : InOk l i v j outs) : InOk l i v (j + 1) outs := ⟨h.1, fun p u hu => by
  have : decide (kk = u.key) = false := by simpa using fun e => hn p u hu e.symm
  rw [h.2 p u hu, takeS hk, memB_snoc, this, Bool.or_false]⟩
theorem in_step {l : List Ver} {i j p x : Nat} {v u : Ver} {outs : List Nat} (hk : v.keys[j]? = some u.key) (hu : l[p]? = some u) (hn : ∀ (q : Nat) w, l[q]? = some w → w.key = u.key → q = p) (hx : outs[p]? = some x) (h : InOk l i v j outs) : InOk l i v (j + 1) (outs.set p (max x v.id)) := ⟨by simp [h.1], fun q w hw => by
  rw [takeS hk, memB_snoc]
  by_cases e : q = p
  · subst e
    rw [hu] at hw; cases hw
    have := h.2 q u hu
    rw [hx] at this
    have hq := (List.getElem?_eq_some_iff.1 hx).1
    rw [List.getElem?_set_self hq]
    simp -implicitDefEqProofs only [decide_true, Bool.or_true, if_true, Option.some.injEq] at this ⊢
    rw [this]; split <;> omega
  · have : decide (u.key = w.key) = false := by simpa using fun e' => e (hn q w hw e'.symm)
    rw [List.getElem?_set_ne (Ne.symm e), h.2 q w hw, this, Bool.or_false]⟩
theorem key_one {l : List Ver} (hf : Formed l) {p q : Nat} {u w : Ver} (hu : l[p]? = some u) (hw : l[q]? = some w) (e : w.key = u.key) : q = p := by
  have h1 := (List.getElem?_eq_some_iff.1 hu).1
  have h2 := (List.getElem?_eq_some_iff.1 hw).1
  rcases Nat.lt_trichotomy q p with h | h | h
  · have := (hf.2.2 p h1 u hu).2 q w h hw; simp [ok2, e] at this
  · exact h
  · have := (hf.2.2 q h2 w hw).2 p u h hu; simp [ok2, e] at this
theorem place_get {β : Type} [DecidableEq β] {f : Ver → β} {l : List Ver} {i : Nat} {es : List (β × T)} (h : Places f l i es) {k : β} {t : T} (ht : mlook es k = some t) : ∃ p v, p < i ∧ l[p]? = some v ∧ f v = k ∧ t = .int .i64 (p : Int) := by
  have := h k; rw [ht] at this; exact this
theorem place_no {β : Type} [DecidableEq β] {f : Ver → β} {l : List Ver} {es : List (β × T)} (h : Places f l l.length es) {k : β} (ht : mlook es k = Option.none) : ∀ (p : Nat) v, l[p]? = some v → f v ≠ k := by
  intro p v hv e
  have := h k; rw [ht] at this; simp at this
  exact this v (List.mem_of_getElem? hv) e

theorem greatest25 (k : SK) (l : List Ver) (H : Heap) (hs : Small l) (hf : Formed l) : W env (.call 25 [.sl k (encVs l)]) H (fun o H' => Ext H H' ∧ ∃ b, o = .val (.msl b 0 l.length 1) ∧ H'[b]? = some (.cells (msC eU (grs l))) ∧ H.length ≤ b) := by
  refine W.fnI rfl rfl rfl ?_
  have hln := hf.2.1
  simp -implicitDefEqProofs only [ir25, op, ef, cl, sq, reduceIte, Int.reduceLT, Int.reduceLE, Int.reduceBEq, Int.reduceBNe, Int.reduceEq, Nat.reduceAdd, Nat.reduceLeDiff, Nat.reduceLT, Nat.reduceEqDiff, S1, encVs_len]
  refine W.loopI (fun (i : Nat) R H' => At H' (fun H' => ∃ es, Ext H H' ∧ H'[H.length]? = some (.map (encK T.str es)) ∧ Places Ver.key l i es) ∧ R 0 = .sl k (encVs l) ∧ R 3 = .map H.length ∧ R 15 = .sl k (encVs l) ∧ R 16 = .int .i64 l.length ∧ R 17 = .int .i64 i ∧ i ≤ l.length) (fun i => l.length - i) 0 ?_ ?_
  · exact ⟨.i ⟨[], Ext.rfl'.app _, by simp [encK], places_nil _ _⟩, rfl, rfl, rfl, by simp -implicitDefEqProofs only [op, ef, cl, sq, reduceIte, Int.reduceLT, Int.reduceLE, Int.reduceBEq, Int.reduceBNe, Int.reduceEq, Nat.reduceAdd, Nat.reduceLeDiff, Nat.reduceLT, Nat.reduceEqDiff, S1, encVs_len], rfl, Nat.zero_le _⟩
  rintro i R H1 ⟨⟨es, hx, hb3, hat⟩, h0, h3, h15, h16, h17, hi⟩
  have l3 := glt hb3
  by_cases hlt : i < l.length
  · obtain ⟨v, hv⟩ := getV hlt
    have wsi := wrap_succ (show i < 9223372036854775807 by omega)
    simp -implicitDefEqProofs only [op, ef, cl, sq, reduceIte, Int.reduceLT, Int.reduceLE, Int.reduceBEq, Int.reduceBNe, Int.reduceEq, Nat.reduceAdd, Nat.reduceLeDiff, Nat.reduceLT, Nat.reduceEqDiff, S1, S2, h0, h3, h15, h16, h17, encVs_len, hlt, iadV hv, encV, l3, hb3, wsi]
    exact ⟨i + 1, by omega, .i ⟨_, (hx.set (Nat.le_refl _) _).app _, by simp -implicitDefEqProofs only [S2, l3], places_put hat hv⟩, rfl, by omega⟩
  have hil : i = l.length := by omega
  subst hil
  have w8 : l.length * 8 ≤ 281474976710656 := by omega
  have w9 : l.length ≤ 9223372036854775807 := by omega
  simp -implicitDefEqProofs only [op, ef, cl, sq, reduceIte, Int.reduceLT, Int.reduceLE, Int.reduceBEq, Int.reduceBNe, Int.reduceEq, Nat.reduceAdd, Nat.reduceLeDiff, Nat.reduceLT, Nat.reduceEqDiff, S1, S2, h0, h3, h15, h16, h17, encVs_len, hlt, hb3, natOf_nat, Nat.le_refl, w8, w9]
  refine W.loopI (fun (i : Nat) R H' => At H' (fun H' => ∃ ss outs, Ext H H' ∧ H'[H.length]? = some (.map (encK T.str es)) ∧ H'[H1.length]? = some (.cells (msC eU outs)) ∧ H'[H1.length + 1]? = some (.map (encK kU ss)) ∧ SeenOk l i ss ∧ OutOk l i outs) ∧ R 3 = .map H.length ∧ R 6 = .msl H1.length 0 l.length 1 ∧ R 7 = .map (H1.length + 1) ∧ R 31 = .sl k (encVs l) ∧ R 32 = .int .i64 l.length ∧ R 33 = .int .i64 i ∧ i ≤ l.length) (fun i => l.length - i) 0 ?_ ?_
  · refine ⟨.i ⟨[], List.replicate l.length 0, (hx.app _).app _, ?_, ?_, ?_, ?_, out0 l⟩, ?_, ?_, ?_, ?_, ?_, ?_, Nat.zero_le _⟩
    · simp -implicitDefEqProofs only [S2, l3, hb3]
    · rw [List.append_assoc, List.cons_append, g_tail rfl, ← msC_rep]; rfl
    · rw [g_tail (by simp)]; rfl
    · intro id; simp [cnt, mlook_nil]
    all_goals (simp -implicitDefEqProofs only [op, ef, cl, sq, reduceIte, Int.reduceLT, Int.reduceLE, Int.reduceBEq, Int.reduceBNe, Int.reduceEq, Nat.reduceAdd, Nat.reduceLeDiff, Nat.reduceLT, Nat.reduceEqDiff, S1, h0, h3, encVs_len])
    · simp
    · rfl
  rintro i R H2 ⟨⟨ss, outs, hx2, hc3, hc6, hc7, hseen, hout⟩, g3, g6, g7, g31, g32, g33, hi2⟩
  have m3 := glt hc3
  have m6 := glt hc6
  have m7 := glt hc7
  have n36 : H.length ≠ H1.length := by omega
  have n37 : H.length ≠ H1.length + 1 := by omega
  have n67 : H1.length ≠ H1.length + 1 := by omega
  have n73 : H1.length + 1 ≠ H.length := by omega
  have n76 : H1.length + 1 ≠ H1.length := by omega
  have n27 : H2.length ≠ H1.length + 1 := by omega
  by_cases hlt : i < l.length
  · obtain ⟨v, hv⟩ := getV hlt
    have hvs := hs.2 v (List.mem_of_getElem? hv)
    have wsi := wrap_succ (show i < 9223372036854775807 by omega)
    have hcl := cnt_le l i v.id
    have hseen' : SeenOk l (i + 1) (mput ss v.id (.int .i64 ((cnt l i v.id + 1 : Nat) : Int))) := fun id => by
      rw [mlook_put, cnt_succ hv]
      by_cases e : id = v.id
      · subst e; simp
      · have e' : ¬ v.id = id := fun h => e h.symm
        simp -implicitDefEqProofs only [e, e', if_false, Nat.add_zero]; exact hseen id
    by_cases hd : cnt l i v.id = 0
    · have w1 : IntKind.i64.wrap ((0 : Int) + 1) = ((0 + 1 : Nat) : Int) := by decide
      rw [hd] at hseen'
      have hkk : ∀ x, x ∈ v.keys → True := fun _ _ => trivial
      simp -implicitDefEqProofs only [op, ef, cl, sq, reduceIte, Int.reduceLT, Int.reduceLE, Int.reduceBEq, Int.reduceBNe, Int.reduceEq, Nat.reduceAdd, Nat.reduceLeDiff, Nat.reduceLT, Nat.reduceEqDiff, S1, S2, g3, g6, g7, g31, g32, g33, encVs_len, hlt, iadV hv, encV, m3, m6, m7, hc3, hc6, hc7, (hseen v.id).1 hd, w1, mlook_put, n27, n76, n67, encS_len]
      refine W.loopI (fun (j : Nat) R H' => At H' (fun H' => ∃ outs, Ext H H' ∧ H'[H.length]? = some (.map (encK T.str es)) ∧ H'[H1.length]? = some (.cells (msC eU outs)) ∧ H'[H1.length + 1]? = some (.map (encK kU (mput ss v.id (.int .i64 ((0 + 1 : Nat) : Int))))) ∧ H'[H2.length]? = some (.cells (encV v)) ∧ InOk l i v j outs) ∧ R 3 = .map H.length ∧ R 6 = .msl H1.length 0 l.length 1 ∧ R 7 = .map (H1.length + 1) ∧ R 9 = .ptr H2.length 0 ∧ R 31 = .sl k (encVs l) ∧ R 32 = .int .i64 l.length ∧ R 33 = .int .i64 i ∧ R 48 = .sl v.kk (encS v.keys) ∧ R 49 = .int .i64 v.keys.length ∧ R 50 = .int .i64 j ∧ j ≤ v.keys.length) (fun j => v.keys.length - j) 0 ?_ ?_
      · refine ⟨.i ⟨outs, (hx2.set (by omega) _).app _, ?_, ?_, ?_, ?_, in0 hout v⟩, ?_, ?_, ?_, ?_, ?_, ?_, ?_, ?_, ?_, ?_, Nat.zero_le _⟩
        · simp -implicitDefEqProofs only [S2, m3, n73, hc3, ne_eq, not_false_eq_true]
        · simp -implicitDefEqProofs only [S2, m6, n76, hc6, ne_eq, not_false_eq_true]
        · simp -implicitDefEqProofs only [S2, m7]
        · rw [g_tail (by simp)]; rfl
        all_goals (simp -implicitDefEqProofs only [op, ef, cl, sq, reduceIte, Int.reduceLT, Int.reduceLE, Int.reduceBEq, Int.reduceBNe, Int.reduceEq, Nat.reduceAdd, Nat.reduceLeDiff, Nat.reduceLT, Nat.reduceEqDiff, S1, g3, g6, g7, g31, g32, g33, encS_len])
        rfl
      rintro j R H3 ⟨⟨outs, hx3, d3, d6, d7, d9, hin⟩, e3, e6, e7, e9, e31, e32, e33, e48, e49, e50, hj⟩
      by_cases hjlt : j < v.keys.length
      · obtain ⟨kk, hk⟩ := getS hjlt
        have wsj := wrap_succ (show j < 9223372036854775807 by omega)
        have q6 := glt d6
        have b36 : ¬ H.length ≥ H1.length + 1 := by omega
        cases ha : mlook es kk with
        | none =>
          simp -implicitDefEqProofs only [op, ef, cl, sq, reduceIte, Int.reduceLT, Int.reduceLE, Int.reduceBEq, Int.reduceBNe, Int.reduceEq, Nat.reduceAdd, Nat.reduceLeDiff, Nat.reduceLT, Nat.reduceEqDiff, S1, S2, e3, e6, e7, e9, e31, e32, e33, e48, e49, e50, hjlt, iadS hk, d3, ha, wsj]
          exact ⟨j + 1, by omega, .i ⟨outs, hx3, d3, d6, d7, d9, in_skip hk (place_no hat ha) hin⟩, rfl, by omega⟩
        | some t =>
          obtain ⟨p, u, hp, hu, rfl, rfl⟩ := place_get hat ha
          obtain ⟨x, hxp⟩ := getU (l := outs) (i := p) (by rw [hin.1]; exact hp)
          have dd : H.length ≠ H1.length := n36
          have n29 : H1.length ≠ H2.length := by omega
          simp -implicitDefEqProofs only [op, ef, cl, sq, reduceIte, Int.reduceLT, Int.reduceLE, Int.reduceBEq, Int.reduceBNe, Int.reduceEq, Nat.reduceAdd, Nat.reduceLeDiff, Nat.reduceLT, Nat.reduceEqDiff, S1, S2, e3, e6, e7, e9, e31, e32, e33, e48, e49, e50, hjlt, iadS hk, d3, d6, d9, encV, ha, wsj, natOf_nat, iad_m, hp, msU_get hxp, msU_set hxp, mxN]
          exact ⟨j + 1, by omega, .i ⟨_, hx3.set (by omega) _, by rw [g_ne (by omega)]; exact d3, g_eq q6, by rw [g_ne (by omega)]; exact d7, by rw [g_ne (by omega)]; exact d9, in_step hk hu (fun q w hw e => key_one hf hu hw e) hxp hin⟩, rfl, by omega⟩
      · simp -implicitDefEqProofs only [op, ef, cl, sq, reduceIte, Int.reduceLT, Int.reduceLE, Int.reduceBEq, Int.reduceBNe, Int.reduceEq, Nat.reduceAdd, Nat.reduceLeDiff, Nat.reduceLT, Nat.reduceEqDiff, S1, S2, e3, e6, e7, e9, e31, e32, e33, e48, e49, e50, hjlt, wsi]
        exact ⟨i + 1, by omega, .i ⟨_, outs, hx3, d3, d6, d7, hseen', in_end hv (by omega) hin⟩, rfl, by omega⟩
    · have w1 : IntKind.i64.wrap ((cnt l i v.id : Int) + 1) = ((cnt l i v.id + 1 : Nat) : Int) := wrap_succ (by omega)
      have gt1 : 1 < cnt l i v.id + 1 := by omega
      simp -implicitDefEqProofs only [op, ef, cl, sq, reduceIte, Int.reduceLT, Int.reduceLE, Int.reduceBEq, Int.reduceBNe, Int.reduceEq, Nat.reduceAdd, Nat.reduceLeDiff, Nat.reduceLT, Nat.reduceEqDiff, S1, S2, g3, g6, g7, g31, g32, g33, encVs_len, hlt, iadV hv, encV, m3, m6, m7, hc3, hc6, hc7, (hseen v.id).2 hd, w1, mlook_put, n27, n76, n67, encS_len, gt1, wsi]
      exact ⟨i + 1, by omega, .i ⟨_, outs, (hx2.set (by omega) _).app _, by simp -implicitDefEqProofs only [S2, m3, n73, hc3, ne_eq, not_false_eq_true], by simp -implicitDefEqProofs only [S2, m6, n76, hc6, ne_eq, not_false_eq_true], by simp -implicitDefEqProofs only [S2, m7], hseen', out_dup hv hf hd hout⟩, rfl, by omega⟩
  · have hil : i = l.length := by omega
    subst hil
    have he : outs = grs l := List.ext_getElem? fun p => by
      by_cases hp : p < l.length
      · obtain ⟨u, hu⟩ := getV hp
        rw [hout.2 p u hu, List.take_length]; simp [grs, hu]
      · rw [List.getElem?_eq_none (by rw [hout.1]; omega), List.getElem?_eq_none (by simp [grs]; omega)]
    subst he
    simp -implicitDefEqProofs only [op, ef, cl, sq, reduceIte, Int.reduceLT, Int.reduceLE, Int.reduceBEq, Int.reduceBNe, Int.reduceEq, Nat.reduceAdd, Nat.reduceLeDiff, Nat.reduceLT, Nat.reduceEqDiff, S1, S2, g3, g6, g7, g31, g32, g33, hlt]
    exact ⟨hx2, H1.length, rfl, hc6, hx.len⟩
end Go.Proofs.Ytobnjpgggocdlaa.Fx
end

/-! text FixH -/
section
namespace Go.Proofs.Ytobnjpgggocdlaa.Fx
open Go.Rmp Go.Proofs.Ytobnjpgggocdlaa.Ir
set_option maxRecDepth 10000
def encW (w : ByteArray × Nat) : List T := [.str w.1, .int .u64 w.2]
def encWs (l : List (ByteArray × Nat)) : List (List T) := l.map encW
theorem encWs_len (l : List (ByteArray × Nat)) : (encWs l).length = l.length := by simp [encWs]
theorem allW (l : List (ByteArray × Nat)) : (encWs l).all (fun c => c.length == 2) = true := all_map (n := 2) (fun _ => rfl) l
def wants' (l m : List Ver) : List (ByteArray × Nat) := (m.filter fun u => decide (u.id < gr l u.key)).map fun u => (u.key, gr l u.key)
def wants (l : List Ver) : List (ByteArray × Nat) := wants' l l
theorem wants_snoc (l m : List Ver) (u : Ver) : wants' l (m ++ [u]) = if u.id < gr l u.key then wants' l m ++ [(u.key, gr l u.key)] else wants' l m := by
  unfold wants'; rw [List.filter_append, List.map_append]
  by_cases h : u.id < gr l u.key <;> simp [List.filter_cons, h]
theorem wants_le (l m : List Ver) : (wants' l m).length ≤ m.length := by simp [wants']; exact List.length_filter_le _ _
theorem wapp (ws : List (ByteArray × Nat)) (k : ByteArray) (n : Nat) : encWs ws ++ [[T.str k, T.int .u64 n]] = encWs (ws ++ [(k, n)]) := by simp [encWs, encW]
open Classical in
noncomputable def needs (l : List Ver) : List (ByteArray × Nat) := if Formed l then wants l else []
open Classical in
noncomputable def needsE (l : List Ver) : Nat := if Formed l then 0 else 1
def NeedsQ (l : List Ver) (H : Heap) : Out → Heap → Prop := fun o H' => Ext H H' ∧ ∃ k, o = .val (.tup [.sl k (encWs (needs l)), .int .i64 (needsE l)])
theorem getG {l : List Nat} {i : Nat} {l' : List Ver} {u : Ver} (h : l = grs l') (hu : l'[i]? = some u) : l[i]? = some (gr l' u.key) := by subst h; simp [grs, hu]

theorem needs9 (k : SK) (l : List Ver) (H : Heap) (hs : Small l) : W env (.call 9 [.sl k (encVs l)]) H (NeedsQ l H) := by
  refine W.fnI rfl rfl rfl ?_
  simp -implicitDefEqProofs only [ir9, op, ef, cl, sq, reduceIte, Int.reduceLT, Int.reduceLE, Int.reduceBEq, Int.reduceBNe, Int.reduceEq, Nat.reduceAdd, Nat.reduceLeDiff, Nat.reduceLT, Nat.reduceEqDiff, S1]
  refine callB_of _ _ _ _ _ _ _ _ (formed12 k l _ hs) ?_
  rintro u H1 ⟨hu, hx1⟩
  cases hu
  have hx1 : Ext H H1 := hx1
  by_cases hf : ¬ Formed l
  · simp -implicitDefEqProofs only [op, ef, cl, sq, reduceIte, Int.reduceLT, Int.reduceLE, Int.reduceBEq, Int.reduceBNe, Int.reduceEq, Nat.reduceAdd, Nat.reduceLeDiff, Nat.reduceLT, Nat.reduceEqDiff, S1, formed_f hf]
    exact ⟨hx1, .nil, by simp [needs, needsE, hf, encWs]⟩
  have hf := Classical.not_not.1 hf
  have hln := hf.2.1
  simp -implicitDefEqProofs only [op, ef, cl, sq, reduceIte, Int.reduceLT, Int.reduceLE, Int.reduceBEq, Int.reduceBNe, Int.reduceEq, Nat.reduceAdd, Nat.reduceLeDiff, Nat.reduceLT, Nat.reduceEqDiff, S1, formed_t hf]
  refine callB_of _ _ _ _ _ _ _ _ (greatest25 k l _ hs hf) ?_
  rintro u H2 ⟨hx2, b, hu, hb, hbH⟩
  cases hu
  simp -implicitDefEqProofs only [op, ef, cl, sq, reduceIte, Int.reduceLT, Int.reduceLE, Int.reduceBEq, Int.reduceBNe, Int.reduceEq, Nat.reduceAdd, Nat.reduceLeDiff, Nat.reduceLT, Nat.reduceEqDiff, S1]
  refine W.loopI (fun (i : Nat) R H' => At H' (fun H' => ∃ kw, R 4 = .sl kw (encWs (wants' l (l.take i))) ∧ Ext H H' ∧ H'[b]? = some (.cells (msC eU (grs l))) ∧ Apd H.length H' kw) ∧ R 0 = .sl k (encVs l) ∧ R 11 = .msl b 0 l.length 1 ∧ R 12 = .int .i64 l.length ∧ R 13 = .int .i64 i ∧ i ≤ l.length) (fun i => l.length - i) 0 ⟨.i ⟨.nil, rfl, hx1.trans hx2, hb, apd_nil _ _⟩, rfl, rfl, rfl, rfl, Nat.zero_le _⟩ ?_
  rintro i R H3 ⟨⟨kw, h4, hx3, hb3, hap⟩, h0, h11, h12, h13, hi⟩
  by_cases hlt : i < l.length
  · obtain ⟨v, hv⟩ := getV hlt
    have wsi := wrap_succ (show i < 9223372036854775807 by omega)
    have hg := getG rfl hv
    have hsn := wants_snoc l (l.take i) v
    by_cases hlg : v.id < gr l v.key
    · have hwl : (wants' l (l.take i)).length ≤ 1024 := Nat.le_trans (wants_le l (l.take i)) (by simp; omega)
      obtain ⟨k', H', ha, hap', hst⟩ := app_ok (bytes := 24) (encWs (wants' l (l.take i))) [[T.str v.key, T.int .u64 (gr l v.key)]] hap hx3.len (by simp) (roomT (by simp -implicitDefEqProofs only [encWs_len, List.length_cons, List.length_nil]; omega))
      simp -implicitDefEqProofs only [op, ef, cl, sq, reduceIte, Int.reduceLT, Int.reduceLE, Int.reduceBEq, Int.reduceBNe, Int.reduceEq, Nat.reduceAdd, Nat.reduceLeDiff, Nat.reduceLT, Nat.reduceEqDiff, S1, wapp] at ha
      simp -implicitDefEqProofs only [op, ef, cl, sq, reduceIte, Int.reduceLT, Int.reduceLE, Int.reduceBEq, Int.reduceBNe, Int.reduceEq, Nat.reduceAdd, Nat.reduceLeDiff, Nat.reduceLT, Nat.reduceEqDiff, S1, S2, h0, h4, h11, h12, h13, hlt, natOf_nat, iad_m, hb3, msU_get hg, iadV hv, encV, hlg, allW, ha, wsi]
      refine ⟨i + 1, by omega, .i ⟨k', ?_, hst.ext H (Nat.le_refl _) hx3, hst.cells hap hb3 (by simp), hap'⟩, by omega⟩
      simp -implicitDefEqProofs only [op, ef, cl, sq, reduceIte, Int.reduceLT, Int.reduceLE, Int.reduceBEq, Int.reduceBNe, Int.reduceEq, Nat.reduceAdd, Nat.reduceLeDiff, Nat.reduceLT, Nat.reduceEqDiff, S1, take_snoc hv, hsn, hlg]
    · simp -implicitDefEqProofs only [op, ef, cl, sq, reduceIte, Int.reduceLT, Int.reduceLE, Int.reduceBEq, Int.reduceBNe, Int.reduceEq, Nat.reduceAdd, Nat.reduceLeDiff, Nat.reduceLT, Nat.reduceEqDiff, S1, S2, h0, h11, h12, h13, hlt, natOf_nat, iad_m, hb3, msU_get hg, iadV hv, encV, hlg, wsi]
      refine ⟨i + 1, by omega, .i ⟨kw, ?_, hx3, hb3, hap⟩, by omega⟩
      simp -implicitDefEqProofs only [op, ef, cl, sq, reduceIte, Int.reduceLT, Int.reduceLE, Int.reduceBEq, Int.reduceBNe, Int.reduceEq, Nat.reduceAdd, Nat.reduceLeDiff, Nat.reduceLT, Nat.reduceEqDiff, S1, take_snoc hv, hsn, hlg, h4]
  · have hil : i = l.length := by omega
    subst hil
    simp -implicitDefEqProofs only [op, ef, cl, sq, reduceIte, Int.reduceLT, Int.reduceLE, Int.reduceBEq, Int.reduceBNe, Int.reduceEq, Nat.reduceAdd, Nat.reduceLeDiff, Nat.reduceLT, Nat.reduceEqDiff, S1, h0, h4, h11, h12, h13, hlt]
    exact ⟨hx3, kw, by simp [needs, needsE, hf, wants]⟩
end Go.Proofs.Ytobnjpgggocdlaa.Fx
end

/-! text FixI -/
section
namespace Go.Proofs.Ytobnjpgggocdlaa.Fx
open Go.Rmp Go.Proofs.Ytobnjpgggocdlaa.Ir
set_option maxRecDepth 10000
theorem max_lt {a b : Nat} : (a < max a b) = (a < b) := by simp; omega
theorem needs10 (k : SK) (l : List Ver) (H : Heap) (hs : Small l) : W env (.call 10 [.sl k (encVs l)]) H (NeedsQ l H) := by
  refine W.fnI rfl rfl rfl ?_
  simp -implicitDefEqProofs only [ir10, op, ef, cl, sq, reduceIte, Int.reduceLT, Int.reduceLE, Int.reduceBEq, Int.reduceBNe, Int.reduceEq, Nat.reduceAdd, Nat.reduceLeDiff, Nat.reduceLT, Nat.reduceEqDiff, S1]
  refine callB_of _ _ _ _ _ _ _ _ (formed13 k l _ hs) ?_
  rintro u H1 ⟨hu, hx1⟩
  cases hu
  have hx1 : Ext H H1 := hx1
  by_cases hf : ¬ Formed l
  · simp -implicitDefEqProofs only [op, ef, cl, sq, reduceIte, Int.reduceLT, Int.reduceLE, Int.reduceBEq, Int.reduceBNe, Int.reduceEq, Nat.reduceAdd, Nat.reduceLeDiff, Nat.reduceLT, Nat.reduceEqDiff, S1, formed_f hf]
    exact ⟨hx1, .nil, by simp [needs, needsE, hf, encWs]⟩
  have hf := Classical.not_not.1 hf
  have hln := hf.2.1
  simp -implicitDefEqProofs only [op, ef, cl, sq, reduceIte, Int.reduceLT, Int.reduceLE, Int.reduceBEq, Int.reduceBNe, Int.reduceEq, Nat.reduceAdd, Nat.reduceLeDiff, Nat.reduceLT, Nat.reduceEqDiff, S1, formed_t hf]
  refine W.loopI (fun (i : Nat) R H' => At H' (fun H' => ∃ kw, R 4 = .sl kw (encWs (wants' l (l.take i))) ∧ Ext H H' ∧ Apd H.length H' kw) ∧ R 0 = .sl k (encVs l) ∧ R 5 = .int .i64 i ∧ i ≤ l.length) (fun i => l.length - i) 0 ⟨.i ⟨.nil, rfl, hx1, apd_nil _ _⟩, rfl, rfl, Nat.zero_le _⟩ ?_
  rintro i R H3 ⟨⟨kw, h4, hx3, hap⟩, h0, h5, hi⟩
  by_cases hlt : i < l.length
  · obtain ⟨v, hv⟩ := getV hlt
    have wsi := wrap_succ (show i < 9223372036854775807 by omega)
    have hsn := wants_snoc l (l.take i) v
    simp -implicitDefEqProofs only [op, ef, cl, sq, reduceIte, Int.reduceLT, Int.reduceLE, Int.reduceBEq, Int.reduceBNe, Int.reduceEq, Nat.reduceAdd, Nat.reduceLeDiff, Nat.reduceLT, Nat.reduceEqDiff, S1, h0, h4, h5, encVs_len, hlt, iadV hv, encV]
    refine W.loopI (fun (j : Nat) R H' => H' = H3 ∧ R 0 = .sl k (encVs l) ∧ R 4 = .sl kw (encWs (wants' l (l.take i))) ∧ R 5 = .int .i64 i ∧ R 6 = .int .u64 (max v.id (gr (l.take j) v.key) : Nat) ∧ R 7 = .int .i64 j ∧ j ≤ l.length) (fun j => l.length - j) 0 ?_ ?_
    · refine ⟨rfl, ?_⟩
      simp -implicitDefEqProofs only [op, ef, cl, sq, reduceIte, Int.reduceLT, Int.reduceLE, Int.reduceBEq, Int.reduceBNe, Int.reduceEq, Nat.reduceAdd, Nat.reduceLeDiff, Nat.reduceLT, Nat.reduceEqDiff, S1, h0, h4, h5]
      simp [gr]
    rintro j R _ ⟨rfl, g0, g4, g5, g6, g7, hj⟩
    by_cases hjl : j < l.length
    · obtain ⟨x, hx⟩ := getV hjl
      have wsj := wrap_succ (show j < 9223372036854775807 by omega)
      by_cases hm : max v.id (gr (l.take j) v.key) < x.id
      · simp -implicitDefEqProofs only [op, ef, cl, sq, reduceIte, Int.reduceLT, Int.reduceLE, Int.reduceBEq, Int.reduceBNe, Int.reduceEq, Nat.reduceAdd, Nat.reduceLeDiff, Nat.reduceLT, Nat.reduceEqDiff, S1, g0, g4, g5, g6, g7, encVs_len, hjl, iadV hx, iadV hv, encV, hm]
        refine callB_of _ _ _ _ _ _ _ _ (has26 x.kk x.keys v.key _ (by have := hs.2 x (List.mem_of_getElem? hx); omega)) ?_
        rintro u H4 ⟨hu, rfl⟩
        cases hu
        cases hb : memB x.keys v.key
        · simp -implicitDefEqProofs only [op, ef, cl, sq, reduceIte, Int.reduceLT, Int.reduceLE, Int.reduceBEq, Int.reduceBNe, Int.reduceEq, Nat.reduceAdd, Nat.reduceLeDiff, Nat.reduceLT, Nat.reduceEqDiff, S1, g0, g4, g5, g6, g7, wsj]
          refine ⟨j + 1, by omega, ?_, rfl, by omega⟩
          rw [take_snoc hx, gr_snoc, hb]; simp
        · simp -implicitDefEqProofs only [op, ef, cl, sq, reduceIte, Int.reduceLT, Int.reduceLE, Int.reduceBEq, Int.reduceBNe, Int.reduceEq, Nat.reduceAdd, Nat.reduceLeDiff, Nat.reduceLT, Nat.reduceEqDiff, S1, g0, g4, g5, g6, g7, wsj, iadV hx, encV]
          refine ⟨j + 1, by omega, ?_, rfl, by omega⟩
          rw [take_snoc hx, gr_snoc, hb]; simp; omega
      · simp -implicitDefEqProofs only [op, ef, cl, sq, reduceIte, Int.reduceLT, Int.reduceLE, Int.reduceBEq, Int.reduceBNe, Int.reduceEq, Nat.reduceAdd, Nat.reduceLeDiff, Nat.reduceLT, Nat.reduceEqDiff, S1, g0, g4, g5, g6, g7, encVs_len, hjl, iadV hx, iadV hv, encV, hm, wsj]
        refine ⟨j + 1, by omega, ?_, rfl, by omega⟩
        rw [take_snoc hx, gr_snoc]; split <;> (first | (congr 1; omega) | rfl)
    · have hjl' : j = l.length := by omega
      subst hjl'
      rw [List.take_length] at g6
      by_cases hlg : v.id < gr l v.key
      · have hwl : (wants' l (l.take i)).length ≤ 1024 := Nat.le_trans (wants_le l (l.take i)) (by simp; omega)
        obtain ⟨k', H', ha, hap', hst⟩ := app_ok (bytes := 24) (encWs (wants' l (l.take i))) [[T.str v.key, T.int .u64 (gr l v.key)]] hap hx3.len (by simp) (roomT (by simp -implicitDefEqProofs only [encWs_len, List.length_cons, List.length_nil]; omega))
        simp -implicitDefEqProofs only [op, ef, cl, sq, reduceIte, Int.reduceLT, Int.reduceLE, Int.reduceBEq, Int.reduceBNe, Int.reduceEq, Nat.reduceAdd, Nat.reduceLeDiff, Nat.reduceLT, Nat.reduceEqDiff, S1, wapp] at ha
        rw [Nat.max_eq_right (Nat.le_of_lt hlg)] at g6
        simp -implicitDefEqProofs only [op, ef, cl, sq, reduceIte, Int.reduceLT, Int.reduceLE, Int.reduceBEq, Int.reduceBNe, Int.reduceEq, Nat.reduceAdd, Nat.reduceLeDiff, Nat.reduceLT, Nat.reduceEqDiff, S1, S2, g0, g4, g5, g6, g7, encVs_len, hjl, iadV hv, encV, hlg, allW, ha, wsi]
        refine ⟨i + 1, by omega, .i ⟨k', ?_, hst.ext H (Nat.le_refl _) hx3, hap'⟩, by omega⟩
        simp -implicitDefEqProofs only [op, ef, cl, sq, reduceIte, Int.reduceLT, Int.reduceLE, Int.reduceBEq, Int.reduceBNe, Int.reduceEq, Nat.reduceAdd, Nat.reduceLeDiff, Nat.reduceLT, Nat.reduceEqDiff, S1, take_snoc hv, hsn, hlg]
      · rw [Nat.max_eq_left (by omega)] at g6
        have hno : ¬ v.id < v.id := by omega
        simp -implicitDefEqProofs only [op, ef, cl, sq, reduceIte, Int.reduceLT, Int.reduceLE, Int.reduceBEq, Int.reduceBNe, Int.reduceEq, Nat.reduceAdd, Nat.reduceLeDiff, Nat.reduceLT, Nat.reduceEqDiff, S1, S2, g0, g4, g5, g6, g7, encVs_len, hjl, iadV hv, encV, hno, wsi]
        refine ⟨i + 1, by omega, .i ⟨kw, ?_, hx3, hap⟩, by omega⟩
        simp -implicitDefEqProofs only [op, ef, cl, sq, reduceIte, Int.reduceLT, Int.reduceLE, Int.reduceBEq, Int.reduceBNe, Int.reduceEq, Nat.reduceAdd, Nat.reduceLeDiff, Nat.reduceLT, Nat.reduceEqDiff, S1, take_snoc hv, hsn, hlg, g4]
  · have hil : i = l.length := by omega
    subst hil
    simp -implicitDefEqProofs only [op, ef, cl, sq, reduceIte, Int.reduceLT, Int.reduceLE, Int.reduceBEq, Int.reduceBNe, Int.reduceEq, Nat.reduceAdd, Nat.reduceLeDiff, Nat.reduceLT, Nat.reduceEqDiff, S1, h0, h4, h5, encVs_len, hlt]
    exact ⟨hx3, kw, by simp [needs, needsE, hf, wants]⟩

/-! cuts -/
noncomputable def cutB (l : List Ver) : Bool := formed l && decide (wants l = [])
theorem cut14 (k : SK) (l : List Ver) (H : Heap) (hs : Small l) : W env (.call 14 [.sl k (encVs l)]) H (RetG (.bool (cutB l)) H) := by
  refine W.fnI rfl rfl rfl ?_
  simp -implicitDefEqProofs only [ir14, op, ef, cl, sq, reduceIte, Int.reduceLT, Int.reduceLE, Int.reduceBEq, Int.reduceBNe, Int.reduceEq, Nat.reduceAdd, Nat.reduceLeDiff, Nat.reduceLT, Nat.reduceEqDiff, S1]
  refine callB_of _ _ _ _ _ _ _ _ (needs9 k l _ hs) ?_
  rintro u H1 ⟨hx1, kw, hu⟩
  cases hu
  by_cases hf : Formed l
  · by_cases hw : (wants l) = []
    · simp -implicitDefEqProofs only [op, ef, cl, sq, reduceIte, Int.reduceLT, Int.reduceLE, Int.reduceBEq, Int.reduceBNe, Int.reduceEq, Nat.reduceAdd, Nat.reduceLeDiff, Nat.reduceLT, Nat.reduceEqDiff, S1, encWs_len, needs, needsE, hf, cutB, formed_t hf, hw, retg_ext hx1]
      try simp
    · have hw' : ¬ (wants l).length = 0 := by simp [hw]
      simp -implicitDefEqProofs only [op, ef, cl, sq, reduceIte, Int.reduceLT, Int.reduceLE, Int.reduceBEq, Int.reduceBNe, Int.reduceEq, Nat.reduceAdd, Nat.reduceLeDiff, Nat.reduceLT, Nat.reduceEqDiff, S1, encWs_len, needs, needsE, hf, cutB, formed_t hf, hw, retg_ext hx1]
      try simp [hw]
  · have e1 : ((((1 : Nat) : Int)) == 0) = false := by decide
    simp -implicitDefEqProofs only [op, ef, cl, sq, reduceIte, Int.reduceLT, Int.reduceLE, Int.reduceBEq, Int.reduceBNe, Int.reduceEq, Nat.reduceAdd, Nat.reduceLeDiff, Nat.reduceLT, Nat.reduceEqDiff, S1, encWs_len, needs, needsE, hf, cutB, formed_f hf, retg_ext hx1, e1, Bool.false_and]
theorem wants_nil (l : List Ver) : wants l = [] ↔ ∀ u ∈ l, ∀ v ∈ l, memB v.keys u.key = true → v.id ≤ u.id := by
  unfold wants wants'
  simp -implicitDefEqProofs only [List.map_eq_nil_iff, List.filter_eq_nil_iff, decide_eq_true_eq]
  constructor
  · intro h u hu v hv hm; have := h u hu; have := gr_ge hv hm; omega
  · intro h u hu hc
    rcases gr_is l u.key with h0 | ⟨v, hv, hm, he⟩
    · omega
    · have := h u hu v hv hm; omega
theorem cut15 (k : SK) (l : List Ver) (H : Heap) (hs : Small l) : W env (.call 15 [.sl k (encVs l)]) H (RetG (.bool (cutB l)) H) := by
  refine W.fnI rfl rfl rfl ?_
  have bad : ∀ u ∈ l, ∀ v ∈ l, u.id < v.id → memB v.keys u.key = true → cutB l = false := fun u hu v hv h1 h2 => by
    have : ¬ wants l = [] := fun h => by have := (wants_nil l).1 h u hu v hv h2; omega
    simp [cutB, this]
  have hsl := hs.1
  simp -implicitDefEqProofs only [ir15, op, ef, cl, sq, reduceIte, Int.reduceLT, Int.reduceLE, Int.reduceBEq, Int.reduceBNe, Int.reduceEq, Nat.reduceAdd, Nat.reduceLeDiff, Nat.reduceLT, Nat.reduceEqDiff, S1]
  refine W.loopI (fun (i : Nat) R H' => H' = H ∧ R 0 = .sl k (encVs l) ∧ R 3 = .int .i64 i ∧ i ≤ l.length ∧ ∀ p v, p < i → l[p]? = some v → ∀ u ∈ l, memB v.keys u.key = true → v.id ≤ u.id) (fun i => l.length - i) 0 ⟨rfl, rfl, rfl, Nat.zero_le _, fun p v hp => by omega⟩ ?_
  rintro i R _ ⟨rfl, h0, h3, hi, hg⟩
  by_cases hlt : i < l.length
  · obtain ⟨v, hv⟩ := getV hlt
    have hvm := List.mem_of_getElem? hv
    have wsi := wrap_succ (show i < 9223372036854775807 by omega)
    simp -implicitDefEqProofs only [op, ef, cl, sq, reduceIte, Int.reduceLT, Int.reduceLE, Int.reduceBEq, Int.reduceBNe, Int.reduceEq, Nat.reduceAdd, Nat.reduceLeDiff, Nat.reduceLT, Nat.reduceEqDiff, S1, h0, h3, encVs_len, hlt]
    refine W.loopI (fun (j : Nat) R H' => H' = _ ∧ R 0 = .sl k (encVs l) ∧ R 3 = .int .i64 i ∧ R 4 = .int .i64 j ∧ j ≤ l.length ∧ ∀ q u, q < j → l[q]? = some u → memB v.keys u.key = true → v.id ≤ u.id) (fun j => l.length - j) 0 ⟨rfl, by simp -implicitDefEqProofs only [op, ef, cl, sq, reduceIte, Int.reduceLT, Int.reduceLE, Int.reduceBEq, Int.reduceBNe, Int.reduceEq, Nat.reduceAdd, Nat.reduceLeDiff, Nat.reduceLT, Nat.reduceEqDiff, S1, h0], by simp -implicitDefEqProofs only [op, ef, cl, sq, reduceIte, Int.reduceLT, Int.reduceLE, Int.reduceBEq, Int.reduceBNe, Int.reduceEq, Nat.reduceAdd, Nat.reduceLeDiff, Nat.reduceLT, Nat.reduceEqDiff, S1, h3], rfl, Nat.zero_le _, fun p v hp => by omega⟩ ?_
    rintro j R _ ⟨rfl, g0, g3, g4, hj, hgj⟩
    by_cases hjl : j < l.length
    · obtain ⟨x, hx⟩ := getV hjl
      have wsj := wrap_succ (show j < 9223372036854775807 by omega)
      have next : (memB v.keys x.key = true → v.id ≤ x.id) → ∀ q u, q < j + 1 → l[q]? = some u → memB v.keys u.key = true → v.id ≤ u.id := fun h q u hq hu => by
        by_cases e : q = j
        · subst e; rw [hx] at hu; cases hu; exact h
        · exact hgj q u (by omega) hu
      by_cases hid : x.id < v.id
      · simp -implicitDefEqProofs only [op, ef, cl, sq, reduceIte, Int.reduceLT, Int.reduceLE, Int.reduceBEq, Int.reduceBNe, Int.reduceEq, Nat.reduceAdd, Nat.reduceLeDiff, Nat.reduceLT, Nat.reduceEqDiff, S1, g0, g3, g4, encVs_len, hjl, iadV hx, iadV hv, encV, hid]
        refine callB_of _ _ _ _ _ _ _ _ (has26 v.kk v.keys x.key _ (by have := hs.2 v hvm; omega)) ?_
        rintro u H4 ⟨hu, rfl⟩
        cases hu
        cases hb : memB v.keys x.key
        · simp -implicitDefEqProofs only [op, ef, cl, sq, reduceIte, Int.reduceLT, Int.reduceLE, Int.reduceBEq, Int.reduceBNe, Int.reduceEq, Nat.reduceAdd, Nat.reduceLeDiff, Nat.reduceLT, Nat.reduceEqDiff, S1, g0, g3, g4, wsj]
          exact ⟨j + 1, by omega, rfl, by omega, next (by rw [hb]; simp)⟩
        · simp -implicitDefEqProofs only [op, ef, cl, sq, reduceIte, Int.reduceLT, Int.reduceLE, Int.reduceBEq, Int.reduceBNe, Int.reduceEq, Nat.reduceAdd, Nat.reduceLeDiff, Nat.reduceLT, Nat.reduceEqDiff, S1, bad x (List.mem_of_getElem? hx) v hvm hid hb]
      · simp -implicitDefEqProofs only [op, ef, cl, sq, reduceIte, Int.reduceLT, Int.reduceLE, Int.reduceBEq, Int.reduceBNe, Int.reduceEq, Nat.reduceAdd, Nat.reduceLeDiff, Nat.reduceLT, Nat.reduceEqDiff, S1, g0, g3, g4, encVs_len, hjl, iadV hx, iadV hv, encV, hid, wsj]
        exact ⟨j + 1, by omega, rfl, by omega, next (fun _ => by omega)⟩
    · simp -implicitDefEqProofs only [op, ef, cl, sq, reduceIte, Int.reduceLT, Int.reduceLE, Int.reduceBEq, Int.reduceBNe, Int.reduceEq, Nat.reduceAdd, Nat.reduceLeDiff, Nat.reduceLT, Nat.reduceEqDiff, S1, g0, g3, g4, encVs_len, hjl, wsi]
      refine ⟨i + 1, by omega, rfl, by omega, fun p w hp hw u hu => ?_⟩
      by_cases e : p = i
      · subst e; rw [hv] at hw; cases hw
        obtain ⟨q, hq, eq⟩ := List.getElem_of_mem hu
        exact hgj q u (by omega) (by rw [List.getElem?_eq_getElem hq, eq])
      · exact hg p w (by omega) hw u hu
  · simp -implicitDefEqProofs only [op, ef, cl, sq, reduceIte, Int.reduceLT, Int.reduceLE, Int.reduceBEq, Int.reduceBNe, Int.reduceEq, Nat.reduceAdd, Nat.reduceLeDiff, Nat.reduceLT, Nat.reduceEqDiff, S1, h0, h3, encVs_len, hlt]
    refine callB_of _ _ _ _ _ _ _ _ (formed13 k l _ hs) ?_
    rintro u H1 ⟨hu, hx1⟩
    cases hu
    have hx1 : Ext _ H1 := hx1
    have hw : wants l = [] := (wants_nil l).2 fun u hu v hv h => by
      obtain ⟨p, hp, e⟩ := List.getElem_of_mem hv
      exact hg p v (by omega) (by rw [List.getElem?_eq_getElem hp, e]) u hu h
    simp -implicitDefEqProofs only [op, ef, cl, sq, reduceIte, Int.reduceLT, Int.reduceLE, Int.reduceBEq, Int.reduceBNe, Int.reduceEq, Nat.reduceAdd, Nat.reduceLeDiff, Nat.reduceLT, Nat.reduceEqDiff, S1, retg_ext hx1, cutB, hw, Bool.and_true]
end Go.Proofs.Ytobnjpgggocdlaa.Fx
end

/-! text FixJ -/
section
namespace Go.Proofs.Ytobnjpgggocdlaa.Fx
open Go.Rmp Go.Proofs.Ytobnjpgggocdlaa.Ir
set_option maxRecDepth 10000
abbrev rdy (n : Nat) (R0 : Regs) (ps : List Nat) (asg body : C) : B := .loop .ready Option.none n R0 ps asg body
abbrev bsy (n : Nat) (R0 : Regs) (ps : List Nat) (asg body : C) : B := .loop .busy Option.none n R0 ps asg body
theorem back43 {n : Nat} {R0 : Regs} {ps : List Nat} {asg body : C} (k : SK) (got : List Ver) (c b : Nat) (H : Heap) (I : Nat → Heap → Prop) (hps : ps.length = 2) (hl : got.length < 4611686018427387903) (h0 : I got.length H) (hb : H[b]? = some (rdy n R0 ps asg body))
    (hkeep : ∀ i H', I i H' → H'[c]? = some (.cells [.sl k (encVs got)]))
    (hstep : ∀ i v H', got[i]? = some v → I (i + 1) H' → H'[b]? = some (rdy n R0 ps asg body) → wpC env asg (setps R0 ps [.int .i64 (i : Int), .agg (encV v)]) H' (fun o H1 => ∃ R1, o = .ex .normal R1 ∧ H1[b]? = some (rdy n R0 ps asg body) ∧
      wpC env body R1 (H1.set b (bsy n R0 ps asg body)) (fun o H2 => ∃ R2, o = .ex .normal R2 ∧ H2[b]? = some (bsy n R0 ps asg body) ∧ I i (H2.set b (rdy n R0 ps asg body))))) :
    W env (.call 43 [.yld b, .ptr c 0]) H (fun _ H' => I 0 H' ∧ H'[b]? = some (rdy n R0 ps asg body)) := by
  refine W.fnI rfl rfl rfl ?_
  have hc := hkeep _ _ h0
  have w0 : IntKind.i64.wrap ((got.length : Int) - 1) = (got.length : Int) - 1 := wrap64 (by omega)
  simp -implicitDefEqProofs only [ir43, op, ef, cl, sq, reduceIte, Int.reduceLT, Int.reduceLE, Int.reduceBEq, Int.reduceBNe, Int.reduceEq, Nat.reduceAdd, Nat.reduceLeDiff, Nat.reduceLT, Nat.reduceEqDiff, S1, hc, encVs_len, w0]
  refine W.loopI (fun (x : Nat) R H' => At H' (fun H' => I x H' ∧ H'[b]? = some (rdy n R0 ps asg body)) ∧ R 0 = .yld b ∧ R 1 = .ptr c 0 ∧ R 3 = .int .i64 ((x : Int) - 1) ∧ x ≤ got.length) (fun x => x) got.length ⟨.i ⟨h0, hb⟩, rfl, rfl, rfl, Nat.le_refl _⟩ ?_
  rintro x R H1 ⟨⟨hI, hb1⟩, g0, g1, g3, hx⟩
  cases x with
  | zero =>
    have e : (((0 : Nat) : Int) - 1) = -1 := by decide
    have e2 : decide ((0 : Int) ≤ -1) = false := by decide
    rw [e] at g3
    simp -implicitDefEqProofs only [op, ef, cl, sq, reduceIte, Int.reduceLT, Int.reduceLE, Int.reduceBEq, Int.reduceBNe, Int.reduceEq, Nat.reduceAdd, Nat.reduceLeDiff, Nat.reduceLT, Nat.reduceEqDiff, S1, g3, e2]
    exact ⟨hI, hb1⟩
  | succ i =>
    obtain ⟨v, hv⟩ := getV (l := got) (i := i) (by omega)
    have e : (((i + 1 : Nat) : Int) - 1) = (i : Int) := by omega
    have e2 : decide ((0 : Int) ≤ (i : Int)) = true := by simp
    have w1 : IntKind.i64.wrap ((i : Int) - 1) = (i : Int) - 1 := wrap64 (by omega)
    rw [e] at g3
    have hc1 := hkeep _ _ hI
    simp -implicitDefEqProofs only [op, ef, cl, sq, reduceIte, Int.reduceLT, Int.reduceLE, Int.reduceBEq, Int.reduceBNe, Int.reduceEq, Nat.reduceAdd, Nat.reduceLeDiff, Nat.reduceLT, Nat.reduceEqDiff, S1, g0, g1, g3, e2, hc1, iadV hv, encV]
    refine b_yld (b := b) (n := n) (R0 := R0) (ps := ps) (asg := asg) (body := body) ?_ hb1 (by rw [hps]; rfl) ?_
    · simp -implicitDefEqProofs only [op, ef, cl, sq, reduceIte, Int.reduceLT, Int.reduceLE, Int.reduceBEq, Int.reduceBNe, Int.reduceEq, Nat.reduceAdd, Nat.reduceLeDiff, Nat.reduceLT, Nat.reduceEqDiff, S1]
    simp -implicitDefEqProofs only [op, ef, cl, sq, reduceIte, Int.reduceLT, Int.reduceLE, Int.reduceBEq, Int.reduceBNe, Int.reduceEq, Nat.reduceAdd, Nat.reduceLeDiff, Nat.reduceLT, Nat.reduceEqDiff, S1]
    refine wpC_mono _ _ _ (fun o H2 => ?_) (hstep i v H1 hv hI hb1)
    rintro ⟨R1, rfl, hr, hw⟩
    refine ⟨R1, rfl, hr, wpC_mono _ _ _ (fun o H3 => ?_) hw⟩
    rintro ⟨R2, rfl, hr2, hI2⟩
    have hb3 := glt hr2
    refine ⟨R2, rfl, hr2, ?_⟩
    simp -implicitDefEqProofs only [op, ef, cl, sq, reduceIte, Int.reduceLT, Int.reduceLE, Int.reduceBEq, Int.reduceBNe, Int.reduceEq, Nat.reduceAdd, Nat.reduceLeDiff, Nat.reduceLT, Nat.reduceEqDiff, S1, g0, g1, g3, w1]
    exact ⟨i, by omega, .i ⟨hI2, by simp [hb3]⟩, rfl, by omega⟩

/-! copies -/
def KOk (k : SK) (l : List ByteArray) : Prop := k = .nil → l = []
theorem allS (l : List ByteArray) : (encS l).all (fun c => c.length == 1) = true := all_map (n := 1) (fun _ => rfl) l
theorem encS_er (l : List ByteArray) : (encS l).map (fun c => c.map T.erase) = encS l := by simp [encS, T.erase]
theorem clone33 (k : SK) (l : List ByteArray) (H : Heap) (hk : KOk k l) (hl : l.length < 1099511627776) : W env (.call 33 [.sl k (encS l)]) H (fun o H' => Ext H H' ∧ ∃ k', KOk k' l ∧ o = .val (.sl k' (encS l))) := by
  refine W.fnI rfl rfl rfl ?_
  have app : l ≠ [] → ∃ k' H', appT H 16 .full [] (encS l) = some (.sl k' (encS l), H') ∧ Ext H H' ∧ k' ≠ .nil := fun hne => by
    obtain ⟨k', H', ha, hap, hst⟩ := app_ok (n0 := H.length) (H := H) (bytes := 16) (k := .full) [] (encS l) (.inr (.inl rfl)) (Nat.le_refl _) (by simpa [encS] using hne) (roomT (by simp -implicitDefEqProofs only [encS_len, List.length_nil]; omega))
    rw [List.nil_append, encS_er] at ha
    refine ⟨k', H', ha, hst.ext H (Nat.le_refl _) Ext.rfl', fun h => ?_⟩
    subst h
    unfold appT at ha
    cases hl : encS l with
    | nil => simp [encS] at hl; exact hne hl
    | cons c cs => rw [hl] at ha; simp only at ha; split at ha <;> simp at ha
  cases k with
  | nil =>
    have := hk rfl; subst this
    simp -implicitDefEqProofs only [ir33, op, ef, cl, sq, reduceIte, Int.reduceLT, Int.reduceLE, Int.reduceBEq, Int.reduceBNe, Int.reduceEq, Nat.reduceAdd, Nat.reduceLeDiff, Nat.reduceLT, Nat.reduceEqDiff, S1, encS, eqRef, nilOf]
    exact ⟨Ext.rfl', .nil, fun _ => rfl, rfl⟩
  | arg =>
    cases l with
    | nil =>
      simp -implicitDefEqProofs only [ir33, op, ef, cl, sq, reduceIte, Int.reduceLT, Int.reduceLE, Int.reduceBEq, Int.reduceBNe, Int.reduceEq, Nat.reduceAdd, Nat.reduceLeDiff, Nat.reduceLT, Nat.reduceEqDiff, S1, encS, eqRef, nilOf, Option.map_none]
      refine fun t => ?_
      cases t
      · simp -implicitDefEqProofs only [op, ef, cl, sq, reduceIte, Int.reduceLT, Int.reduceLE, Int.reduceBEq, Int.reduceBNe, Int.reduceEq, Nat.reduceAdd, Nat.reduceLeDiff, Nat.reduceLT, Nat.reduceEqDiff, S1, appT]
        exact ⟨Ext.rfl', .full, fun h => rfl, rfl⟩
      · simp -implicitDefEqProofs only [op, ef, cl, sq, reduceIte, Int.reduceLT, Int.reduceLE, Int.reduceBEq, Int.reduceBNe, Int.reduceEq, Nat.reduceAdd, Nat.reduceLeDiff, Nat.reduceLT, Nat.reduceEqDiff, S1]
        exact ⟨Ext.rfl', .nil, fun _ => rfl, rfl⟩
    | cons a l =>
      obtain ⟨k', H', ha, hx, hk'⟩ := app (by simp)
      have h1 := allS (a :: l)
      simp -implicitDefEqProofs only [encS, List.map_cons] at ha h1
      simp -implicitDefEqProofs only [ir33, op, ef, cl, sq, reduceIte, Int.reduceLT, Int.reduceLE, Int.reduceBEq, Int.reduceBNe, Int.reduceEq, Nat.reduceAdd, Nat.reduceLeDiff, Nat.reduceLT, Nat.reduceEqDiff, S1, encS, eqRef, nilOf, ha, h1]
      exact ⟨hx, k', fun h => absurd h hk', rfl⟩
  | full =>
    cases l with
    | nil =>
      simp -implicitDefEqProofs only [ir33, op, ef, cl, sq, reduceIte, Int.reduceLT, Int.reduceLE, Int.reduceBEq, Int.reduceBNe, Int.reduceEq, Nat.reduceAdd, Nat.reduceLeDiff, Nat.reduceLT, Nat.reduceEqDiff, S1, encS, eqRef, nilOf, appT]
      exact ⟨Ext.rfl', .full, fun h => rfl, rfl⟩
    | cons a l =>
      obtain ⟨k', H', ha, hx, hk'⟩ := app (by simp)
      have h1 := allS (a :: l)
      simp -implicitDefEqProofs only [encS, List.map_cons] at ha h1
      simp -implicitDefEqProofs only [ir33, op, ef, cl, sq, reduceIte, Int.reduceLT, Int.reduceLE, Int.reduceBEq, Int.reduceBNe, Int.reduceEq, Nat.reduceAdd, Nat.reduceLeDiff, Nat.reduceLT, Nat.reduceEqDiff, S1, encS, eqRef, nilOf, ha, h1]
      exact ⟨hx, k', fun h => absurd h hk', rfl⟩
  | own t e =>
    cases l with
    | nil =>
      simp -implicitDefEqProofs only [ir33, op, ef, cl, sq, reduceIte, Int.reduceLT, Int.reduceLE, Int.reduceBEq, Int.reduceBNe, Int.reduceEq, Nat.reduceAdd, Nat.reduceLeDiff, Nat.reduceLT, Nat.reduceEqDiff, S1, encS, eqRef, nilOf, appT]
      exact ⟨Ext.rfl', .full, fun h => rfl, rfl⟩
    | cons a l =>
      obtain ⟨k', H', ha, hx, hk'⟩ := app (by simp)
      have h1 := allS (a :: l)
      simp -implicitDefEqProofs only [encS, List.map_cons] at ha h1
      simp -implicitDefEqProofs only [ir33, op, ef, cl, sq, reduceIte, Int.reduceLT, Int.reduceLE, Int.reduceBEq, Int.reduceBNe, Int.reduceEq, Nat.reduceAdd, Nat.reduceLeDiff, Nat.reduceLT, Nat.reduceEqDiff, S1, encS, eqRef, nilOf, ha, h1]
      exact ⟨hx, k', fun h => absurd h hk', rfl⟩
end Go.Proofs.Ytobnjpgggocdlaa.Fx
end

/-! text FixK -/
section
namespace Go.Proofs.Ytobnjpgggocdlaa.Fx
open Go.Rmp Go.Proofs.Ytobnjpgggocdlaa.Ir
set_option maxRecDepth 10000
def setK (v : Ver) (k : SK) : Ver := { v with kk := k }
theorem own35 (v : Ver) (H : Heap) (hl : v.keys.length < 1099511627776) : W env (.call 35 [.agg (encV v)]) H (fun o H' => Ext H H' ∧ ∃ k', KOk k' v.keys ∧ o = .val (.agg (encV (setK v k')))) := by
  refine W.fnI rfl rfl rfl ?_
  have app : ∃ k' H', appT (H ++ [.cells (encV v)] ++ [.cells [.str ⟨#[]⟩, .int .u64 0, .str ⟨#[]⟩, .sl .nil []]]) 16 .nil [] (encS v.keys) = some (.sl k' (encS v.keys), H') ∧ Ext (H ++ [.cells (encV v)] ++ [.cells [.str ⟨#[]⟩, .int .u64 0, .str ⟨#[]⟩, .sl .nil []]]) H' ∧ KOk k' v.keys := by
    cases hk : v.keys with
    | nil => exact ⟨.nil, _, rfl, Ext.rfl', fun _ => rfl⟩
    | cons a l =>
      obtain ⟨k', H', ha, hap, hst⟩ := app_ok (n0 := (H ++ [B.cells (encV v)] ++ [B.cells [.str ⟨#[]⟩, .int .u64 0, .str ⟨#[]⟩, .sl .nil []]]).length) (H := H ++ [B.cells (encV v)] ++ [B.cells [.str ⟨#[]⟩, .int .u64 0, .str ⟨#[]⟩, .sl .nil []]]) (bytes := 16) (k := .nil) [] (encS v.keys) (.inl rfl) (Nat.le_refl _) (by rw [hk]; simp [encS]) (roomT (by simp -implicitDefEqProofs only [encS_len, List.length_nil]; omega))
      rw [List.nil_append, encS_er, hk] at ha
      refine ⟨k', H', ha, hst.ext _ (Nat.le_refl _) Ext.rfl', fun h => ?_⟩
      subst h
      simp -implicitDefEqProofs only [appT, encS, List.map_cons] at ha
      split at ha <;> simp at ha
  obtain ⟨k', H', ha, hx, hk'⟩ := app
  have g1 : H'[H.length]? = some (.cells (encV v)) := hx.get (by simp)
  have g2 : H'[H.length + 1]? = some (.cells [.str ⟨#[]⟩, .int .u64 0, .str ⟨#[]⟩, .sl .nil []]) := hx.get (by simp)
  have hxx : Ext H H' := ((Ext.rfl'.app _).app _).trans hx
  have m1 := glt g1
  have m2 := glt g2
  have n12 : H.length ≠ H.length + 1 := by omega
  have l1 : (H ++ [B.cells (encV v)]).length = H.length + 1 := by simp
  simp -implicitDefEqProofs only [encV] at ha g1 l1
  have q1 : H.length < H.length + 1 := by omega
  simp -implicitDefEqProofs only [ir35, op, ef, cl, sq, reduceIte, Int.reduceLT, Int.reduceLE, Int.reduceBEq, Int.reduceBNe, Int.reduceEq, Nat.reduceAdd, Nat.reduceLeDiff, Nat.reduceLT, Nat.reduceEqDiff, S1, S2, encV, l1, q1, allS, ha, g1, g2, m1, m2, n12]
  refine ⟨(hxx.set (Nat.le_refl _) _).set (by omega) _, k', hk', ?_⟩
  simp -implicitDefEqProofs only [setK]
theorem wanted34 (k : SK) (l : List (ByteArray × Nat)) (x : ByteArray) (H : Heap) (hl : l.length < 4611686018427387903) : W env (.call 34 [.sl k (encWs l), .str x]) H (Ret (.int .u64 ((l.find? fun w => decide (w.1 = x)).elim 0 (·.2) : Nat)) H) := by
  refine W.fnI rfl rfl rfl ?_
  simp -implicitDefEqProofs only [ir34, op, ef, cl, sq, reduceIte, Int.reduceLT, Int.reduceLE, Int.reduceBEq, Int.reduceBNe, Int.reduceEq, Nat.reduceAdd, Nat.reduceLeDiff, Nat.reduceLT, Nat.reduceEqDiff, S1]
  refine W.loopI (fun (i : Nat) R H' => H' = H ∧ R 0 = .sl k (encWs l) ∧ R 1 = .str x ∧ R 5 = .int .i64 i ∧ i ≤ l.length ∧ l.find? (fun w => decide (w.1 = x)) = (l.drop i).find? (fun w => decide (w.1 = x))) (fun i => l.length - i) 0 ⟨rfl, rfl, rfl, rfl, Nat.zero_le _, rfl⟩ ?_
  rintro i R _ ⟨rfl, h0, h1, h5, hi, he⟩
  by_cases hlt : i < l.length
  · obtain ⟨w, hw⟩ : ∃ w, l[i]? = some w := ⟨l[i], List.getElem?_eq_getElem hlt⟩
    have wsi := wrap_succ (show i < 9223372036854775807 by omega)
    have hd : l.drop i = w :: l.drop (i + 1) := by rw [List.drop_eq_getElem_cons hlt]; congr 1; exact (List.getElem?_eq_some_iff.1 hw).2
    have iw : iadT 2 i (.sl k (encWs l)) = some (.iptr [.str w.1, .int .u64 w.2]) := iad_map (enc := encW) hw rfl (by decide)
    rw [hd, List.find?_cons] at he
    by_cases hx : w.1 = x
    · simp -implicitDefEqProofs only [hx, decide_true] at he
      simp -implicitDefEqProofs only [op, ef, cl, sq, reduceIte, Int.reduceLT, Int.reduceLE, Int.reduceBEq, Int.reduceBNe, Int.reduceEq, Nat.reduceAdd, Nat.reduceLeDiff, Nat.reduceLT, Nat.reduceEqDiff, S1, h0, h1, h5, encWs_len, hlt, iw, hx, he, Option.elim]
    · simp -implicitDefEqProofs only [hx, decide_false] at he
      simp -implicitDefEqProofs only [op, ef, cl, sq, reduceIte, Int.reduceLT, Int.reduceLE, Int.reduceBEq, Int.reduceBNe, Int.reduceEq, Nat.reduceAdd, Nat.reduceLeDiff, Nat.reduceLT, Nat.reduceEqDiff, S1, h0, h1, h5, encWs_len, hlt, iw, hx, wsi]
      exact ⟨i + 1, by omega, rfl, by omega, he⟩
  · rw [List.drop_eq_nil_of_le (by omega)] at he
    simp -implicitDefEqProofs only [op, ef, cl, sq, reduceIte, Int.reduceLT, Int.reduceLE, Int.reduceBEq, Int.reduceBNe, Int.reduceEq, Nat.reduceAdd, Nat.reduceLeDiff, Nat.reduceLT, Nat.reduceEqDiff, S1, h0, h1, h5, encWs_len, hlt, he, List.find?_nil, Option.elim]
    try simp
end Go.Proofs.Ytobnjpgggocdlaa.Fx
end

/-! text FixL -/
section
namespace Go.Proofs.Ytobnjpgggocdlaa.Fx
open Go.Rmp Go.Proofs.Ytobnjpgggocdlaa.Ir
set_option maxRecDepth 10000
def kW (w : ByteArray × Nat) : T := .agg [.str w.1, .int .u64 w.2]
theorem kWok : KeyOk (.st [.str, .int]) kW := ⟨fun _ => rfl, fun a b => by
  simp -implicitDefEqProofs only [kW, keyEq, eqCells, eqSc, strEq_eq, if_true, deq, Option.some.injEq]
  rw [Bool.eq_iff_iff]; simp [Prod.ext_iff]⟩
theorem lkpB_W (z : T) (ok : Bool) (H : Heap) (es : List ((ByteArray × Nat) × T)) (s : ByteArray) (n : Nat) : lkpB (.st [.str, .int]) z ok H (some (.map (encK kW es))) (.agg [.str s, .int .u64 n]) = some (lkpT (mlook es (s, n)) z ok, H) := lkpB_K kWok z ok H es (s, n)
theorem upmB_W (H : Heap) (b : Nat) (es : List ((ByteArray × Nat) × T)) (s : ByteArray) (n : Nat) (v : T) : upmB (.st [.str, .int]) H b (some (.map (encK kW es))) (.agg [.str s, .int .u64 n]) v = some (undefT, H.set b (.map (encK kW (mput es (s, n) v)))) := upmB_K kWok H b es (s, n) v
def wOf (v : Ver) : ByteArray × Nat := (v.key, v.id)
def Fetched (got : List Ver) (i : Nat) (es : List ((ByteArray × Nat) × T)) : Prop := ∀ w, match mlook es w with
  | .none => ∀ (p : Nat) v, i ≤ p → got[p]? = some v → wOf v ≠ w
  | some t => ∃ p v, i ≤ p ∧ got[p]? = some v ∧ wOf v = w ∧ t = .int .i64 (p : Int) ∧ ∀ (q : Nat) u, i ≤ q → q < p → got[q]? = some u → wOf u ≠ w
theorem fetched_end (got : List Ver) : Fetched got got.length [] := fun w => by
  simp -implicitDefEqProofs only [mlook_nil]
  intro p v hp hv
  rw [List.getElem?_eq_none hp] at hv; cases hv
theorem fetched_put {got : List Ver} {i : Nat} {es : List ((ByteArray × Nat) × T)} {v : Ver} (hv : got[i]? = some v) (h : Fetched got (i + 1) es) : Fetched got i (mput es (v.key, v.id) (.int .i64 (i : Int))) := fun w => by
  rw [mlook_put]
  by_cases e : w = (v.key, v.id)
  · subst e; simp -implicitDefEqProofs only [if_true]
    exact ⟨i, v, Nat.le_refl _, hv, rfl, rfl, fun q u h1 h2 => by omega⟩
  · simp -implicitDefEqProofs only [e, if_false]
    have := h w
    have hne : wOf v ≠ w := fun h => e h.symm
    cases hl : mlook es w with
    | none =>
      rw [hl] at this
      intro p u hp hu
      by_cases hpi : p = i
      · subst hpi; rw [hv] at hu; cases hu; exact hne
      · exact this p u (by omega) hu
    | some t =>
      rw [hl] at this
      obtain ⟨p, u, h1, h2, h3, h4, h5⟩ := this
      refine ⟨p, u, by omega, h2, h3, h4, fun q x hq hqp hx => ?_⟩
      by_cases hpi : q = i
      · subst hpi; rw [hv] at hx; cases hx; exact hne
      · exact h5 q x (by omega) hqp hx
def gotOf (got : List Ver) (k : ByteArray) (n : Nat) : Option Ver := got.find? fun v => decide (v.key = k) && decide (v.id = n)
theorem fetched_no {got : List Ver} {es : List ((ByteArray × Nat) × T)} (h : Fetched got 0 es) {k : ByteArray} {n : Nat} (hl : mlook es (k, n) = Option.none) : gotOf got k n = Option.none := by
  have := h (k, n); rw [hl] at this
  unfold gotOf; rw [List.find?_eq_none]
  intro v hv
  obtain ⟨p, hp, e⟩ := List.getElem_of_mem hv
  have := this p v (Nat.zero_le _) (by rw [List.getElem?_eq_getElem hp, e])
  simp -implicitDefEqProofs only [wOf, ne_eq, Prod.mk.injEq] at this
  simpa using this
theorem fetched_yes {got : List Ver} {es : List ((ByteArray × Nat) × T)} (h : Fetched got 0 es) {k : ByteArray} {n : Nat} {t : T} (hl : mlook es (k, n) = some t) : ∃ (p : Nat) (v : Ver), got[p]? = some v ∧ t = .int .i64 (p : Int) ∧ gotOf got k n = some v := by
  have := h (k, n); rw [hl] at this
  obtain ⟨p, v, _, h2, h3, h4, h5⟩ := this
  refine ⟨p, v, h2, h4, ?_⟩
  unfold gotOf; rw [List.find?_eq_some_iff_getElem]
  have hp := (List.getElem?_eq_some_iff.1 h2).1
  simp -implicitDefEqProofs only [wOf, Prod.mk.injEq] at h3
  refine ⟨by simp [h3], p, hp, (List.getElem?_eq_some_iff.1 h2).2, fun j hj => ?_⟩
  have := h5 j got[j] (Nat.zero_le _) hj (List.getElem?_eq_getElem _)
  simp -implicitDefEqProofs only [wOf, ne_eq, Prod.mk.injEq] at this
  simp -implicitDefEqProofs only [Bool.not_eq_true', Bool.and_eq_false_iff, decide_eq_false_iff_not]
  exact Classical.not_and_iff_not_or_not.1 this

def mendOne (l got : List Ver) (u : Ver) : Option Ver := if u.id < gr l u.key then gotOf got u.key (gr l u.key) else some u
def mendO (l got : List Ver) (u : Ver) : Option Ver := (mendOne l got u).map (setK · .arg)
def mends (f : Ver → Option Ver) : List Ver → Option (List Ver)
  | [] => some []
  | u :: m => match f u, mends f m with
    | some a, some b => some (a :: b)
    | _, _ => .none
theorem mends_snoc (f : Ver → Option Ver) {m : List Ver} {u v : Ver} {out : List Ver} (h : mends f m = some out) (hv : f u = some v) : mends f (m ++ [u]) = some (out ++ [v]) := by
  induction m generalizing out with
  | nil => simp -implicitDefEqProofs only [mends, Option.some.injEq] at h; subst h; simp [mends, hv]
  | cons x m ih =>
    simp -implicitDefEqProofs only [mends, List.cons_append] at h ⊢
    cases h1 : f x with
    | none => rw [h1] at h; simp at h
    | some a =>
      cases h2 : mends f m with
      | none => rw [h1, h2] at h; simp at h
      | some b => rw [h1, h2] at h; simp -implicitDefEqProofs only [Option.some.injEq] at h; subst h; rw [ih h2]; rfl
theorem mends_no (f : Ver → Option Ver) {m : List Ver} {u : Ver} (hu : u ∈ m) (hv : f u = .none) : mends f m = .none := by
  induction m with
  | nil => cases hu
  | cons x m ih =>
    simp -implicitDefEqProofs only [mends]
    rcases List.mem_cons.1 hu with rfl | h
    · rw [hv]
    · rw [ih h]; cases f x <;> rfl
theorem mends_len (f : Ver → Option Ver) : ∀ {m out : List Ver}, mends f m = some out → out.length = m.length
  | [], out, h => by simp -implicitDefEqProofs only [mends, Option.some.injEq] at h; subst h; rfl
  | x :: m, out, h => by
    simp -implicitDefEqProofs only [mends] at h
    cases h1 : f x with
    | none => rw [h1] at h; simp at h
    | some a =>
      cases h2 : mends f m with
      | none => rw [h1, h2] at h; simp at h
      | some b => rw [h1, h2] at h; simp -implicitDefEqProofs only [Option.some.injEq] at h; subst h; simp [mends_len f h2]
open Classical in
noncomputable def mendL (l got : List Ver) : List Ver := if Formed l then (mends (mendO l got) l).getD [] else []
open Classical in
noncomputable def mendE (l got : List Ver) : Nat := if Formed l then if (mends (mendO l got) l).isSome then 0 else 110 else 1
def MendQ (l got : List Ver) (H : Heap) : Out → Heap → Prop := fun o H' => Ext H H' ∧ ∃ k, o = .val (.tup [.sl k (encVs (mendL l got)), .int .i64 (mendE l got)])
def NilOk (l : List Ver) : Prop := ∀ v ∈ l, KOk v.kk v.keys ∧ v.keys.length < 1099511627776
theorem allV (l : List Ver) : (encVs l).all (fun c => c.length == 4) = true := all_map (n := 4) (fun _ => rfl) l
theorem vapp (l : List Ver) (v : Ver) : encVs l ++ [[T.str v.key, T.int .u64 v.id, T.str v.val, T.sl .arg (encS v.keys)]] = encVs (l ++ [setK v .arg]) := by simp [encVs, encV, setK]
theorem back32 (k : SK) (got : List Ver) (H : Heap) : W env (.call 32 [.sl k (encVs got)]) H (fun o H' => H' = H ++ [.cells [.sl k (encVs got)]] ∧ o = .val (.fn 43 [.ptr H.length 0])) := by
  refine W.fnI rfl rfl rfl ?_
  simp -implicitDefEqProofs only [ir32, op, ef, cl, sq, reduceIte, Int.reduceLT, Int.reduceLE, Int.reduceBEq, Int.reduceBNe, Int.reduceEq, Nat.reduceAdd, Nat.reduceLeDiff, Nat.reduceLT, Nat.reduceEqDiff, S1, capsT]
end Go.Proofs.Ytobnjpgggocdlaa.Fx
end

/-! text FixM -/
section
namespace Go.Proofs.Ytobnjpgggocdlaa.Fx
open Go.Rmp Go.Proofs.Ytobnjpgggocdlaa.Ir
set_option maxRecDepth 10000
theorem mend16 (k kg : SK) (l got : List Ver) (H : Heap) (hs : Small l) (hn : NilOk l) (hng : NilOk got) (hgl : got.length < 4611686018427387903) : W env (.call 16 [.sl k (encVs l), .sl kg (encVs got)]) H (MendQ l got H) := by
  refine W.fnrI rfl rfl ?_
  simp -implicitDefEqProofs only [ir16, op, ef, cl, sq, reduceIte, Int.reduceLT, Int.reduceLE, Int.reduceBEq, Int.reduceBNe, Int.reduceEq, Nat.reduceAdd, Nat.reduceLeDiff, Nat.reduceLT, Nat.reduceEqDiff, S1]
  refine callB_of _ _ _ _ _ _ _ _ (formed12 k l _ hs) ?_
  rintro u H1 ⟨hu, hx1⟩
  cases hu
  have hx1 : Ext H H1 := hx1
  by_cases hf : ¬ Formed l
  · simp -implicitDefEqProofs only [op, ef, cl, sq, reduceIte, Int.reduceLT, Int.reduceLE, Int.reduceBEq, Int.reduceBNe, Int.reduceEq, Nat.reduceAdd, Nat.reduceLeDiff, Nat.reduceLT, Nat.reduceEqDiff, S1, formed_f hf]
    refine endR_0 rfl ?_
    simp -implicitDefEqProofs only [op, ef, cl, sq, reduceIte, Int.reduceLT, Int.reduceLE, Int.reduceBEq, Int.reduceBNe, Int.reduceEq, Nat.reduceAdd, Nat.reduceLeDiff, Nat.reduceLT, Nat.reduceEqDiff, S1]
    exact ⟨hx1, .nil, by simp [mendL, mendE, hf, encVs]⟩
  have hf := Classical.not_not.1 hf
  have hln := hf.2.1
  have q0 : (H1 ++ [B.map []]).length = H1.length + 1 := by simp
  have q1 : H1.length < H1.length + 1 := by omega
  simp -implicitDefEqProofs only [op, ef, cl, sq, reduceIte, Int.reduceLT, Int.reduceLE, Int.reduceBEq, Int.reduceBNe, Int.reduceEq, Nat.reduceAdd, Nat.reduceLeDiff, Nat.reduceLT, Nat.reduceEqDiff, S1, S2, formed_t hf, q0]
  refine callB_of _ _ _ _ _ _ _ _ (back32 kg got _) ?_
  rintro u H2 ⟨rfl, hu⟩
  cases hu
  simp -implicitDefEqProofs only [op, ef, cl, sq, reduceIte, Int.reduceLT, Int.reduceLE, Int.reduceBEq, Int.reduceBNe, Int.reduceEq, Nat.reduceAdd, Nat.reduceLeDiff, Nat.reduceLT, Nat.reduceEqDiff, S1]
  have q2 : (H1 ++ [B.map []] ++ [B.cells [T.map H1.length]]).length = H1.length + 2 := by simp
  rw [q2]
  generalize hH2 : H1 ++ [B.map []] ++ [B.cells [T.map H1.length]] ++ [B.cells [T.sl kg (encVs got)]] = H2
  generalize hR : upd _ 20 _ = R0
  refine W.rangeI (f := 43) (cs := [.ptr (H1.length + 2) 0]) (by rw [← hR]; simp -implicitDefEqProofs only [op, ef, cl, sq, reduceIte, Int.reduceLT, Int.reduceLE, Int.reduceBEq, Int.reduceBNe, Int.reduceEq, Nat.reduceAdd, Nat.reduceLeDiff, Nat.reduceLT, Nat.reduceEqDiff, S1]) ?_
  have a1 : H2.length = H1.length + 3 := by rw [← hH2]; simp
  have a2 : H2[H1.length]? = some (.map (encK kW [])) := by rw [← hH2]; simp [encK]
  have a3 : H2[H1.length + 1]? = some (.cells [.map H1.length]) := by rw [← hH2]; simp
  have a4 : H2[H1.length + 2]? = some (.cells [.sl kg (encVs got)]) := by rw [← hH2]; simp
  have a5 : Ext H H2 := by rw [← hH2]; exact ((hx1.app _).app _).app _
  have r0 : R0 0 = .sl k (encVs l) := by rw [← hR]; simp -implicitDefEqProofs only [op, ef, cl, sq, reduceIte, Int.reduceLT, Int.reduceLE, Int.reduceBEq, Int.reduceBNe, Int.reduceEq, Nat.reduceAdd, Nat.reduceLeDiff, Nat.reduceLT, Nat.reduceEqDiff, S1]
  have r1 : R0 1 = .sl kg (encVs got) := by rw [← hR]; simp -implicitDefEqProofs only [op, ef, cl, sq, reduceIte, Int.reduceLT, Int.reduceLE, Int.reduceBEq, Int.reduceBNe, Int.reduceEq, Nat.reduceAdd, Nat.reduceLeDiff, Nat.reduceLT, Nat.reduceEqDiff, S1]
  have r6 : R0 6 = .ptr (H1.length + 1) 0 := by rw [← hR]; simp -implicitDefEqProofs only [op, ef, cl, sq, reduceIte, Int.reduceLT, Int.reduceLE, Int.reduceBEq, Int.reduceBNe, Int.reduceEq, Nat.reduceAdd, Nat.reduceLeDiff, Nat.reduceLT, Nat.reduceEqDiff, S1]
  have r71 : R0 71 = .tup [] := by rw [← hR]; rfl
  rw [r71, push0, a1]
  have hl1 := hx1.len
  have e1 : H1.length + 3 + 1 = H1.length + 4 := rfl
  rw [e1]
  generalize hnn : H1.length = f at *
  have n01 : ¬ f = f + 1 := by omega
  have n02 : ¬ f = f + 2 := by omega
  have n03 : ¬ f = f + 3 := by omega
  have n04 : ¬ f + 4 = f := by omega
  have n14 : ¬ f + 4 = f + 1 := by omega
  have n24 : ¬ f + 4 = f + 2 := by omega
  have n34 : ¬ f + 4 = f + 3 := by omega
  have n40 : ¬ f = f + 4 := by omega
  have hbl : ∀ x y : B, (H2 ++ [y, x])[f + 4]? = some x := fun x y => by
    rw [List.getElem?_append_right (by omega), a1]
    have : f + 4 - (f + 3) = 1 := by omega
    rw [this]; rfl
  refine W.use (back43 (hb := hbl _ _) kg got (f + 2) (f + 4) _ (fun i H' => At H' fun H' => Ext H H' ∧ H'[f + 1]? = some (.cells [.map f]) ∧ H'[f + 2]? = some (.cells [.sl kg (encVs got)]) ∧ H'[f + 3]? = some .dfr ∧ ∃ es, H'[f]? = some (.map (encK kW es)) ∧ Fetched got i es) rfl hgl ?_ ?_ ?_) ?_
  · refine .i ⟨a5.app _, ?_, ?_, g_tail a1.symm, [], ?_, fetched_end got⟩
    · rw [g_app (by omega)]; exact a3
    · rw [g_app (by omega)]; exact a4
    · rw [g_app (by omega)]; exact a2
  · rintro i H' ⟨_, _, h, _⟩; exact h
  · rintro i v H3 hv ⟨h1, h2, h3, h4, es, h5, h6⟩ hb
    have m4 := glt hb
    have m0 := glt h5
    have m1 := glt h2
    have m3 := glt h3
    have t4 : ¬ f + 4 = H3.length := by omega
    simp -implicitDefEqProofs only [op, ef, cl, sq, reduceIte, Int.reduceLT, Int.reduceLE, Int.reduceBEq, Int.reduceBNe, Int.reduceEq, Nat.reduceAdd, Nat.reduceLeDiff, Nat.reduceLT, Nat.reduceEqDiff, S1, S2, setps, r6, encV]
    refine ⟨_, rfl, ?_, ?_⟩
    · rw [g_app m4]; exact hb
    simp -implicitDefEqProofs only [op, ef, cl, sq, reduceIte, Int.reduceLT, Int.reduceLE, Int.reduceBEq, Int.reduceBNe, Int.reduceEq, Nat.reduceAdd, Nat.reduceLeDiff, Nat.reduceLT, Nat.reduceEqDiff, S1, S2, r6, m4, m0, m1, t4, n04, n14, n24, n34, n40, h2, h5, upmB_W]
    have lq : H.length ≤ f := by omega
    refine ⟨_, rfl, .i ⟨(((h1.set (by omega) _).set lq _).set (by omega) _).app _, ?_, ?_, ?_, _, ?_, fetched_put hv h6⟩⟩
    · simp -implicitDefEqProofs only [S2, m4, m0, m1, n04, n14, n01, h2]
    · simp -implicitDefEqProofs only [S2, m4, m0, m3, n04, n24, n02, h3]
    · have := glt h4; simp -implicitDefEqProofs only [S2, m4, m0, this, n04, n34, n03, h4]
    · simp -implicitDefEqProofs only [S2, m4, m0, n04]
  rintro o H3 ⟨⟨h1, h2, h3, h4, es, h5, h6⟩, hb⟩
  refine ⟨hb, ?_⟩
  have m4 := glt hb
  simp -implicitDefEqProofs only [op, ef, cl, sq, reduceIte, Int.reduceLT, Int.reduceLE, Int.reduceBEq, Int.reduceBNe, Int.reduceEq, Nat.reduceAdd, Nat.reduceLeDiff, Nat.reduceLT, Nat.reduceEqDiff, S1, r0, r1, r6]
  refine callB_of _ _ _ _ _ _ _ _ (greatest25 k l _ hs hf) ?_
  rintro u H4 ⟨hx4, b, hu, hbo, hbH⟩
  cases hu
  have p0 : H4[f]? = some (.map (encK kW es)) := hx4.get (by simp -implicitDefEqProofs only [S2, n04, h5])
  have p1 : H4[f + 1]? = some (.cells [.map f]) := hx4.get (by simp -implicitDefEqProofs only [S2, n14, h2])
  have p3 : H4[f + 3]? = some .dfr := hx4.get (by simp -implicitDefEqProofs only [S2, n34, h4])
  have px : Ext H H4 := (h1.set (by omega) _).trans hx4
  simp -implicitDefEqProofs only [op, ef, cl, sq, reduceIte, Int.reduceLT, Int.reduceLE, Int.reduceBEq, Int.reduceBNe, Int.reduceEq, Nat.reduceAdd, Nat.reduceLeDiff, Nat.reduceLT, Nat.reduceEqDiff, S1, r0, r1, r6]
  refine W.loopI (fun (i : Nat) R H' => At H' (fun H' => ∃ kw out, mends (mendO l got) (l.take i) = some out ∧ R 9 = .sl kw (encVs out) ∧ Ext H H' ∧ H'[b]? = some (.cells (msC eU (grs l))) ∧ H'[f]? = some (.map (encK kW es)) ∧ H'[f + 1]? = some (.cells [.map f]) ∧ H'[f + 3]? = some .dfr ∧ Apd H.length H' kw) ∧ R 0 = .sl k (encVs l) ∧ R 1 = .sl kg (encVs got) ∧ R 6 = .ptr (f + 1) 0 ∧ R 31 = .msl b 0 l.length 1 ∧ R 32 = .int .i64 l.length ∧ R 33 = .int .i64 i ∧ R 71 = .tup [.ptr (f + 3) 0] ∧ i ≤ l.length) (fun i => l.length - i) 0 ?_ ?_
  · refine ⟨.i ⟨.nil, [], rfl, rfl, px, hbo, p0, p1, p3, apd_nil _ _⟩, ?_⟩
    simp -implicitDefEqProofs only [op, ef, cl, sq, reduceIte, Int.reduceLT, Int.reduceLE, Int.reduceBEq, Int.reduceBNe, Int.reduceEq, Nat.reduceAdd, Nat.reduceLeDiff, Nat.reduceLT, Nat.reduceEqDiff, S1, r0, r1, r6]
    exact ⟨rfl, Nat.zero_le _⟩
  rintro i R H5 ⟨⟨kw, out, hout, g9, hx5, c0, c1, c2, c3, hap⟩, g0, g1, g6, g31, g32, g33, g71, hi⟩
  by_cases hlt : i < l.length
  · obtain ⟨v, hv⟩ := getV hlt
    have hvm := List.mem_of_getElem? hv
    have wsi := wrap_succ (show i < 9223372036854775807 by omega)
    have hg := getG rfl hv
    have lb := glt c0
    have lf := glt c1
    have lf1 := glt c2
    have lf3 := glt c3
    by_cases hlg : v.id < gr l v.key
    · have nf5 : ¬ f + 1 = H5.length := by omega
      cases ho : mlook es (v.key, gr l v.key) with
      | none =>
        simp -implicitDefEqProofs only [op, ef, cl, sq, reduceIte, Int.reduceLT, Int.reduceLE, Int.reduceBEq, Int.reduceBNe, Int.reduceEq, Nat.reduceAdd, Nat.reduceLeDiff, Nat.reduceLT, Nat.reduceEqDiff, S1, S2, g0, g1, g6, g31, g32, g33, hlt, natOf_nat, iad_m, c0, c1, c2, lb, lf, lf1, msU_get hg, iadV hv, encV, hlg, lkpB_W, ho]
        refine endR_r (b := f + 3) (by simp -implicitDefEqProofs only [op, ef, cl, sq, reduceIte, Int.reduceLT, Int.reduceLE, Int.reduceBEq, Int.reduceBNe, Int.reduceEq, Nat.reduceAdd, Nat.reduceLeDiff, Nat.reduceLT, Nat.reduceEqDiff, S1, g71]) (by simp -implicitDefEqProofs only [S2, lf3, c3]) ?_
        simp -implicitDefEqProofs only [op, ef, cl, sq, reduceIte, Int.reduceLT, Int.reduceLE, Int.reduceBEq, Int.reduceBNe, Int.reduceEq, Nat.reduceAdd, Nat.reduceLeDiff, Nat.reduceLT, Nat.reduceEqDiff, S1]
        refine ⟨(hx5.app _).set (by omega) _, .nil, ?_⟩
        have hno := mends_no (mendO l got) hvm (by simp [mendO, mendOne, hlg, fetched_no h6 ho])
        simp [mendL, mendE, hf, hno, encVs]
      | some t =>
      obtain ⟨p, w, hpw, rfl, hgo⟩ := fetched_yes h6 ho
      have hwm := List.mem_of_getElem? hpw
      simp -implicitDefEqProofs only [op, ef, cl, sq, reduceIte, Int.reduceLT, Int.reduceLE, Int.reduceBEq, Int.reduceBNe, Int.reduceEq, Nat.reduceAdd, Nat.reduceLeDiff, Nat.reduceLT, Nat.reduceEqDiff, S1, S2, g0, g1, g6, g31, g32, g33, hlt, natOf_nat, iad_m, c0, c1, c2, lb, lf, lf1, msU_get hg, iadV hv, iadV hpw, encV, hlg, lkpB_W, ho]
      refine callB_of _ _ _ _ _ _ _ _ (clone33 w.kk w.keys _ (hng w hwm).1 (hng w hwm).2) ?_
      rintro u H6 ⟨hx6, k', hk', hu⟩
      cases hu
      have s0 : H6[H5.length]? = some (.cells (encV w)) := hx6.get (by simp -implicitDefEqProofs only [S2, encV])
      have sc0 : H6[b]? = some (.cells (msC eU (grs l))) := hx6.get (by simp -implicitDefEqProofs only [S2, lb, c0])
      have sc1 : H6[f]? = some (.map (encK kW es)) := hx6.get (by simp -implicitDefEqProofs only [S2, lf, c1])
      have sc2 : H6[f + 1]? = some (.cells [.map f]) := hx6.get (by simp -implicitDefEqProofs only [S2, lf1, c2])
      have sc3 : H6[f + 3]? = some .dfr := hx6.get (by simp -implicitDefEqProofs only [S2, lf3, c3])
      have sx : Ext H H6 := (hx5.app _).trans hx6
      have sap : Apd H.length H6 kw := (hap.ext ⟨_, rfl⟩).ext hx6
      have sl := glt s0
      have lo : out.length ≤ 1024 := by rw [mends_len _ hout]; simp; omega
      obtain ⟨k2, H7, ha, hap', hst⟩ := app_ok (bytes := 64) (H := H6.set H5.length (.cells [T.str w.key, T.int .u64 w.id, T.str w.val, T.sl k' (encS w.keys)])) (encVs out) [[T.str w.key, T.int .u64 w.id, T.str w.val, T.sl .arg (encS w.keys)]] (sap.set s0 (by simp) _) (by simp; exact sx.len) (by simp) (roomT (by simp -implicitDefEqProofs only [encVs_len, List.length_cons, List.length_nil]; omega))
      simp -implicitDefEqProofs only [op, ef, cl, sq, reduceIte, Int.reduceLT, Int.reduceLE, Int.reduceBEq, Int.reduceBNe, Int.reduceEq, Nat.reduceAdd, Nat.reduceLeDiff, Nat.reduceLT, Nat.reduceEqDiff, S1, vapp] at ha
      simp -implicitDefEqProofs only [encV] at s0
      simp -implicitDefEqProofs only [op, ef, cl, sq, reduceIte, Int.reduceLT, Int.reduceLE, Int.reduceBEq, Int.reduceBNe, Int.reduceEq, Nat.reduceAdd, Nat.reduceLeDiff, Nat.reduceLT, Nat.reduceEqDiff, S1, S2, g9, s0, sl, allV, ha, g33, wsi]
      have n1 : ¬ H5.length = b := by omega
      have n2 : ¬ H5.length = f := by omega
      have n3 : ¬ H5.length = f + 1 := by omega
      have n4 : ¬ H5.length = f + 3 := by omega
      have sap2 := sap.set s0 (by simp) (B.cells [T.str w.key, T.int .u64 w.id, T.str w.val, T.sl k' (encS w.keys)])
      refine ⟨i + 1, by omega, .i ⟨k2, out ++ [setK w .arg], ?_, by simp -implicitDefEqProofs only [op, ef, cl, sq, reduceIte, Int.reduceLT, Int.reduceLE, Int.reduceBEq, Int.reduceBNe, Int.reduceEq, Nat.reduceAdd, Nat.reduceLeDiff, Nat.reduceLT, Nat.reduceEqDiff, S1], hst.ext H (Nat.le_refl _) (sx.set (by omega) _), hst.cells sap2 (by simp -implicitDefEqProofs only [S2, n1, sc0]) (by simp), hst.cells sap2 (by simp -implicitDefEqProofs only [S2, n2, sc1]) (by simp), hst.cells sap2 (by simp -implicitDefEqProofs only [S2, n3, sc2]) (by simp), hst.cells sap2 (by simp -implicitDefEqProofs only [S2, n4, sc3]) (by simp), hap'⟩, ?_⟩
      · rw [take_snoc hv]
        exact mends_snoc _ hout (by simp [mendO, mendOne, hlg, hgo])
      · simp -implicitDefEqProofs only [g0, g1, g6, g31, g32, g71, true_and]; omega
    · simp -implicitDefEqProofs only [op, ef, cl, sq, reduceIte, Int.reduceLT, Int.reduceLE, Int.reduceBEq, Int.reduceBNe, Int.reduceEq, Nat.reduceAdd, Nat.reduceLeDiff, Nat.reduceLT, Nat.reduceEqDiff, S1, S2, g0, g1, g6, g31, g32, g33, hlt, natOf_nat, iad_m, c0, c1, c2, lb, lf, lf1, msU_get hg, iadV hv, encV, hlg]
      refine callB_of _ _ _ _ _ _ _ _ (clone33 v.kk v.keys _ (hn v hvm).1 (hn v hvm).2) ?_
      rintro u H6 ⟨hx6, k', hk', hu⟩
      cases hu
      have s0 : H6[H5.length]? = some (.cells (encV v)) := hx6.get (by simp -implicitDefEqProofs only [S2, encV])
      have sc0 : H6[b]? = some (.cells (msC eU (grs l))) := hx6.get (by simp -implicitDefEqProofs only [S2, lb, c0])
      have sc1 : H6[f]? = some (.map (encK kW es)) := hx6.get (by simp -implicitDefEqProofs only [S2, lf, c1])
      have sc2 : H6[f + 1]? = some (.cells [.map f]) := hx6.get (by simp -implicitDefEqProofs only [S2, lf1, c2])
      have sc3 : H6[f + 3]? = some .dfr := hx6.get (by simp -implicitDefEqProofs only [S2, lf3, c3])
      have sx : Ext H H6 := (hx5.app _).trans hx6
      have sap : Apd H.length H6 kw := (hap.ext ⟨_, rfl⟩).ext hx6
      have sl := glt s0
      have lo : out.length ≤ 1024 := by rw [mends_len _ hout]; simp; omega
      obtain ⟨k2, H7, ha, hap', hst⟩ := app_ok (bytes := 64) (H := H6.set H5.length (.cells [T.str v.key, T.int .u64 v.id, T.str v.val, T.sl k' (encS v.keys)])) (encVs out) [[T.str v.key, T.int .u64 v.id, T.str v.val, T.sl .arg (encS v.keys)]] (sap.set s0 (by simp) _) (by simp; exact sx.len) (by simp) (roomT (by simp -implicitDefEqProofs only [encVs_len, List.length_cons, List.length_nil]; omega))
      simp -implicitDefEqProofs only [op, ef, cl, sq, reduceIte, Int.reduceLT, Int.reduceLE, Int.reduceBEq, Int.reduceBNe, Int.reduceEq, Nat.reduceAdd, Nat.reduceLeDiff, Nat.reduceLT, Nat.reduceEqDiff, S1, vapp] at ha
      simp -implicitDefEqProofs only [encV] at s0
      simp -implicitDefEqProofs only [op, ef, cl, sq, reduceIte, Int.reduceLT, Int.reduceLE, Int.reduceBEq, Int.reduceBNe, Int.reduceEq, Nat.reduceAdd, Nat.reduceLeDiff, Nat.reduceLT, Nat.reduceEqDiff, S1, S2, g9, s0, sl, allV, ha, g33, wsi]
      have n1 : ¬ H5.length = b := by omega
      have n2 : ¬ H5.length = f := by omega
      have n3 : ¬ H5.length = f + 1 := by omega
      have n4 : ¬ H5.length = f + 3 := by omega
      have sap2 := sap.set s0 (by simp) (B.cells [T.str v.key, T.int .u64 v.id, T.str v.val, T.sl k' (encS v.keys)])
      refine ⟨i + 1, by omega, .i ⟨k2, out ++ [setK v .arg], ?_, by simp -implicitDefEqProofs only [op, ef, cl, sq, reduceIte, Int.reduceLT, Int.reduceLE, Int.reduceBEq, Int.reduceBNe, Int.reduceEq, Nat.reduceAdd, Nat.reduceLeDiff, Nat.reduceLT, Nat.reduceEqDiff, S1], hst.ext H (Nat.le_refl _) (sx.set (by omega) _), hst.cells sap2 (by simp -implicitDefEqProofs only [S2, n1, sc0]) (by simp), hst.cells sap2 (by simp -implicitDefEqProofs only [S2, n2, sc1]) (by simp), hst.cells sap2 (by simp -implicitDefEqProofs only [S2, n3, sc2]) (by simp), hst.cells sap2 (by simp -implicitDefEqProofs only [S2, n4, sc3]) (by simp), hap'⟩, ?_⟩
      · rw [take_snoc hv]
        exact mends_snoc _ hout (by simp [mendO, mendOne, hlg])
      · simp -implicitDefEqProofs only [g0, g1, g6, g31, g32, g71, true_and]; omega
  · have hil : i = l.length := by omega
    subst hil
    rw [List.take_length] at hout
    simp -implicitDefEqProofs only [op, ef, cl, sq, reduceIte, Int.reduceLT, Int.reduceLE, Int.reduceBEq, Int.reduceBNe, Int.reduceEq, Nat.reduceAdd, Nat.reduceLeDiff, Nat.reduceLT, Nat.reduceEqDiff, S1, g9, g32, g33, hlt]
    refine endR_r (b := f + 3) (by simp -implicitDefEqProofs only [op, ef, cl, sq, reduceIte, Int.reduceLT, Int.reduceLE, Int.reduceBEq, Int.reduceBNe, Int.reduceEq, Nat.reduceAdd, Nat.reduceLeDiff, Nat.reduceLT, Nat.reduceEqDiff, S1, g71]) c3 ?_
    simp -implicitDefEqProofs only [op, ef, cl, sq, reduceIte, Int.reduceLT, Int.reduceLE, Int.reduceBEq, Int.reduceBNe, Int.reduceEq, Nat.reduceAdd, Nat.reduceLeDiff, Nat.reduceLT, Nat.reduceEqDiff, S1, g9]
    refine ⟨hx5.set (by omega) _, kw, ?_⟩
    simp [mendL, mendE, hf, hout]
end Go.Proofs.Ytobnjpgggocdlaa.Fx
end

/-! text FixN -/
section
namespace Go.Proofs.Ytobnjpgggocdlaa.Fx
open Go.Rmp Go.Proofs.Ytobnjpgggocdlaa.Ir
set_option maxRecDepth 10000
/-- what the first of the wanted of a key says -/
theorem wanted_of {l : List Ver} (hf : Formed l) {v : Ver} (hv : v ∈ l) : ((wants l).find? fun w => decide (w.1 = v.key)).elim 0 (·.2) = if v.id < gr l v.key then gr l v.key else 0 := by
  by_cases h : v.id < gr l v.key
  · have hm : (v.key, gr l v.key) ∈ wants l := by
      unfold wants wants'
      exact List.mem_map.2 ⟨v, by simp [hv, h], rfl⟩
    cases hfi : (wants l).find? fun w => decide (w.1 = v.key) with
    | none => have := List.find?_eq_none.1 hfi _ hm; simp at this
    | some w =>
      have h1 := List.find?_some hfi
      have h2 := List.mem_of_find?_eq_some hfi
      unfold wants wants' at h2
      obtain ⟨u, _, rfl⟩ := List.mem_map.1 h2
      simp -implicitDefEqProofs only [decide_eq_true_eq] at h1
      simp [h, h1]
  · cases hfi : (wants l).find? fun w => decide (w.1 = v.key) with
    | none => simp [h]
    | some w =>
      have h1 := List.find?_some hfi
      have h2 := List.mem_of_find?_eq_some hfi
      unfold wants wants' at h2
      obtain ⟨u, hu, rfl⟩ := List.mem_map.1 h2
      simp -implicitDefEqProofs only [decide_eq_true_eq, List.mem_filter] at h1 hu
      obtain ⟨p, hp, e⟩ := List.getElem_of_mem hu.1
      obtain ⟨q, hq, e'⟩ := List.getElem_of_mem hv
      have := key_one hf (u := u) (w := v) (by rw [List.getElem?_eq_getElem hp, e]) (by rw [List.getElem?_eq_getElem hq, e']) h1.symm
      subst this
      rw [e] at e'; subst e'
      exact absurd hu.2 h
/-- the last of what was found among the places from i on -/
def gotF (got : List Ver) (i : Nat) (k : ByteArray) (n : Nat) : Option Ver := gotOf (got.drop i) k n
theorem gotF_succ {got : List Ver} {i : Nat} {v : Ver} (hv : got[i]? = some v) (k : ByteArray) (n : Nat) : gotF got i k n = if decide (v.key = k) && decide (v.id = n) then some v else gotF got (i + 1) k n := by
  have hi := (List.getElem?_eq_some_iff.1 hv).1
  unfold gotF gotOf
  rw [List.drop_eq_getElem_cons hi, List.find?_cons, (List.getElem?_eq_some_iff.1 hv).2]
  cases decide (v.key = k) && decide (v.id = n) <;> simp
theorem mend17 (k kg : SK) (l got : List Ver) (H : Heap) (hs : Small l) (hn : NilOk l) (hng : NilOk got) (hgl : got.length < 4611686018427387903) : W env (.call 17 [.sl k (encVs l), .sl kg (encVs got)]) H (MendQ l got H) := by
  refine W.fnI rfl rfl rfl ?_
  simp -implicitDefEqProofs only [ir17, op, ef, cl, sq, reduceIte, Int.reduceLT, Int.reduceLE, Int.reduceBEq, Int.reduceBNe, Int.reduceEq, Nat.reduceAdd, Nat.reduceLeDiff, Nat.reduceLT, Nat.reduceEqDiff, S1]
  refine callB_of _ _ _ _ _ _ _ _ (needs10 k l _ hs) ?_
  rintro u H1 ⟨hx1, kn, hu⟩
  cases hu
  by_cases hf : ¬ Formed l
  · have e1 : (((1 : Nat) : Int) != 0) = true := by decide
    have e2 : ((1 : Nat) : Int) = 1 := rfl
    simp -implicitDefEqProofs only [op, ef, cl, sq, reduceIte, Int.reduceLT, Int.reduceLE, Int.reduceBEq, Int.reduceBNe, Int.reduceEq, Nat.reduceAdd, Nat.reduceLeDiff, Nat.reduceLT, Nat.reduceEqDiff, S1, needs, needsE, hf, e1, e2]
    exact ⟨hx1, .nil, by simp [mendL, mendE, hf, encVs]⟩
  have hf := Classical.not_not.1 hf
  have hln := hf.2.1
  have hwl : (wants l).length ≤ 1024 := Nat.le_trans (wants_le l l) hln
  simp -implicitDefEqProofs only [op, ef, cl, sq, reduceIte, Int.reduceLT, Int.reduceLE, Int.reduceBEq, Int.reduceBNe, Int.reduceEq, Nat.reduceAdd, Nat.reduceLeDiff, Nat.reduceLT, Nat.reduceEqDiff, S1, needs, needsE, hf]
  refine W.loopI (fun (i : Nat) R H' => At H' (fun H' => ∃ kw out, mends (mendO l got) (l.take i) = some out ∧ R 8 = .sl kw (encVs out) ∧ Ext H H' ∧ Apd H.length H' kw) ∧ R 0 = .sl k (encVs l) ∧ R 1 = .sl kg (encVs got) ∧ R 6 = .sl kn (encWs (wants l)) ∧ R 9 = .int .i64 i ∧ i ≤ l.length) (fun i => l.length - i) 0 ⟨.i ⟨.nil, [], rfl, rfl, hx1, apd_nil _ _⟩, rfl, rfl, rfl, rfl, Nat.zero_le _⟩ ?_
  rintro i R H5 ⟨⟨kw, out, hout, g8, hx5, hap⟩, g0, g1, g6, g9, hi⟩
  by_cases hlt : i < l.length
  · obtain ⟨v, hv⟩ := getV hlt
    have hvm := List.mem_of_getElem? hv
    have wsi := wrap_succ (show i < 9223372036854775807 by omega)
    have wl : IntKind.i64.wrap ((got.length : Int) - 1) = (got.length : Int) - 1 := wrap64 (by omega)
    simp -implicitDefEqProofs only [op, ef, cl, sq, reduceIte, Int.reduceLT, Int.reduceLE, Int.reduceBEq, Int.reduceBNe, Int.reduceEq, Nat.reduceAdd, Nat.reduceLeDiff, Nat.reduceLT, Nat.reduceEqDiff, S1, g0, g1, g6, g9, encVs_len, hlt, iadV hv, encV]
    refine callB_of _ _ _ _ _ _ _ _ (wanted34 kn (wants l) v.key _ (by omega)) ?_
    rintro u H6 ⟨hu, rfl⟩
    rw [wanted_of hf hvm] at hu
    cases hu
    generalize hid : (if v.id < gr l v.key then gr l v.key else 0) = id
    simp -implicitDefEqProofs only [op, ef, cl, sq, reduceIte, Int.reduceLT, Int.reduceLE, Int.reduceBEq, Int.reduceBNe, Int.reduceEq, Nat.reduceAdd, Nat.reduceLeDiff, Nat.reduceLT, Nat.reduceEqDiff, S1, S2, g0, g1, g6, g9, encVs_len, iadV hv, encV, wl]
    refine W.loopI (fun (x : Nat) R H' => At H' (fun H' => ∃ w fl, H'[H6.length]? = some (.cells (encV w)) ∧ R 12 = .bool fl ∧ Ext H H' ∧ Apd H.length H' kw ∧ (if id = 0 then fl = true ∧ w = v else match gotF got x v.key id with | .none => fl = false | some u => fl = true ∧ w = u)) ∧ R 0 = .sl k (encVs l) ∧ R 1 = .sl kg (encVs got) ∧ R 6 = .sl kn (encWs (wants l)) ∧ R 8 = .sl kw (encVs out) ∧ R 9 = .int .i64 i ∧ R 10 = .int .u64 id ∧ R 11 = .ptr H6.length 0 ∧ R 13 = .int .i64 ((x : Int) - 1) ∧ x ≤ got.length) (fun x => x) got.length ?_ ?_
    · refine ⟨.i ⟨v, decide (id = 0), g_tail rfl, rfl, hx5.app _, hap.ext ⟨_, rfl⟩, ?_⟩, ?_⟩
      · by_cases h : id = 0
        · simp [h]
        · simp [h, gotF, gotOf]
      · simp -implicitDefEqProofs only [op, ef, cl, sq, reduceIte, Int.reduceLT, Int.reduceLE, Int.reduceBEq, Int.reduceBNe, Int.reduceEq, Nat.reduceAdd, Nat.reduceLeDiff, Nat.reduceLT, Nat.reduceEqDiff, S1, g0, g1, g6, g8, g9]
        exact Nat.le_refl _
    rintro x R H7 ⟨⟨w, fl, c0, d12, hx7, hap7, hwf⟩, d0, d1, d6, d8, d9, d10, d11, d13, hx⟩
    have lc := glt c0
    cases x with
    | succ j =>
      obtain ⟨u, hu⟩ := getV (l := got) (i := j) (by omega)
      have e : (((j + 1 : Nat) : Int) - 1) = (j : Int) := by omega
      have e2 : decide ((0 : Int) ≤ (j : Int)) = true := by simp
      have w1 : IntKind.i64.wrap ((j : Int) - 1) = (j : Int) - 1 := wrap64 (by omega)
      rw [e] at d13
      have hgs := gotF_succ hu v.key id
      by_cases hid0 : id = 0
      · simp -implicitDefEqProofs only [op, ef, cl, sq, reduceIte, Int.reduceLT, Int.reduceLE, Int.reduceBEq, Int.reduceBNe, Int.reduceEq, Nat.reduceAdd, Nat.reduceLeDiff, Nat.reduceLT, Nat.reduceEqDiff, S1, S2, d0, d1, d6, d8, d9, d10, d11, d13, e2, hid0, iadV hu, iadV hv, encV, w1]
        refine ⟨j, by omega, .i ⟨w, fl, c0, d12, hx7, hap7, by simpa [hid0] using hwf⟩, rfl, by omega⟩
      simp -implicitDefEqProofs only [hid0, if_false] at hwf
      by_cases hk : u.key = v.key
      · by_cases hi2 : u.id = id
        · simp -implicitDefEqProofs only [op, ef, cl, sq, reduceIte, Int.reduceLT, Int.reduceLE, Int.reduceBEq, Int.reduceBNe, Int.reduceEq, Nat.reduceAdd, Nat.reduceLeDiff, Nat.reduceLT, Nat.reduceEqDiff, S1, S2, d0, d1, d6, d8, d9, d10, d11, d13, e2, hid0, iadV hu, iadV hv, encV, w1, hk, hi2, lc, c0]
          refine ⟨j, by omega, .i ⟨u, true, by rw [g_eq lc]; simp -implicitDefEqProofs only [encV, hk, hi2], rfl, hx7.set hx5.len _, hap7.set c0 (by simp) _, ?_⟩, rfl, by omega⟩
          simp -implicitDefEqProofs only [hid0, if_false, hgs, hk, hi2]; simp
        · simp -implicitDefEqProofs only [op, ef, cl, sq, reduceIte, Int.reduceLT, Int.reduceLE, Int.reduceBEq, Int.reduceBNe, Int.reduceEq, Nat.reduceAdd, Nat.reduceLeDiff, Nat.reduceLT, Nat.reduceEqDiff, S1, S2, d0, d1, d6, d8, d9, d10, d11, d13, e2, hid0, iadV hu, iadV hv, encV, w1, hk, hi2]
          refine ⟨j, by omega, .i ⟨w, fl, c0, d12, hx7, hap7, ?_⟩, rfl, by omega⟩
          simp -implicitDefEqProofs only [hid0, if_false, hgs, hk, hi2]; simpa using hwf
      · simp -implicitDefEqProofs only [op, ef, cl, sq, reduceIte, Int.reduceLT, Int.reduceLE, Int.reduceBEq, Int.reduceBNe, Int.reduceEq, Nat.reduceAdd, Nat.reduceLeDiff, Nat.reduceLT, Nat.reduceEqDiff, S1, S2, d0, d1, d6, d8, d9, d10, d11, d13, e2, hid0, iadV hu, iadV hv, encV, w1, hk]
        refine ⟨j, by omega, .i ⟨w, fl, c0, d12, hx7, hap7, ?_⟩, rfl, by omega⟩
        simp -implicitDefEqProofs only [hid0, if_false, hgs, hk]; simpa using hwf
    | zero =>
      have e : (((0 : Nat) : Int) - 1) = -1 := by decide
      have e2 : decide ((0 : Int) ≤ -1) = false := by decide
      rw [e] at d13
      have hg0 : gotF got 0 v.key id = gotOf got v.key id := by simp [gotF]
      rw [hg0] at hwf
      cases fl with
      | false =>
        simp -implicitDefEqProofs only [op, ef, cl, sq, reduceIte, Int.reduceLT, Int.reduceLE, Int.reduceBEq, Int.reduceBNe, Int.reduceEq, Nat.reduceAdd, Nat.reduceLeDiff, Nat.reduceLT, Nat.reduceEqDiff, S1, S2, d13, e2, d12]
        refine ⟨hx7, .nil, ?_⟩
        have hid0 : ¬ id = 0 := fun h => by simp [h] at hwf
        simp -implicitDefEqProofs only [hid0, if_false] at hwf
        have hlg : v.id < gr l v.key := Classical.byContradiction fun h => hid0 (by rw [← hid]; simp [h])
        simp -implicitDefEqProofs only [hlg, if_true] at hid
        have hgo : gotOf got v.key id = Option.none := by
          cases hgo : gotOf got v.key id with
          | none => rfl
          | some u => rw [hgo] at hwf; simp at hwf
        have hno := mends_no (mendO l got) hvm (by rw [mendO, mendOne, if_pos hlg, hid, hgo]; rfl)
        simp [mendL, mendE, hf, hno, encVs]
      | true =>
        have hw : mendOne l got v = some w ∧ KOk w.kk w.keys ∧ w.keys.length < 1099511627776 := by
          by_cases hlg : v.id < gr l v.key
          · simp -implicitDefEqProofs only [hlg, if_true] at hid
            have hid0 : ¬ id = 0 := by omega
            simp -implicitDefEqProofs only [hid0, if_false] at hwf
            cases hgo : gotOf got v.key id with
            | none => rw [hgo] at hwf; simp at hwf
            | some u =>
              rw [hgo] at hwf
              simp -implicitDefEqProofs only [true_and] at hwf; subst hwf
              exact ⟨by rw [mendOne, if_pos hlg, hid]; exact hgo, hng _ (List.mem_of_find?_eq_some hgo)⟩
          · simp -implicitDefEqProofs only [hlg, if_false] at hid
            subst hid
            simp -implicitDefEqProofs only [if_true, true_and] at hwf
            subst hwf
            exact ⟨by simp [mendOne, hlg], hn _ hvm⟩
        simp -implicitDefEqProofs only [encV] at c0
        simp -implicitDefEqProofs only [op, ef, cl, sq, reduceIte, Int.reduceLT, Int.reduceLE, Int.reduceBEq, Int.reduceBNe, Int.reduceEq, Nat.reduceAdd, Nat.reduceLeDiff, Nat.reduceLT, Nat.reduceEqDiff, S1, S2, d13, e2, d12, d11, c0]
        refine callB_of _ _ _ _ _ _ _ _ (own35 w _ hw.2.2) ?_
        rintro u H8 ⟨hx8, k', hk', hu⟩
        cases hu
        have lo : out.length ≤ 1024 := by rw [mends_len _ hout]; simp; omega
        obtain ⟨k2, H9, ha, hap', hst⟩ := app_ok (bytes := 64) (encVs out) [[T.str w.key, T.int .u64 w.id, T.str w.val, T.sl .arg (encS w.keys)]] (hap7.ext hx8) (hx7.trans hx8).len (by simp) (roomT (by simp -implicitDefEqProofs only [encVs_len, List.length_cons, List.length_nil]; omega))
        simp -implicitDefEqProofs only [op, ef, cl, sq, reduceIte, Int.reduceLT, Int.reduceLE, Int.reduceBEq, Int.reduceBNe, Int.reduceEq, Nat.reduceAdd, Nat.reduceLeDiff, Nat.reduceLT, Nat.reduceEqDiff, S1, vapp] at ha
        simp -implicitDefEqProofs only [op, ef, cl, sq, reduceIte, Int.reduceLT, Int.reduceLE, Int.reduceBEq, Int.reduceBNe, Int.reduceEq, Nat.reduceAdd, Nat.reduceLeDiff, Nat.reduceLT, Nat.reduceEqDiff, S1, S2, setK, encV, d8, d9, allV, ha, wsi]
        refine ⟨i + 1, by omega, .i ⟨k2, out ++ [setK w .arg], ?_, by simp -implicitDefEqProofs only [op, ef, cl, sq, reduceIte, Int.reduceLT, Int.reduceLE, Int.reduceBEq, Int.reduceBNe, Int.reduceEq, Nat.reduceAdd, Nat.reduceLeDiff, Nat.reduceLT, Nat.reduceEqDiff, S1, setK], hst.ext H (Nat.le_refl _) (hx7.trans hx8), hap'⟩, ?_⟩
        · rw [take_snoc hv]
          exact mends_snoc _ hout (by simp [mendO, hw.1])
        · simp -implicitDefEqProofs only [d0, d1, d6, true_and]; omega
  · have hil : i = l.length := by omega
    subst hil
    rw [List.take_length] at hout
    simp -implicitDefEqProofs only [op, ef, cl, sq, reduceIte, Int.reduceLT, Int.reduceLE, Int.reduceBEq, Int.reduceBNe, Int.reduceEq, Nat.reduceAdd, Nat.reduceLeDiff, Nat.reduceLT, Nat.reduceEqDiff, S1, g0, g8, g9, encVs_len, hlt]
    exact ⟨hx5, kw, by simp [mendL, mendE, hf, hout]⟩
end Go.Proofs.Ytobnjpgggocdlaa.Fx
end

/-! text FixO -/
section
namespace Go.Proofs.Ytobnjpgggocdlaa.Fx
open Go.Rmp Go.Proofs.Ytobnjpgggocdlaa.Ir
set_option maxRecDepth 10000
/-! two lists -/
def core (v : Ver) : ByteArray × Nat × ByteArray × List ByteArray := (v.key, v.id, v.val, v.keys)
def Same (a b : List Ver) : Prop := a.map core = b.map core
theorem core_eq {u v : Ver} : core u = core v ↔ u.key = v.key ∧ u.id = v.id ∧ u.val = v.val ∧ u.keys = v.keys := by simp [core]
open Classical in
noncomputable def sameB (a b : List Ver) : Bool := decide (Same a b)
theorem same_t {a b : List Ver} (h : Same a b) : sameB a b = true := by simp [sameB, h]
theorem same_f {a b : List Ver} (h : ¬ Same a b) : sameB a b = false := by simp [sameB, h]
theorem same18 (k k' : SK) (a b : List Ver) (H : Heap) (ha : a.length < 4611686018427387903) (hk : ∀ v ∈ a, v.keys.length < 4611686018427387903) : W env (.call 18 [.sl k (encVs a), .sl k' (encVs b)]) H (Ret (.bool (sameB a b)) H) := by
  refine W.fnI rfl rfl rfl ?_
  by_cases hab : a.length = b.length
  · simp -implicitDefEqProofs only [ir18, op, ef, cl, sq, reduceIte, Int.reduceLT, Int.reduceLE, Int.reduceBEq, Int.reduceBNe, Int.reduceEq, Nat.reduceAdd, Nat.reduceLeDiff, Nat.reduceLT, Nat.reduceEqDiff, S1, encVs_len, hab]
    refine W.loopI (fun (i : Nat) R H' => H' = H ∧ R 0 = .sl k (encVs a) ∧ R 1 = .sl k' (encVs b) ∧ R 5 = .int .i64 i ∧ i ≤ a.length ∧ ∀ (p : Nat) u v, p < i → a[p]? = some u → b[p]? = some v → core u = core v) (fun i => a.length - i) 0 ⟨rfl, rfl, rfl, rfl, Nat.zero_le _, fun p u v h => by omega⟩ ?_
    rintro i R _ ⟨rfl, h0, h1, h5, hi, hg⟩
    by_cases hlt : i < a.length
    · obtain ⟨u, hu⟩ := getV hlt
      obtain ⟨v, hv⟩ := getV (l := b) (i := i) (by omega)
      have wsi := wrap_succ (show i < 9223372036854775807 by omega)
      have bad : core u ≠ core v → ¬ Same a b := fun hne hs => hne (by
        have : (a.map core)[i]? = (b.map core)[i]? := by rw [hs]
        simpa [hu, hv] using this)
      by_cases e1 : u.key = v.key
      · by_cases e2 : u.id = v.id
        · by_cases e3 : u.val = v.val
          · simp -implicitDefEqProofs only [op, ef, cl, sq, reduceIte, Int.reduceLT, Int.reduceLE, Int.reduceBEq, Int.reduceBNe, Int.reduceEq, Nat.reduceAdd, Nat.reduceLeDiff, Nat.reduceLT, Nat.reduceEqDiff, S1, h0, h1, h5, encVs_len, hlt, iadV hu, iadV hv, encV, e1, e2, e3]
            refine callB_of _ _ _ _ _ _ _ _ (eq36 u.kk v.kk u.keys v.keys _ (by have := hk u (List.mem_of_getElem? hu); omega)) ?_
            rintro w H4 ⟨hw, rfl⟩
            cases hw
            by_cases e4 : u.keys = v.keys
            · simp -implicitDefEqProofs only [op, ef, cl, sq, reduceIte, Int.reduceLT, Int.reduceLE, Int.reduceBEq, Int.reduceBNe, Int.reduceEq, Nat.reduceAdd, Nat.reduceLeDiff, Nat.reduceLT, Nat.reduceEqDiff, S1, h0, h1, h5, e4, wsi]
              refine ⟨i + 1, by omega, rfl, by omega, fun p x y hp hx hy => ?_⟩
              by_cases e : p = i
              · subst e; rw [hu] at hx; rw [hv] at hy; cases hx; cases hy; exact core_eq.2 ⟨e1, e2, e3, e4⟩
              · exact hg p x y (by omega) hx hy
            · have hb := bad (by rw [ne_eq, core_eq]; simp [e4])
              simp -implicitDefEqProofs only [op, ef, cl, sq, reduceIte, Int.reduceLT, Int.reduceLE, Int.reduceBEq, Int.reduceBNe, Int.reduceEq, Nat.reduceAdd, Nat.reduceLeDiff, Nat.reduceLT, Nat.reduceEqDiff, S1, e4, same_f hb]
          · have hb := bad (by rw [ne_eq, core_eq]; simp [e3])
            simp -implicitDefEqProofs only [op, ef, cl, sq, reduceIte, Int.reduceLT, Int.reduceLE, Int.reduceBEq, Int.reduceBNe, Int.reduceEq, Nat.reduceAdd, Nat.reduceLeDiff, Nat.reduceLT, Nat.reduceEqDiff, S1, h0, h1, h5, encVs_len, hlt, iadV hu, iadV hv, encV, e1, e2, e3, same_f hb]
        · have hb := bad (by rw [ne_eq, core_eq]; simp [e2])
          simp -implicitDefEqProofs only [op, ef, cl, sq, reduceIte, Int.reduceLT, Int.reduceLE, Int.reduceBEq, Int.reduceBNe, Int.reduceEq, Nat.reduceAdd, Nat.reduceLeDiff, Nat.reduceLT, Nat.reduceEqDiff, S1, h0, h1, h5, encVs_len, hlt, iadV hu, iadV hv, encV, e1, e2, same_f hb]
      · have hb := bad (by rw [ne_eq, core_eq]; simp [e1])
        simp -implicitDefEqProofs only [op, ef, cl, sq, reduceIte, Int.reduceLT, Int.reduceLE, Int.reduceBEq, Int.reduceBNe, Int.reduceEq, Nat.reduceAdd, Nat.reduceLeDiff, Nat.reduceLT, Nat.reduceEqDiff, S1, h0, h1, h5, encVs_len, hlt, iadV hu, iadV hv, encV, e1, same_f hb]
    · have hb : Same a b := List.ext_getElem? fun p => by
        by_cases hp : p < a.length
        · obtain ⟨u, hu⟩ := getV hp
          obtain ⟨v, hv⟩ := getV (l := b) (i := p) (by omega)
          simp [hu, hv, hg p u v (by omega) hu hv]
        · rw [List.getElem?_eq_none (by simp; omega), List.getElem?_eq_none (by simp; omega)]
      simp -implicitDefEqProofs only [op, ef, cl, sq, reduceIte, Int.reduceLT, Int.reduceLE, Int.reduceBEq, Int.reduceBNe, Int.reduceEq, Nat.reduceAdd, Nat.reduceLeDiff, Nat.reduceLT, Nat.reduceEqDiff, S1, h0, h1, h5, encVs_len, hlt, same_t hb]
  · have hb : ¬ Same a b := fun h => hab (by have := congrArg List.length h; simpa using this)
    simp -implicitDefEqProofs only [ir18, op, ef, cl, sq, reduceIte, Int.reduceLT, Int.reduceLE, Int.reduceBEq, Int.reduceBNe, Int.reduceEq, Nat.reduceAdd, Nat.reduceLeDiff, Nat.reduceLT, Nat.reduceEqDiff, S1, encVs_len, hab, same_f hb]
/-! arguments read -/
theorem hasS {B : Nat} {t : T} (h : HasSh B .str t) : ∃ s, t = .str s ∧ s.size ≤ B := by
  cases h with | str h hB => exact ⟨_, rfl, hB⟩
theorem hasU {B : Nat} {t : T} (h : HasSh B (.int .u64) t) : ∃ n : Nat, t = .int .u64 n ∧ n < 18446744073709551616 := by
  cases h with | int h => 
    rename_i n
    have hx : 0 ≤ n ∧ n ≤ 18446744073709551615 := by simpa [Lit.wf, IntKind.min, IntKind.max, IntKind.signed, IntKind.bits] using h
    exact ⟨n.toNat, by rw [Int.toNat_of_nonneg hx.1], by omega⟩
theorem map_of {α : Type} {P : α → Prop} (enc : α → List T) (es : List (List T)) (h : ∀ c ∈ es, ∃ x, c = enc x ∧ P x) : ∃ l : List α, es = l.map enc ∧ ∀ x ∈ l, P x := by
  induction es with
  | nil => exact ⟨[], rfl, by simp⟩
  | cons c es ih =>
    obtain ⟨l, rfl, hl⟩ := ih (fun c hc => h c (List.mem_cons_of_mem _ hc))
    obtain ⟨x, rfl, hx⟩ := h _ List.mem_cons_self
    exact ⟨x :: l, rfl, fun y hy => by rcases List.mem_cons.1 hy with rfl | hy; exact hx; exact hl y hy⟩
theorem hasSs {B : Nat} {t : T} (h : HasSh B (.sl [.str]) t) : ∃ k l, t = .sl k (encS l) ∧ KOk k l ∧ l.length ≤ B := by
  cases h with
  | nil => exact ⟨.nil, [], rfl, fun _ => rfl, Nat.zero_le _⟩
  | sl hl hB h0 h =>
    rename_i es
    obtain ⟨l, rfl, -⟩ := map_of (P := fun _ => True) (fun s : ByteArray => [T.str s]) es fun c hc => by
      have hc1 := h0 c hc
      match c, hc1 with
      | [a], _ => obtain ⟨s, rfl, _⟩ := hasS (h _ hc 0 .str a rfl rfl); exact ⟨s, rfl, trivial⟩
    exact ⟨.arg, l, rfl, fun h => (by cases h), by simpa using hB⟩
theorem hasVs {B : Nat} {t : T} (h : HasSh B (.sl [.str, .int .u64, .str, .sl [.str]]) t) : ∃ k l, t = .sl k (encVs l) ∧ l.length ≤ B ∧ ∀ v ∈ l, KOk v.kk v.keys ∧ v.keys.length ≤ B := by
  cases h with
  | nil => exact ⟨.nil, [], rfl, Nat.zero_le _, by simp⟩
  | sl hl hB h0 h =>
    rename_i es
    obtain ⟨l, rfl, hP⟩ := map_of (P := fun v : Ver => KOk v.kk v.keys ∧ v.keys.length ≤ B) encV es fun c hc => by
      have hc1 := h0 c hc
      match c, hc1 with
      | [a, b, c, d], _ =>
        obtain ⟨s, rfl, _⟩ := hasS (h _ hc 0 .str a rfl rfl)
        obtain ⟨n, rfl, _⟩ := hasU (h _ hc 1 (.int .u64) b rfl rfl)
        obtain ⟨s', rfl, _⟩ := hasS (h _ hc 2 .str c rfl rfl)
        obtain ⟨k, l, rfl, hk, hl⟩ := hasSs (h _ hc 3 (.sl [.str]) d rfl rfl)
        exact ⟨⟨s, n, s', k, l⟩, rfl, hk, hl⟩
    exact ⟨.arg, l, rfl, by simpa using hB, hP⟩
end Go.Proofs.Ytobnjpgggocdlaa.Fx
end

/-! text FixP -/
section
namespace Go.Proofs.Ytobnjpgggocdlaa.Fx
open Go.Rmp Go.Proofs.Ytobnjpgggocdlaa.Ir
set_option maxRecDepth 10000
theorem version27 (s : ByteArray) (n : Nat) (k : SK) (l : List ByteArray) (H : Heap) : W env (.call 27 [.str s, .int .u64 n, .sl k (encS l)]) H (RetG (.agg (encV ⟨s, n, if n = 0 then ⟨#[]⟩ else ⟨#[118]⟩, k, l⟩)) H) := by
  refine W.fnI rfl rfl rfl ?_
  have q1 : H.length < H.length + 1 := by omega
  by_cases h : n = 0
  · simp -implicitDefEqProofs only [ir27, op, ef, cl, sq, reduceIte, Int.reduceLT, Int.reduceLE, Int.reduceBEq, Int.reduceBNe, Int.reduceEq, Nat.reduceAdd, Nat.reduceLeDiff, Nat.reduceLT, Nat.reduceEqDiff, S1, S2, S3, q1, h, encV]
    exact ⟨rfl, (Ext.rfl'.app _).app _⟩
  · simp -implicitDefEqProofs only [ir27, op, ef, cl, sq, reduceIte, Int.reduceLT, Int.reduceLE, Int.reduceBEq, Int.reduceBNe, Int.reduceEq, Nat.reduceAdd, Nat.reduceLeDiff, Nat.reduceLT, Nat.reduceEqDiff, S1, S2, S3, q1, h, encV]
    exact ⟨rfl, (Ext.rfl'.app _).app _⟩
def tA : ByteArray := ⟨#[97]⟩
def tB : ByteArray := ⟨#[98]⟩
def tC : ByteArray := ⟨#[99]⟩
def v1 : Ver := ⟨tA, 65536, ⟨#[118]⟩, .arg, [tA, tB]⟩
def v2 : Ver := ⟨tB, 131072, ⟨#[118]⟩, .arg, [tB, tC]⟩
def v3 : Ver := ⟨tC, 0, ⟨#[]⟩, .arg, []⟩
def v4 : Ver := ⟨tC, 131072, ⟨#[118]⟩, .arg, [tB, tC]⟩
theorem ab : strLt tA tB = true := by simp [strLt, tA, tB, Go.ByteArray.toList_eq, Op.bytesLess]
theorem bc : strLt tB tC = true := by simp [strLt, tB, tC, Go.ByteArray.toList_eq, Op.bytesLess]
theorem nab : tA ≠ tB := by simp [tA, tB]
theorem nac : tA ≠ tC := by simp [tA, tC]
theorem nbc : tB ≠ tC := by simp [tB, tC]
theorem f_iff (l : List Ver) : Formed l ↔ 1 ≤ l.length ∧ l.length ≤ 1024 ∧ (∀ v ∈ l, may v = true) ∧ ∀ i k : Nat, ∀ u v, k < i → l[k]? = some u → l[i]? = some v → ok2 u v = true := by
  constructor
  · rintro ⟨h1, h2, h3⟩
    refine ⟨h1, h2, fun v hv => ?_, fun i k u v hki hu hv => ((h3 i (List.getElem?_eq_some_iff.1 hv).1) v hv).2 k u hki hu⟩
    obtain ⟨i, hi, e⟩ := List.getElem_of_mem hv
    exact ((h3 i hi) v (by rw [List.getElem?_eq_getElem hi, e])).1
  · rintro ⟨h1, h2, h3, h4⟩
    exact ⟨h1, h2, fun i hi v hv => ⟨h3 v (List.mem_of_getElem? hv), fun k u hk hu => h4 i k u v hk hu hv⟩⟩
theorem m1 : may v1 = true := by simp [may, v1, rises, ab, memB]
theorem m2 : may v2 = true := by simp [may, v2, rises, bc, memB]
theorem m3 : may v3 = true := by simp [may, v3]
theorem m4 : may v4 = true := by simp [may, v4, rises, bc, memB]
theorem f3 (x y z : Ver) (hx : may x = true) (hy : may y = true) (hz : may z = true) (h1 : ok2 x y = true) (h2 : ok2 x z = true) (h3 : ok2 y z = true) : Formed [x, y, z] := by
  rw [f_iff]
  refine ⟨by simp, by simp, by simp [hx, hy, hz], fun i k u v hki hu hv => ?_⟩
  match i, k, hki with
  | 0, k, h => omega
  | 1, 0, _ => simp at hu hv; subst hu; subst hv; exact h1
  | 2, 0, _ => simp at hu hv; subst hu; subst hv; exact h2
  | 2, 1, _ => simp at hu hv; subst hu; subst hv; exact h3
  | n + 3, _, _ => simp at hv
def kL : List Ver := [v1, v2, v3]
def kM : List Ver := [v1, v2, v4]
theorem fL : Formed kL := f3 _ _ _ m1 m2 m3 (by simp [ok2, v1, v2, nab]) (by simp [ok2, v1, v3, nac]) (by simp [ok2, v2, v3, nbc])
theorem fM : Formed kM := f3 _ _ _ m1 m2 m4 (by simp [ok2, v1, v2, nab]) (by simp [ok2, v1, v4, nac]) (by simp [ok2, v2, v4, nbc])
theorem f0 : ¬ Formed [] := fun h => by have := h.1; simp at this
theorem grA : gr kL tA = 65536 := by simp [gr, kL, v1, v2, v3, memB, nab, nac, nbc, nab.symm, nac.symm, nbc.symm]
theorem grB : gr kL tB = 131072 := by simp [gr, kL, v1, v2, v3, memB, nab, nac, nbc, nab.symm, nac.symm, nbc.symm]
theorem grC : gr kL tC = 131072 := by simp [gr, kL, v1, v2, v3, memB, nab, nac, nbc, nab.symm, nac.symm, nbc.symm]
theorem wL : wants kL = [(tC, 131072)] := by
  unfold wants wants'
  have a := grA; have b := grB; have c := grC
  simp -implicitDefEqProofs only [kL, v1, v2, v3] at a b c ⊢
  simp [List.filter_cons, a, b, c]
theorem wM : wants kM = [] := by
  rw [wants_nil]
  simp [kM, v1, v2, v4, memB, nab, nac, nbc, nab.symm, nac.symm, nbc.symm]
theorem needsL : needs kL = [(tC, 131072)] := by rw [needs, if_pos fL, wL]
theorem needsEL : needsE kL = 0 := by rw [needsE, if_pos fL]
theorem o1 (got : List Ver) : mendO kL got v1 = some v1 := by
  have a := grA
  simp [mendO, mendOne, v1, setK, a]
theorem o2 (got : List Ver) : mendO kL got v2 = some v2 := by
  have a := grB
  simp [mendO, mendOne, v2, setK, a]
theorem o3 (got : List Ver) : mendO kL got v3 = (gotOf got tC 131072).map (setK · .arg) := by
  have a := grC
  simp [mendO, mendOne, v3, a]
theorem ml4 : mendL kL [v4] = kM ∧ mendE kL [v4] = 0 := by
  have : mends (mendO kL [v4]) kL = some kM := by
    show mends (mendO kL [v4]) [v1, v2, v3] = _
    simp [mends, o1, o2, o3, gotOf, v4, setK, kM]
  simp [mendL, mendE, fL, this]
theorem ml0 : mendL kL [] = [] ∧ mendE kL [] = 110 := by
  have : mends (mendO kL []) kL = Option.none := by
    show mends (mendO kL []) [v1, v2, v3] = _
    simp [mends, o1, o2, o3, gotOf]
  simp [mendL, mendE, fL, this]
theorem cutL : cutB kL = false := by simp [cutB, wL]
theorem cutM : cutB kM = true := by simp [cutB, wM, formed_t fM]
theorem sL : Small kL := ⟨by simp [kL], by simp [kL, v1, v2, v3]⟩
theorem sM : Small kM := ⟨by simp [kM], by simp [kM, v1, v2, v4]⟩
theorem nL : NilOk kL := by simp [NilOk, kL, v1, v2, v3, KOk]
theorem n4 : NilOk [v4] := by simp [NilOk, v4, KOk]
theorem ev1 (k : SK) : encV ⟨⟨#[97]⟩, 65536, if (65536 : Nat) = 0 then ⟨#[]⟩ else ⟨#[118]⟩, k, [⟨#[97]⟩, ⟨#[98]⟩]⟩ = encV (setK v1 k) := rfl
theorem ev2 (k : SK) : encV ⟨⟨#[98]⟩, 131072, if (131072 : Nat) = 0 then ⟨#[]⟩ else ⟨#[118]⟩, k, [⟨#[98]⟩, ⟨#[99]⟩]⟩ = encV (setK v2 k) := rfl
theorem ev3 (k : SK) : encV ⟨⟨#[99]⟩, 0, if (0 : Nat) = 0 then ⟨#[]⟩ else ⟨#[118]⟩, k, []⟩ = encV (setK v3 k) := rfl
theorem ev4 (k : SK) : encV ⟨⟨#[99]⟩, 131072, if (131072 : Nat) = 0 then ⟨#[]⟩ else ⟨#[118]⟩, k, [⟨#[98]⟩, ⟨#[99]⟩]⟩ = encV (setK v4 k) := rfl
theorem known11 (H : Heap) : W env (.call 11 []) H (RetG (.bool true) H) := by
  refine W.fnI rfl rfl rfl ?_
  simp -implicitDefEqProofs only [ir11, op, ef, cl, sq, reduceIte, Int.reduceLT, Int.reduceLE, Int.reduceBEq, Int.reduceBNe, Int.reduceEq, Nat.reduceAdd, Nat.reduceLeDiff, Nat.reduceLT, Nat.reduceEqDiff, S1]
  refine callB_of _ _ _ _ _ _ _ _ (version27 ⟨#[97]⟩ 65536 .full [⟨#[97]⟩, ⟨#[98]⟩] _) ?_
  rintro u H1 ⟨hu, hx1⟩
  rw [ev1] at hu
  cases hu
  simp -implicitDefEqProofs only [op, ef, cl, sq, reduceIte, Int.reduceLT, Int.reduceLE, Int.reduceBEq, Int.reduceBNe, Int.reduceEq, Nat.reduceAdd, Nat.reduceLeDiff, Nat.reduceLT, Nat.reduceEqDiff, S1]
  refine callB_of _ _ _ _ _ _ _ _ (version27 ⟨#[98]⟩ 131072 .full [⟨#[98]⟩, ⟨#[99]⟩] _) ?_
  rintro u H2 ⟨hu, hx2⟩
  rw [ev2] at hu
  cases hu
  simp -implicitDefEqProofs only [op, ef, cl, sq, reduceIte, Int.reduceLT, Int.reduceLE, Int.reduceBEq, Int.reduceBNe, Int.reduceEq, Nat.reduceAdd, Nat.reduceLeDiff, Nat.reduceLT, Nat.reduceEqDiff, S1]
  refine callB_of _ _ _ _ _ _ _ _ (version27 ⟨#[99]⟩ 0 .nil [] _) ?_
  rintro u H3 ⟨hu, hx3⟩
  rw [ev3] at hu
  cases hu
  have hx : Ext H H3 := (Ext.trans hx1 hx2).trans hx3
  simp -implicitDefEqProofs only [op, ef, cl, sq, reduceIte, Int.reduceLT, Int.reduceLE, Int.reduceBEq, Int.reduceBNe, Int.reduceEq, Nat.reduceAdd, Nat.reduceLeDiff, Nat.reduceLT, Nat.reduceEqDiff, S1, encV, setK]
  refine callB_of _ _ _ _ _ _ _ _ (needs9 .full kL _ sL) ?_
  rintro u H4 ⟨hx4, kn, hu⟩
  rw [needsL, needsEL] at hu
  cases hu
  simp -implicitDefEqProofs only [op, ef, cl, sq, reduceIte, Int.reduceLT, Int.reduceLE, Int.reduceBEq, Int.reduceBNe, Int.reduceEq, Nat.reduceAdd, Nat.reduceLeDiff, Nat.reduceLT, Nat.reduceEqDiff, S1]
  refine callB_of _ _ _ _ _ _ _ _ (version27 ⟨#[99]⟩ 131072 .full [⟨#[98]⟩, ⟨#[99]⟩] _) ?_
  rintro u H5 ⟨hu, hx5⟩
  rw [ev4] at hu
  cases hu
  have hx5 : Ext H4 H5 := hx5
  simp -implicitDefEqProofs only [op, ef, cl, sq, reduceIte, Int.reduceLT, Int.reduceLE, Int.reduceBEq, Int.reduceBNe, Int.reduceEq, Nat.reduceAdd, Nat.reduceLeDiff, Nat.reduceLT, Nat.reduceEqDiff, S1, encV, setK]
  refine callB_of _ _ _ _ _ _ _ _ (mend16 .full .full kL [v4] _ sL nL n4 (by simp)) ?_
  rintro u H6 ⟨hx6, km, hu⟩
  rw [ml4.1, ml4.2] at hu
  cases hu
  simp -implicitDefEqProofs only [op, ef, cl, sq, reduceIte, Int.reduceLT, Int.reduceLE, Int.reduceBEq, Int.reduceBNe, Int.reduceEq, Nat.reduceAdd, Nat.reduceLeDiff, Nat.reduceLT, Nat.reduceEqDiff, S1]
  refine callB_of _ _ _ _ _ _ _ _ (mend16 .full .nil kL [] _ sL nL (by simp [NilOk]) (by simp)) ?_
  rintro u H7 ⟨hx7, km', hu⟩
  rw [ml0.1, ml0.2] at hu
  cases hu
  have hxx : Ext H H7 := (((hx.trans hx4).trans hx5).trans hx6).trans hx7
  have lM : (encVs kM).length = 3 := rfl
  have i0 : iadT 2 0 (.sl kn (encWs [(tC, 131072)])) = some (.iptr [.str tC, .int .u64 131072]) := rfl
  have e0 : eqCells [T.str tC, T.int .u64 131072] [T.str ⟨#[99]⟩, T.int .u64 131072] = some true := by
    have : strEq tC ⟨#[99]⟩ = true := by rw [strEq_eq]; rfl
    simp [eqCells, eqSc, this]
  have j2 : iadT 4 2 (.sl km (encVs kM)) = some (.iptr [.str tC, .int .u64 131072, .str ⟨#[118]⟩, .sl .arg (encS [tB, tC])]) := rfl
  have j1 : iadT 4 1 (.sl km (encVs kM)) = some (.iptr [.str tB, .int .u64 131072, .str ⟨#[118]⟩, .sl .arg (encS [tB, tC])]) := rfl
  have j0 : iadT 4 0 (.sl km (encVs kM)) = some (.iptr [.str tA, .int .u64 65536, .str ⟨#[118]⟩, .sl .arg (encS [tA, tB])]) := rfl
  have n0 : natOf (.int .i64 0) = some 0 := rfl
  have n1 : natOf (.int .i64 1) = some 1 := rfl
  have n2 : natOf (.int .i64 2) = some 2 := rfl
  have h0 : encVs [] = [] := rfl
  have hw : hasAll [Ty1.str, Ty1.int] [T.str tC, T.int .u64 131072] = true := rfl
  simp -implicitDefEqProofs only [op, ef, cl, sq, reduceIte, Int.reduceLT, Int.reduceLE, Int.reduceBEq, Int.reduceBNe, Int.reduceEq, Nat.reduceAdd, Nat.reduceLeDiff, Nat.reduceLT, Nat.reduceEqDiff, S1, encWs_len, lM, h0, i0, e0, n0, hw]
  refine callB_of _ _ _ _ _ _ _ _ (cut14 .full kL _ sL) ?_
  rintro u H8 ⟨hu, hx8⟩
  rw [cutL] at hu
  cases hu
  simp -implicitDefEqProofs only [op, ef, cl, sq, reduceIte, Int.reduceLT, Int.reduceLE, Int.reduceBEq, Int.reduceBNe, Int.reduceEq, Nat.reduceAdd, Nat.reduceLeDiff, Nat.reduceLT, Nat.reduceEqDiff, S1]
  refine callB_of _ _ _ _ _ _ _ _ (cut14 km kM _ sM) ?_
  rintro u H9 ⟨hu, hx9⟩
  rw [cutM] at hu
  cases hu
  simp -implicitDefEqProofs only [op, ef, cl, sq, reduceIte, Int.reduceLT, Int.reduceLE, Int.reduceBEq, Int.reduceBNe, Int.reduceEq, Nat.reduceAdd, Nat.reduceLeDiff, Nat.reduceLT, Nat.reduceEqDiff, S1]
  refine callB_of _ _ _ _ _ _ _ _ (formed12 .full kL _ sL) ?_
  rintro u H10 ⟨hu, hx10⟩
  rw [formed_t fL] at hu
  cases hu
  simp -implicitDefEqProofs only [op, ef, cl, sq, reduceIte, Int.reduceLT, Int.reduceLE, Int.reduceBEq, Int.reduceBNe, Int.reduceEq, Nat.reduceAdd, Nat.reduceLeDiff, Nat.reduceLT, Nat.reduceEqDiff, S1]
  refine callB_of _ _ _ _ _ _ _ _ (formed12 .nil [] _ ⟨by simp, by simp⟩) ?_
  rintro u H11 ⟨hu, hx11⟩
  rw [formed_f f0] at hu
  cases hu
  simp -implicitDefEqProofs only [op, ef, cl, sq, reduceIte, Int.reduceLT, Int.reduceLE, Int.reduceBEq, Int.reduceBNe, Int.reduceEq, Nat.reduceAdd, Nat.reduceLeDiff, Nat.reduceLT, Nat.reduceEqDiff, S1, n0, n1, n2, j0, j1, j2, retg_ext ((((hxx.trans hx8).trans hx9).trans hx10).trans hx11)]
end Go.Proofs.Ytobnjpgggocdlaa.Fx
end

/-! text FixQ -/
section
namespace Go.Proofs.Ytobnjpgggocdlaa.Fx
open Go.Rmp Go.Proofs.Ytobnjpgggocdlaa.Ir
set_option maxRecDepth 10000
/-- of a law: true is told -/
def Tru : Out → Heap → Prop := fun o _ => o = .val (.bool true)
theorem tru_val (v : T) (H : Heap) : Tru (.val v) H = (v = .bool true) := by simp [Tru]
theorem asks3 (k : SK) (l : List Ver) (H : Heap) (hs : Small l) : W env (.call 3 [.sl k (encVs l)]) H Tru := by
  refine W.fnI rfl rfl rfl ?_
  simp -implicitDefEqProofs only [ir3, op, ef, cl, sq, reduceIte, Int.reduceLT, Int.reduceLE, Int.reduceBEq, Int.reduceBNe, Int.reduceEq, Nat.reduceAdd, Nat.reduceLeDiff, Nat.reduceLT, Nat.reduceEqDiff, S1]
  refine callB_of _ _ _ _ _ _ _ _ (needs9 k l _ hs) ?_
  rintro u H1 ⟨hx1, kn, hu⟩
  cases hu
  simp -implicitDefEqProofs only [op, ef, cl, sq, reduceIte, Int.reduceLT, Int.reduceLE, Int.reduceBEq, Int.reduceBNe, Int.reduceEq, Nat.reduceAdd, Nat.reduceLeDiff, Nat.reduceLT, Nat.reduceEqDiff, S1]
  refine callB_of _ _ _ _ _ _ _ _ (needs10 k l _ hs) ?_
  rintro u H2 ⟨hx2, kn', hu⟩
  cases hu
  simp -implicitDefEqProofs only [op, ef, cl, sq, reduceIte, Int.reduceLT, Int.reduceLE, Int.reduceBEq, Int.reduceBNe, Int.reduceEq, Nat.reduceAdd, Nat.reduceLeDiff, Nat.reduceLT, Nat.reduceEqDiff, S1]
  refine callB_of _ _ _ _ _ _ _ _ (known11 _) ?_
  rintro u H3 ⟨hu, hx3⟩
  cases hu
  simp -implicitDefEqProofs only [op, ef, cl, sq, reduceIte, Int.reduceLT, Int.reduceLE, Int.reduceBEq, Int.reduceBNe, Int.reduceEq, Nat.reduceAdd, Nat.reduceLeDiff, Nat.reduceLT, Nat.reduceEqDiff, S1]
  refine callB_of _ _ _ _ _ _ _ _ (formed12 k l _ hs) ?_
  rintro u H4 ⟨hu, hx4⟩
  cases hu
  simp -implicitDefEqProofs only [op, ef, cl, sq, reduceIte, Int.reduceLT, Int.reduceLE, Int.reduceBEq, Int.reduceBNe, Int.reduceEq, Nat.reduceAdd, Nat.reduceLeDiff, Nat.reduceLT, Nat.reduceEqDiff, S1]
  refine callB_of _ _ _ _ _ _ _ _ (formed13 k l _ hs) ?_
  rintro u H5 ⟨hu, hx5⟩
  cases hu
  simp -implicitDefEqProofs only [op, ef, cl, sq, reduceIte, Int.reduceLT, Int.reduceLE, Int.reduceBEq, Int.reduceBNe, Int.reduceEq, Nat.reduceAdd, Nat.reduceLeDiff, Nat.reduceLT, Nat.reduceEqDiff, S1]
  refine callB_of _ _ _ _ _ _ _ _ (cut14 k l _ hs) ?_
  rintro u H6 ⟨hu, hx6⟩
  cases hu
  simp -implicitDefEqProofs only [op, ef, cl, sq, reduceIte, Int.reduceLT, Int.reduceLE, Int.reduceBEq, Int.reduceBNe, Int.reduceEq, Nat.reduceAdd, Nat.reduceLeDiff, Nat.reduceLT, Nat.reduceEqDiff, S1]
  refine callB_of _ _ _ _ _ _ _ _ (cut15 k l _ hs) ?_
  rintro u H7 ⟨hu, hx7⟩
  cases hu
  simp -implicitDefEqProofs only [op, ef, cl, sq, reduceIte, Int.reduceLT, Int.reduceLE, Int.reduceBEq, Int.reduceBNe, Int.reduceEq, Nat.reduceAdd, Nat.reduceLeDiff, Nat.reduceLT, Nat.reduceEqDiff, S1]
  have hnl : (needs l).length ≤ l.length := by
    unfold needs; split
    · exact wants_le l l
    · exact Nat.zero_le _
  have hsl := hs.1
  refine W.loopI (fun (i : Nat) R H' => R 3 = .sl kn (encWs (needs l)) ∧ R 5 = .sl kn' (encWs (needs l)) ∧ R 7 = .int .i64 i ∧ i ≤ (needs l).length) (fun i => (needs l).length - i) 0 ⟨rfl, rfl, rfl, Nat.zero_le _⟩ ?_
  rintro i R H8 ⟨h3, h5, h7, hi⟩
  by_cases hlt : i < (needs l).length
  · obtain ⟨w, hw⟩ : ∃ w, (needs l)[i]? = some w := ⟨(needs l)[i], List.getElem?_eq_getElem hlt⟩
    have wsi := wrap_succ (show i < 9223372036854775807 by omega)
    have iw : iadT 2 i (.sl kn (encWs (needs l))) = some (.iptr [.str w.1, .int .u64 w.2]) := iad_map (enc := encW) hw rfl (by decide)
    have iw' : iadT 2 i (.sl kn' (encWs (needs l))) = some (.iptr [.str w.1, .int .u64 w.2]) := iad_map (enc := encW) hw rfl (by decide)
    have e0 : eqCells [T.str w.1, T.int .u64 w.2] [T.str w.1, T.int .u64 w.2] = some true := by simp [eqCells, eqSc, strEq_eq]
    have hh : hasAll [Ty1.str, Ty1.int] [T.str w.1, T.int .u64 w.2] = true := rfl
    simp -implicitDefEqProofs only [op, ef, cl, sq, reduceIte, Int.reduceLT, Int.reduceLE, Int.reduceBEq, Int.reduceBNe, Int.reduceEq, Nat.reduceAdd, Nat.reduceLeDiff, Nat.reduceLT, Nat.reduceEqDiff, S1, h3, h5, h7, encWs_len, hlt, iw, iw', e0, hh, wsi]
    exact ⟨i + 1, by omega, rfl, by omega⟩
  · simp -implicitDefEqProofs only [op, ef, cl, sq, reduceIte, Int.reduceLT, Int.reduceLE, Int.reduceBEq, Int.reduceBNe, Int.reduceEq, Nat.reduceAdd, Nat.reduceLeDiff, Nat.reduceLT, Nat.reduceEqDiff, S1, h3, h5, h7, encWs_len, hlt, tru_val]
theorem mends_mem (f : Ver → Option Ver) : ∀ {m out : List Ver}, mends f m = some out → ∀ v ∈ out, ∃ u ∈ m, f u = some v
  | [], out, h, v, hv => by simp -implicitDefEqProofs only [mends, Option.some.injEq] at h; subst h; cases hv
  | x :: m, out, h, v, hv => by
    simp -implicitDefEqProofs only [mends] at h
    cases h1 : f x with
    | none => rw [h1] at h; simp at h
    | some a =>
      cases h2 : mends f m with
      | none => rw [h1, h2] at h; simp at h
      | some b =>
        rw [h1, h2] at h; simp -implicitDefEqProofs only [Option.some.injEq] at h; subst h
        rcases List.mem_cons.1 hv with rfl | hv
        · exact ⟨x, by simp, h1⟩
        · obtain ⟨u, hu, hf⟩ := mends_mem f h2 v hv; exact ⟨u, by simp [hu], hf⟩
theorem mendO_from {l got : List Ver} {u v : Ver} (hu : u ∈ l) (h : mendO l got u = some v) : ∃ x, (x ∈ l ∨ x ∈ got) ∧ v = setK x .arg := by
  unfold mendO mendOne at h
  split at h
  · cases hg : gotOf got u.key (gr l u.key) with
    | none => rw [hg] at h; simp at h
    | some x => rw [hg] at h; simp at h; exact ⟨x, .inr (List.mem_of_find?_eq_some hg), h.symm⟩
  · simp at h; exact ⟨u, .inl hu, h.symm⟩
theorem mendL_ok {l got : List Ver} (hn : NilOk l) (hng : NilOk got) : (mendL l got).length ≤ l.length ∧ NilOk (mendL l got) := by
  unfold mendL; split
  · cases h : mends (mendO l got) l with
    | none => exact ⟨Nat.zero_le _, by simp [NilOk]⟩
    | some out =>
      refine ⟨Nat.le_of_eq (mends_len _ h), fun v hv => ?_⟩
      obtain ⟨u, hu, hf⟩ := mends_mem _ h v hv
      obtain ⟨x, hx, rfl⟩ := mendO_from hu hf
      refine ⟨fun h => by simp [setK] at h, ?_⟩
      rcases hx with hx | hx
      · exact (hn x hx).2
      · exact (hng x hx).2
  · exact ⟨Nat.zero_le _, by simp [NilOk]⟩
theorem mends4 (k k' : SK) (l got : List Ver) (H : Heap) (hs : Small l) (hn : NilOk l) (hng : NilOk got) (hgl : got.length < 4611686018427387903) : W env (.call 4 [.sl k (encVs l), .sl k' (encVs got)]) H Tru := by
  refine W.fnI rfl rfl rfl ?_
  simp -implicitDefEqProofs only [ir4, op, ef, cl, sq, reduceIte, Int.reduceLT, Int.reduceLE, Int.reduceBEq, Int.reduceBNe, Int.reduceEq, Nat.reduceAdd, Nat.reduceLeDiff, Nat.reduceLT, Nat.reduceEqDiff, S1]
  refine callB_of _ _ _ _ _ _ _ _ (mend16 k k' l got _ hs hn hng hgl) ?_
  rintro u H1 ⟨hx1, kn, hu⟩
  cases hu
  simp -implicitDefEqProofs only [op, ef, cl, sq, reduceIte, Int.reduceLT, Int.reduceLE, Int.reduceBEq, Int.reduceBNe, Int.reduceEq, Nat.reduceAdd, Nat.reduceLeDiff, Nat.reduceLT, Nat.reduceEqDiff, S1]
  refine callB_of _ _ _ _ _ _ _ _ (mend17 k k' l got _ hs hn hng hgl) ?_
  rintro u H2 ⟨hx2, kn', hu⟩
  cases hu
  simp -implicitDefEqProofs only [op, ef, cl, sq, reduceIte, Int.reduceLT, Int.reduceLE, Int.reduceBEq, Int.reduceBNe, Int.reduceEq, Nat.reduceAdd, Nat.reduceLeDiff, Nat.reduceLT, Nat.reduceEqDiff, S1]
  refine callB_of _ _ _ _ _ _ _ _ (known11 _) ?_
  rintro u H3 ⟨hu, hx3⟩
  cases hu
  simp -implicitDefEqProofs only [op, ef, cl, sq, reduceIte, Int.reduceLT, Int.reduceLE, Int.reduceBEq, Int.reduceBNe, Int.reduceEq, Nat.reduceAdd, Nat.reduceLeDiff, Nat.reduceLT, Nat.reduceEqDiff, S1]
  have hok := mendL_ok hn hng
  have hsl := hs.1
  refine callB_of _ _ _ _ _ _ _ _ (same18 kn kn' _ _ _ (by omega) (fun v hv => by have := (hok.2 v hv).2; omega)) ?_
  rintro u H4 ⟨hu, rfl⟩
  cases hu
  simp -implicitDefEqProofs only [op, ef, cl, sq, reduceIte, Int.reduceLT, Int.reduceLE, Int.reduceBEq, Int.reduceBNe, Int.reduceEq, Nat.reduceAdd, Nat.reduceLeDiff, Nat.reduceLT, Nat.reduceEqDiff, S1, tru_val, same_t (show Same (mendL l got) (mendL l got) from rfl)]
end Go.Proofs.Ytobnjpgggocdlaa.Fx
end

/-! text FixR -/
section
namespace Go.Proofs.Ytobnjpgggocdlaa
open Go.ChangeShapes Go.WideShapes Go.ChangeAt Go.RowKit
namespace Law
theorem own : ownKnob Try.prog.godebug = none := by kernel_rfl
theorem kids : Kids Try.prog (· < Try.prog.types.size) := kids_rows (by kernel_rfl) (by kernel_rfl)
noncomputable def hzB : Bool := (List.range Try.prog.types.size).all fun t => match Try.prog.underlying t with
  | some (.slice e) => decide (0 < Try.prog.cellsOf e)
  | _ => true
theorem hzB_ok : hzB = true := by kernel_rfl
theorem hz : ∀ t e, t < Try.prog.types.size → Try.prog.underlying t = some (.slice e) → 0 < Try.prog.cellsOf e := fun t e ht h => by
  have := (List.all_eq_true.1 hzB_ok) t (List.mem_range.2 ht)
  rw [h] at this
  simpa using this
mutual
theorem bulk_eq {H : Type} : ∀ d : DataW H, Go.Rmp.bulkW d = Rows.uptoBulk d
  | .lit l => by cases l <;> simp [Go.Rmp.bulkW, Rows.uptoBulk]
  | .nil => by simp [Go.Rmp.bulkW, Rows.uptoBulk]
  | .ptr d => by simp [Go.Rmp.bulkW, Rows.uptoBulk, bulk_eq d]
  | .slice elems spare => by simp [Go.Rmp.bulkW, Rows.uptoBulk, bulks_eq elems, bulks_eq spare]
  | .agg parts => by simp [Go.Rmp.bulkW, Rows.uptoBulk, bulks_eq parts]
  | .iface _ d => by simp [Go.Rmp.bulkW, Rows.uptoBulk, bulk_eq d]
  | .map entries => by simp [Go.Rmp.bulkW, Rows.uptoBulk, bulkE_eq entries]
  | .held _ => by simp [Go.Rmp.bulkW, Rows.uptoBulk]
theorem bulks_eq {H : Type} : ∀ l : List (DataW H), Go.Rmp.bulkAllW l = Rows.uptoBulkAll l
  | [] => by simp [Go.Rmp.bulkAllW, Rows.uptoBulkAll]
  | d :: r => by simp [Go.Rmp.bulkAllW, Rows.uptoBulkAll, bulk_eq d, bulks_eq r]
theorem bulkE_eq {H : Type} : ∀ l : List (Lit × DataW H), Go.Rmp.bulkEntriesW l = Rows.uptoBulkEntries l
  | [] => by simp [Go.Rmp.bulkEntriesW, Rows.uptoBulkEntries]
  | x :: r => by simp [Go.Rmp.bulkEntriesW, Rows.uptoBulkEntries, bulkEn_eq x, bulkE_eq r]
theorem bulkEn_eq {H : Type} : ∀ x : Lit × DataW H, Go.Rmp.bulkEntryW x = Rows.uptoBulkEntry x
  | (l, d) => by cases l <;> simp [Go.Rmp.bulkEntryW, Rows.uptoBulkEntry, bulk_eq d]
end
theorem bulk_ok {H : Type} {ds : List (DataW H)} (h : Rows.uptoSmall H ds = true) : Go.Rmp.bulkAllW ds ≤ 1048576 := by
  rw [bulks_eq]; simpa [Rows.uptoSmall] using h
/-! the rows -/
theorem fixAsks_w (as' : List Go.Rmp.T) (hs : Go.Rmp.HasShs 1048576 [Go.Rmp.Sh.sl [.str, .int .u64, .str, .sl [.str]]] as') : Go.Rmp.W Ir.env (.call 3 as') [] (fun o _ => o = .val (.bool true)) := by
  cases hs with | cons h hs =>
  cases hs
  obtain ⟨k, l, rfl, hl, hv⟩ := Fx.hasVs h
  exact Fx.asks3 k l [] ⟨by omega, fun v hm => by have := (hv v hm).2; omega⟩

theorem fixAsks_fn (H : Type) : ∀ ds : List (DataW H), ds.length = Try.f3.params.toList.length → Rows.fixAsksSpec.fn H ds = { results := [.lit (.bool true)], args := ds } := by
  have hn : Try.f3.params.toList.length = 1 := by kernel_rfl
  rw [hn]
  intro ds hds
  cases ds with | nil => simp at hds | cons d0 ds =>
  cases ds with | cons => simp at hds | nil =>
  rfl
set_option maxRecDepth 100000 in
theorem fixAsks_lifted (os : Os) (started : os.Started) (H : Type) (enc : TypeId × Value → H) (F : Stop.Interp) :
    ReturnsInHanded {} Try.checked os 3 .any ((Rows.OpenSpec.upto Rows.fixAsksSpec).pre6 enc Try.prog Try.f3 Rows.fixAsksUptoRow.domain false) (((Rows.OpenSpec.upto Rows.fixAsksSpec).at F).post enc Try.prog Try.f3 false true false false) := by
  refine returnsInHanded_of_cond (C := Try.checked) (s := Rows.OpenSpec.upto Rows.fixAsksSpec) (k := Rows.uptoSmall) rfl own started (by kernel_rfl) Try.func3
    (OpenSpec.witness (enc := enc) (C := Try.checked) (s := Rows.OpenSpec.upto Rows.fixAsksSpec) (k := Rows.uptoSmall) rfl false ⟨#[], #[.slice .none 0 0], []⟩ 8 (by kernel_rfl) (by kernel_rfl) (by kernel_rfl)
      (x := ([.nil], [], [])) (by kernel_rfl) rfl (by kernel_rfl)) ?_
  intro W base args ds gs before hval hW _ hk _
  exact Go.Rmp.law_contract (s := Rows.fixAsksSpec) (shs := [Go.Rmp.Sh.sl [.str, .int .u64, .str, .sl [.str]]]) (B := 1048576) (tb := Try.f3.resultTypes[0]!) Ir.envOk kids hz (by kernel_rfl) (by intro t ht; exact of_decide_eq_true ((List.all_eq_true.1 (show Try.f3.params.toList.all (fun t => decide (t < Try.prog.types.size)) = true by kernel_rfl)) t ht)) (by kernel_rfl) (by kernel_rfl) rfl (fixAsks_fn H) fixAsks_w base args ds gs before hval hW (bulk_ok hk)
theorem fixAsks_over : Rows.fixAsksUptoRow.holds Try.pinned (Rows.OpenSpec.upto Rows.fixAsksSpec) :=
  OpenClaim.holds_of_cond 3 Try.f3 rfl rfl rfl rfl rfl rfl rfl ⟨rfl, rfl, rfl, rfl, rfl⟩ rfl rfl rfl rfl rfl (by kernel_rfl) Try.func3 (by kernel_rfl)
    (of_decide_eq_true (by kernel_rfl)) (by unfold Func.isWrapper; first | (rw [if_pos (by decide +kernel)]; kernel_rfl) | (rw [if_neg (by decide +kernel)]; exact ⟨rfl, rfl⟩))
    (fun os started H enc _ F => fixAsks_lifted os started H enc F)
theorem fixAsks_proved : Rows.FixAsksUptoSaid := fixAsks_over
theorem fixMends_w (as' : List Go.Rmp.T) (hs : Go.Rmp.HasShs 1048576 [Go.Rmp.Sh.sl [.str, .int .u64, .str, .sl [.str]], .sl [.str, .int .u64, .str, .sl [.str]]] as') : Go.Rmp.W Ir.env (.call 4 as') [] (fun o _ => o = .val (.bool true)) := by
  cases hs with | cons h hs =>
  cases hs with | cons h' hs =>
  cases hs
  obtain ⟨k, l, rfl, hl, hv⟩ := Fx.hasVs h
  obtain ⟨k', l', rfl, hl', hv'⟩ := Fx.hasVs h'
  exact Fx.mends4 k k' l l' [] ⟨by omega, fun v hm => by have := (hv v hm).2; omega⟩ (fun v hm => ⟨(hv v hm).1, by have := (hv v hm).2; omega⟩) (fun v hm => ⟨(hv' v hm).1, by have := (hv' v hm).2; omega⟩) (by omega)

theorem fixMends_fn (H : Type) : ∀ ds : List (DataW H), ds.length = Try.f4.params.toList.length → Rows.fixMendsSpec.fn H ds = { results := [.lit (.bool true)], args := ds } := by
  have hn : Try.f4.params.toList.length = 2 := by kernel_rfl
  rw [hn]
  intro ds hds
  cases ds with | nil => simp at hds | cons d0 ds =>
  cases ds with | nil => simp at hds | cons d1 ds =>
  cases ds with | cons => simp at hds | nil =>
  rfl
set_option maxRecDepth 100000 in
theorem fixMends_lifted (os : Os) (started : os.Started) (H : Type) (enc : TypeId × Value → H) (F : Stop.Interp) :
    ReturnsInHanded {} Try.checked os 4 .any ((Rows.OpenSpec.upto Rows.fixMendsSpec).pre6 enc Try.prog Try.f4 Rows.fixMendsUptoRow.domain false) (((Rows.OpenSpec.upto Rows.fixMendsSpec).at F).post enc Try.prog Try.f4 false true false false) := by
  refine returnsInHanded_of_cond (C := Try.checked) (s := Rows.OpenSpec.upto Rows.fixMendsSpec) (k := Rows.uptoSmall) rfl own started (by kernel_rfl) Try.func4
    (OpenSpec.witness (enc := enc) (C := Try.checked) (s := Rows.OpenSpec.upto Rows.fixMendsSpec) (k := Rows.uptoSmall) rfl false ⟨#[], #[.slice .none 0 0, .slice .none 0 0], []⟩ 8 (by kernel_rfl) (by kernel_rfl) (by kernel_rfl)
      (x := ([.nil, .nil], [], [])) (by kernel_rfl) rfl (by kernel_rfl)) ?_
  intro W base args ds gs before hval hW _ hk _
  exact Go.Rmp.law_contract (s := Rows.fixMendsSpec) (shs := [Go.Rmp.Sh.sl [.str, .int .u64, .str, .sl [.str]], .sl [.str, .int .u64, .str, .sl [.str]]]) (B := 1048576) (tb := Try.f4.resultTypes[0]!) Ir.envOk kids hz (by kernel_rfl) (by intro t ht; exact of_decide_eq_true ((List.all_eq_true.1 (show Try.f4.params.toList.all (fun t => decide (t < Try.prog.types.size)) = true by kernel_rfl)) t ht)) (by kernel_rfl) (by kernel_rfl) rfl (fixMends_fn H) fixMends_w base args ds gs before hval hW (bulk_ok hk)
theorem fixMends_over : Rows.fixMendsUptoRow.holds Try.pinned (Rows.OpenSpec.upto Rows.fixMendsSpec) :=
  OpenClaim.holds_of_cond 4 Try.f4 rfl rfl rfl rfl rfl rfl rfl ⟨rfl, rfl, rfl, rfl, rfl⟩ rfl rfl rfl rfl rfl (by kernel_rfl) Try.func4 (by kernel_rfl)
    (of_decide_eq_true (by kernel_rfl)) (by unfold Func.isWrapper; first | (rw [if_pos (by decide +kernel)]; kernel_rfl) | (rw [if_neg (by decide +kernel)]; exact ⟨rfl, rfl⟩))
    (fun os started H enc _ F => fixMends_lifted os started H enc F)
theorem fixMends_proved : Rows.FixMendsUptoSaid := fixMends_over
end Law
end Go.Proofs.Ytobnjpgggocdlaa
end

/-! text FixS -/
section
namespace Go.Proofs.Ytobnjpgggocdlaa.Fx
open Go.Rmp Go.Proofs.Ytobnjpgggocdlaa.Ir
set_option maxRecDepth 10000
/-! the worlds of the statements: keys, writes, what a read brings -/
def keyT (i : Nat) : ByteArray := ⟨#[UInt8.ofNat (97 + i)]⟩
def bit (m : Int) (i : Nat) : Bool := IntKind.i64.wrap ((BitVec.ofInt IntKind.i64.bits (m.fdiv (2 ^ (min (i : Int).toNat IntKind.i64.bits))) &&& BitVec.ofInt IntKind.i64.bits 1).toNat : Nat) == 1
def keysN (m : Int) (n : Nat) : List ByteArray := ((List.range n).filter (bit m)).map keyT
def keysOf (m : Int) : List ByteArray := if keysN m 8 = [] then [keyT 0] else keysN m 8
theorem keysN_succ (m : Int) (n : Nat) : keysN m (n + 1) = if bit m n then keysN m n ++ [keyT n] else keysN m n := by
  unfold keysN; rw [List.range_succ, List.filter_append, List.map_append]
  cases h : bit m n <;> simp [List.filter_cons, h]
theorem keyT_lt {i j : Nat} (h : i < j) (hj : j < 8) : strLt (keyT i) (keyT j) = true := by
  have hi : i < 8 := by omega
  simp -implicitDefEqProofs only [strLt, keyT, Go.ByteArray.toList_eq, Op.bytesLess, Bool.or_eq_true, decide_eq_true_eq]
  left
  rw [UInt8.lt_iff_toNat_lt]
  simp -implicitDefEqProofs only [UInt8.toNat_ofNat']
  omega
theorem rises_pw : ∀ {l : List ByteArray}, l.Pairwise (fun a b => strLt a b = true) → rises l = true
  | [], _ => rfl
  | [_], _ => rfl
  | a :: b :: l, h => by
    rw [List.pairwise_cons] at h
    simp -implicitDefEqProofs only [rises, h.1 b (by simp), rises_pw h.2, Bool.and_self]
theorem keysN_rises (m : Int) (n : Nat) (hn : n ≤ 8) : (keysN m n).Pairwise (fun a b => strLt a b = true) := by
  unfold keysN
  rw [List.pairwise_map]
  have h1 : (List.range n).Pairwise (fun i j => i < j) := List.pairwise_lt_range
  refine (h1.filter _).imp_of_mem ?_
  intro i j hi hj h
  exact keyT_lt h (by have := List.mem_range.1 (List.mem_filter.1 hj).1; omega)
theorem keysOf_rises (m : Int) : rises (keysOf m) = true := by
  unfold keysOf; split
  · rfl
  · exact rises_pw (keysN_rises m 8 (Nat.le_refl _))
theorem keysN_len (m : Int) (n : Nat) : (keysN m n).length ≤ n := by
  unfold keysN; rw [List.length_map]; have := List.length_filter_le (bit m) (List.range n); simpa using this
theorem keysOf_len (m : Int) : 1 ≤ (keysOf m).length ∧ (keysOf m).length ≤ 8 := by
  unfold keysOf; split
  · simp
  · rename_i h
    exact ⟨List.length_pos_iff.2 h, keysN_len m 8⟩
theorem keysOf_nodup (m : Int) : (keysOf m).Nodup := by
  unfold keysOf; split
  · simp
  · exact (keysN_rises m 8 (Nat.le_refl _)).imp fun h e => by rw [e, lt_irr] at h; cases h
def mk (m : Int) (w : Nat) (k : ByteArray) : Ver := ⟨k, 65536 * (w + 1), k ++ ⟨#[UInt8.ofNat w]⟩, .arg, keysOf m⟩
def bot (k : ByteArray) : Ver := ⟨k, 0, ⟨#[]⟩, .nil, []⟩
def botA (k : ByteArray) : Ver := ⟨k, 0, ⟨#[]⟩, .arg, []⟩
def someW (masks : List Int) (k : ByteArray) (j : Nat) : List Ver := (List.range j).filterMap fun w => match masks[w]? with
  | some m => if memB (keysOf m) k then some (mk m w k) else .none
  | .none => .none
theorem someW_succ {masks : List Int} {k : ByteArray} {j : Nat} {m : Int} (h : masks[j]? = some m) : someW masks k (j + 1) = if memB (keysOf m) k then someW masks k j ++ [mk m j k] else someW masks k j := by
  unfold someW; rw [List.range_succ, List.filterMap_append]
  cases hm : memB (keysOf m) k <;> simp [h, hm]
theorem someW_mem {masks : List Int} {k : ByteArray} {j : Nat} {v : Ver} (h : v ∈ someW masks k j) : ∃ (w : Nat) (m : Int), masks[w]? = some m ∧ memB (keysOf m) k = true ∧ v = mk m w k := by
  unfold someW at h
  obtain ⟨w, _, h⟩ := List.mem_filterMap.1 h
  cases hm : masks[w]? with
  | none => simp [hm] at h
  | some m =>
    rw [hm] at h
    simp only at h
    split at h
    · rename_i hk; exact ⟨w, m, hm, hk, (Option.some.inj h).symm⟩
    · cases h
theorem someW_len (masks : List Int) (k : ByteArray) (j : Nat) : (someW masks k j).length ≤ j := by
  unfold someW
  have := List.length_filterMap_le (fun w => match masks[w]? with
  | some m => if memB (keysOf m) k then some (mk m w k) else .none
  | .none => .none) (List.range j)
  simpa using this
def restI (n : Int) (most : Nat) : Nat := (n % ((most : Int) + 1)).toNat
theorem restI_le (n : Int) (most : Nat) : restI n most ≤ most := by
  unfold restI
  have h1 := Int.emod_nonneg n (show (most : Int) + 1 ≠ 0 by omega)
  have h2 := Int.emod_lt_of_pos n (show 0 < (most : Int) + 1 by omega)
  omega
def bKey (read turn : Int) (i : Nat) : ByteArray := (keysOf read).getD ((i + restI turn ((keysOf read).length - 1)) % (keysOf read).length) ⟨#[]⟩
def bAll (masks : List Int) (k : ByteArray) : List Ver := botA k :: someW masks k masks.length
def bOne (masks : List Int) (read turn : Int) (picks : List Int) (i : Nat) : Ver := (bAll masks (bKey read turn i)).getD (restI (picks.getD i 0) ((bAll masks (bKey read turn i)).length - 1)) (botA ⟨#[]⟩)
def brought (masks : List Int) (read turn : Int) (picks : List Int) (n : Nat) : List Ver := (List.range n).map (bOne masks read turn picks)
theorem brought_succ (masks : List Int) (read turn : Int) (picks : List Int) (n : Nat) : brought masks read turn picks (n + 1) = brought masks read turn picks n ++ [bOne masks read turn picks n] := by simp [brought, List.range_succ]
/-- a version as a read may have brought it -/
def IsV (masks : List Int) (v : Ver) : Prop := v = botA v.key ∨ ∃ (w : Nat) (m : Int), masks[w]? = some m ∧ memB (keysOf m) v.key = true ∧ v = mk m w v.key
def IsB (masks : List Int) (l : List Ver) : Prop := 1 ≤ l.length ∧ l.length ≤ 8 ∧ (∀ v ∈ l, IsV masks v) ∧ (l.map Ver.key).Nodup
theorem bAll_is (masks : List Int) (k : ByteArray) {v : Ver} (h : v ∈ bAll masks k) : v.key = k ∧ IsV masks v := by
  unfold bAll at h
  rcases List.mem_cons.1 h with rfl | h
  · exact ⟨rfl, .inl rfl⟩
  · obtain ⟨w, m, h1, h2, rfl⟩ := someW_mem h
    exact ⟨rfl, .inr ⟨w, m, h1, h2, rfl⟩⟩
theorem bOne_is (masks : List Int) (read turn : Int) (picks : List Int) (i : Nat) : (bOne masks read turn picks i).key = bKey read turn i ∧ IsV masks (bOne masks read turn picks i) := by
  unfold bOne
  have hl : restI (picks.getD i 0) ((bAll masks (bKey read turn i)).length - 1) < (bAll masks (bKey read turn i)).length := by
    have := restI_le (picks.getD i 0) ((bAll masks (bKey read turn i)).length - 1)
    have h1 : 0 < (bAll masks (bKey read turn i)).length := by simp [bAll]
    omega
  rw [List.getD_eq_getElem?_getD, List.getElem?_eq_getElem hl]
  exact bAll_is _ _ (List.getElem_mem hl)
theorem mod_inj {n r i j : Nat} (hi : i < n) (hj : j < n) (hij : i < j) (h : (i + r) % n = (j + r) % n) : False := by
  have a1 := Nat.div_add_mod (i + r) n
  have a2 := Nat.div_add_mod (j + r) n
  rw [h] at a1
  have a3 : n * ((j + r) / n) - n * ((i + r) / n) = j - i := by omega
  rw [← Nat.mul_sub] at a3
  have a4 : (j + r) / n - (i + r) / n ≠ 0 := fun h => by rw [h] at a3; omega
  have a5 : n * 1 ≤ n * ((j + r) / n - (i + r) / n) := Nat.mul_le_mul_left n (by omega)
  omega
theorem brought_is (masks : List Int) (read turn : Int) (picks : List Int) : IsB masks (brought masks read turn picks (keysOf read).length) := by
  have hk := keysOf_len read
  refine ⟨by simp [brought]; omega, by simp [brought]; omega, fun v hv => ?_, ?_⟩
  · obtain ⟨i, _, rfl⟩ := List.mem_map.1 hv
    exact (bOne_is _ _ _ _ i).2
  · have e : (brought masks read turn picks (keysOf read).length).map Ver.key = (List.range (keysOf read).length).map (bKey read turn) := by
      unfold brought; rw [List.map_map]
      exact List.map_congr_left fun i _ => (bOne_is masks read turn picks i).1
    rw [e, List.Nodup, List.pairwise_map]
    refine List.pairwise_lt_range.imp_of_mem fun {i j} hi hj hij => ?_
    have hi := List.mem_range.1 hi
    have hj := List.mem_range.1 hj
    unfold bKey
    generalize restI turn ((keysOf read).length - 1) = r
    have h1 : (i + r) % (keysOf read).length < (keysOf read).length := Nat.mod_lt _ (by omega)
    have h2 : (j + r) % (keysOf read).length < (keysOf read).length := Nat.mod_lt _ (by omega)
    rw [List.getD_eq_getElem?_getD, List.getD_eq_getElem?_getD, List.getElem?_eq_getElem h1, List.getElem?_eq_getElem h2]
    intro e
    simp -implicitDefEqProofs only [Option.getD_some] at e
    have := (List.getElem_inj (keysOf_nodup read)).1 e
    exact mod_inj hi hj hij this
end Go.Proofs.Ytobnjpgggocdlaa.Fx
end

/-! text FixT -/
section
namespace Go.Proofs.Ytobnjpgggocdlaa.Fx
open Go.Rmp Go.Proofs.Ytobnjpgggocdlaa.Ir
set_option maxRecDepth 10000
theorem wrap8 {n : Nat} (h : n < 256) : IntKind.u8.wrap (n : Int) = (n : Int) := by
  unfold IntKind.wrap
  simp -implicitDefEqProofs only [IntKind.signed, IntKind.bits]
  simp
  omega
theorem key37 (i : Nat) (hi : i < 8) (H : Heap) : W env (.call 37 [.int .i64 i]) H (Ret (.str (keyT i)) H) := by
  refine W.fnI rfl rfl rfl ?_
  have w1 : IntKind.i64.wrap (97 + (i : Int)) = ((97 + i : Nat) : Int) := by rw [wrap64 (by omega)]; omega
  have w2 : IntKind.u8.wrap ((97 + i : Nat) : Int) = ((97 + i : Nat) : Int) := wrap8 (by omega)
  simp -implicitDefEqProofs only [ir37, op, ef, cl, sq, reduceIte, Int.reduceLT, Int.reduceLE, Int.reduceBEq, Int.reduceBNe, Int.reduceEq, Nat.reduceAdd, Nat.reduceLeDiff, Nat.reduceLT, Nat.reduceEqDiff, S1, w1, w2, bytesOf, Int.toNat_natCast, keyT]
theorem keys22 (m : Int) (H : Heap) : W env (.call 22 [.int .i64 m]) H (fun o H' => Ext H H' ∧ ∃ k, KOk k (keysOf m) ∧ o = .val (.sl k (encS (keysOf m)))) := by
  refine W.fnI rfl rfl rfl ?_
  simp -implicitDefEqProofs only [ir22, op, ef, cl, sq, reduceIte, Int.reduceLT, Int.reduceLE, Int.reduceBEq, Int.reduceBNe, Int.reduceEq, Nat.reduceAdd, Nat.reduceLeDiff, Nat.reduceLT, Nat.reduceEqDiff, S1]
  refine W.loopI (fun (i : Nat) R H' => At H' (fun H' => ∃ kw, R 3 = .sl kw (encS (keysN m i)) ∧ Ext H H' ∧ Apd H.length H' kw ∧ KOk kw (keysN m i)) ∧ R 0 = .int .i64 m ∧ R 4 = .int .i64 i ∧ i ≤ 8) (fun i => 8 - i) 0 ⟨.i ⟨.nil, rfl, Ext.rfl', apd_nil _ _, fun _ => rfl⟩, rfl, rfl, Nat.zero_le _⟩ ?_
  rintro i R H1 ⟨⟨kw, g3, hx, hap, hko⟩, g0, g4, hi⟩
  have hsn := keysN_succ m i
  by_cases hlt : i < 8
  · have wsi := wrap_succ (show i < 9223372036854775807 by omega)
    have nn : ¬ (i : Int) < 0 := by omega
    have hb : (IntKind.i64.wrap ((BitVec.ofInt IntKind.i64.bits (m.fdiv (2 ^ (min (i : Int).toNat IntKind.i64.bits))) &&& BitVec.ofInt IntKind.i64.bits 1).toNat : Nat) == 1) = bit m i := rfl
    cases hbi : bit m i
    · rw [hbi] at hb hsn
      simp -implicitDefEqProofs only [op, ef, cl, sq, reduceIte, Int.reduceLT, Int.reduceLE, Int.reduceBEq, Int.reduceBNe, Int.reduceEq, Nat.reduceAdd, Nat.reduceLeDiff, Nat.reduceLT, Nat.reduceEqDiff, S1, g0, g3, g4, hlt, nn, hb, wsi]
      refine ⟨i + 1, by omega, .i ⟨kw, ?_, hx, hap, ?_⟩, rfl, by omega⟩
      · simp -implicitDefEqProofs only [op, ef, cl, sq, reduceIte, Int.reduceLT, Int.reduceLE, Int.reduceBEq, Int.reduceBNe, Int.reduceEq, Nat.reduceAdd, Nat.reduceLeDiff, Nat.reduceLT, Nat.reduceEqDiff, S1, g3, hsn]
      · rw [hsn]; simpa using hko
    · rw [hbi] at hb hsn
      simp -implicitDefEqProofs only [op, ef, cl, sq, reduceIte, Int.reduceLT, Int.reduceLE, Int.reduceBEq, Int.reduceBNe, Int.reduceEq, Nat.reduceAdd, Nat.reduceLeDiff, Nat.reduceLT, Nat.reduceEqDiff, S1, g0, g3, g4, hlt, nn, hb]
      refine callB_of _ _ _ _ _ _ _ _ (key37 i hlt _) ?_
      rintro u H2 ⟨hu, rfl⟩
      cases hu
      have hl := keysN_len m i
      obtain ⟨k', H', ha, hap', hst⟩ := app_ok (bytes := 16) (encS (keysN m i)) [[T.str (keyT i)]] hap hx.len (by simp) (roomT (by simp -implicitDefEqProofs only [encS_len, List.length_cons, List.length_nil]; omega))
      simp -implicitDefEqProofs only [op, ef, cl, sq, reduceIte, Int.reduceLT, Int.reduceLE, Int.reduceBEq, Int.reduceBNe, Int.reduceEq, Nat.reduceAdd, Nat.reduceLeDiff, Nat.reduceLT, Nat.reduceEqDiff, S1] at ha
      simp -implicitDefEqProofs only [op, ef, cl, sq, reduceIte, Int.reduceLT, Int.reduceLE, Int.reduceBEq, Int.reduceBNe, Int.reduceEq, Nat.reduceAdd, Nat.reduceLeDiff, Nat.reduceLT, Nat.reduceEqDiff, S1, g0, g3, g4, allS, ha, wsi]
      refine ⟨i + 1, by omega, .i ⟨k', ?_, hst.ext H (Nat.le_refl _) hx, hap', ?_⟩, rfl, by omega⟩
      · simp -implicitDefEqProofs only [op, ef, cl, sq, reduceIte, Int.reduceLT, Int.reduceLE, Int.reduceBEq, Int.reduceBNe, Int.reduceEq, Nat.reduceAdd, Nat.reduceLeDiff, Nat.reduceLT, Nat.reduceEqDiff, S1, hsn, encS, List.map_append]
      · intro h
        rcases hap' with h' | h' | ⟨t, e, h', _⟩
        · exfalso
          subst h
          unfold appT at ha
          simp only at ha
          split at ha
          · rcases hap with h | h | ⟨t, e, h, _, h2⟩
            · subst h; simp at ha
            · subst h; simp at ha
            · subst h; simp -implicitDefEqProofs only [h2, if_true] at ha; simp at ha
          · cases ha
        · rw [h] at h'; cases h'
        · rw [h] at h'; cases h'
  · have hi8 : i = 8 := by omega
    subst hi8
    by_cases hz : keysN m 8 = []
    · have e1 : keysOf m = [keyT 0] := by rw [keysOf, if_pos hz]
      have e2 : (keysN m 8).length = 0 := by rw [hz]; rfl
      simp -implicitDefEqProofs only [op, ef, cl, sq, reduceIte, Int.reduceLT, Int.reduceLE, Int.reduceBEq, Int.reduceBNe, Int.reduceEq, Nat.reduceAdd, Nat.reduceLeDiff, Nat.reduceLT, Nat.reduceEqDiff, S1, g0, g3, g4, encS_len, e2]
      refine callB_of _ _ _ _ _ _ _ _ (key37 0 (by decide) _) ?_
      rintro u H2 ⟨hu, rfl⟩
      cases hu
      simp -implicitDefEqProofs only [op, ef, cl, sq, reduceIte, Int.reduceLT, Int.reduceLE, Int.reduceBEq, Int.reduceBNe, Int.reduceEq, Nat.reduceAdd, Nat.reduceLeDiff, Nat.reduceLT, Nat.reduceEqDiff, S1]
      exact ⟨hx, .full, fun h => (by cases h), by rw [e1]; rfl⟩
    · have e1 : keysOf m = keysN m 8 := by rw [keysOf, if_neg hz]
      have e2 : ¬ (keysN m 8).length = 0 := by simpa using hz
      simp -implicitDefEqProofs only [op, ef, cl, sq, reduceIte, Int.reduceLT, Int.reduceLE, Int.reduceBEq, Int.reduceBNe, Int.reduceEq, Nat.reduceAdd, Nat.reduceLeDiff, Nat.reduceLT, Nat.reduceEqDiff, S1, g0, g3, g4, encS_len, e2]
      exact ⟨hx, kw, by rw [e1]; exact hko, by rw [e1]⟩
theorem tmod_rest (n : Int) (most : Nat) : (if n.tmod ((most : Int) + 1) < 0 then n.tmod ((most : Int) + 1) + (most : Int) + 1 else n.tmod ((most : Int) + 1)) = (restI n most : Int) := by
  unfold restI
  have h1 := Int.emod_nonneg n (show (most : Int) + 1 ≠ 0 by omega)
  have h2 := Int.emod_lt_of_pos n (show 0 < (most : Int) + 1 by omega)
  have h3 := @Int.tmod_eq_emod n ((most : Int) + 1)
  rw [Int.toNat_of_nonneg h1]
  by_cases hc : 0 ≤ n ∨ (most : Int) + 1 ∣ n
  · simp -implicitDefEqProofs only [hc, if_true] at h3
    split <;> omega
  · simp -implicitDefEqProofs only [hc, if_false] at h3
    have h4 : (((most : Int) + 1).natAbs : Int) = (most : Int) + 1 := by omega
    split <;> omega
theorem rest20 (n : Int) (most : Nat) (hm : most < 4611686018427387903) (hn : -9223372036854775808 ≤ n ∧ n ≤ 9223372036854775807) (H : Heap) : W env (.call 20 [.int .i64 n, .int .i64 most]) H (Ret (.int .i64 (restI n most : Nat)) H) := by
  refine W.fnI rfl rfl rfl ?_
  have w1 : IntKind.i64.wrap ((most : Int) + 1) = ((most : Int) + 1) := wrap64 (by omega)
  have nz : ¬ ((most : Int) + 1) = 0 := by omega
  have hr := tmod_rest n most
  have hl := restI_le n most
  have hb : -((most : Int) + 1) < n.tmod ((most : Int) + 1) := Int.lt_tmod_of_pos n (by omega)
  have hb2 : n.tmod ((most : Int) + 1) < ((most : Int) + 1) := Int.tmod_lt_of_pos n (by omega)
  by_cases hneg : n.tmod ((most : Int) + 1) < 0
  · have w2 : IntKind.i64.wrap (n.tmod ((most : Int) + 1) + (most : Int)) = n.tmod ((most : Int) + 1) + (most : Int) := wrap64 (by omega)
    have w3 : IntKind.i64.wrap (n.tmod ((most : Int) + 1) + (most : Int) + 1) = n.tmod ((most : Int) + 1) + (most : Int) + 1 := wrap64 (by omega)
    rw [if_pos hneg] at hr
    simp -implicitDefEqProofs only [ir20, op, ef, cl, sq, reduceIte, Int.reduceLT, Int.reduceLE, Int.reduceBEq, Int.reduceBNe, Int.reduceEq, Nat.reduceAdd, Nat.reduceLeDiff, Nat.reduceLT, Nat.reduceEqDiff, S1, w1, nz, hneg, w2, w3]
    exact hr
  · rw [if_neg hneg] at hr
    simp -implicitDefEqProofs only [ir20, op, ef, cl, sq, reduceIte, Int.reduceLT, Int.reduceLE, Int.reduceBEq, Int.reduceBNe, Int.reduceEq, Nat.reduceAdd, Nat.reduceLeDiff, Nat.reduceLT, Nat.reduceEqDiff, S1, w1, nz, hneg]
    exact hr
end Go.Proofs.Ytobnjpgggocdlaa.Fx
end

/-! text FixU -/
section
namespace Go.Proofs.Ytobnjpgggocdlaa.Fx
open Go.Rmp Go.Proofs.Ytobnjpgggocdlaa.Ir
set_option maxRecDepth 10000
/-! lists of numbers -/
def encI (l : List Int) : List (List T) := l.map fun n => [T.int .i64 n]
theorem encI_len (l : List Int) : (encI l).length = l.length := by simp [encI]
theorem iadI {l : List Int} {k : SK} {i : Nat} {x : Int} (h : l[i]? = some x) : iadT 1 i (.sl k (encI l)) = some (.iptr [.int .i64 x]) := iad_map (enc := fun n => [T.int .i64 n]) h rfl (by decide)
theorem getI {l : List Int} {i : Nat} (h : i < l.length) : ∃ x, l[i]? = some x := ⟨l[i], List.getElem?_eq_getElem h⟩
theorem keyT_size (i : Nat) : (keyT i).size = 1 := rfl
theorem keysOf_size {m : Int} {k : ByteArray} (h : k ∈ keysOf m) : k.size = 1 := by
  unfold keysOf at h
  split at h
  · simp at h; subst h; rfl
  · unfold keysN at h
    obtain ⟨i, _, rfl⟩ := List.mem_map.1 h
    rfl
theorem made21 (km : SK) (masks : List Int) (i : Nat) (m : Int) (k : ByteArray) (H : Heap) (hm : masks[i]? = some m) (hi : i < 60) (hk : k.size ≤ 100) : W env (.call 21 [.sl km (encI masks), .int .i64 i, .str k]) H (fun o H' => Ext H H' ∧ ∃ k', KOk k' (keysOf m) ∧ o = .val (.agg (encV (setK (mk m i k) k')))) := by
  refine W.fnI rfl rfl rfl ?_
  have w1 := wrap_succ (show i < 9223372036854775807 by omega)
  have w2 : IntKind.i64.wrap (65536 * ((i + 1 : Nat) : Int)) = ((65536 * (i + 1) : Nat) : Int) := by rw [wrap64 (by omega)]; omega
  have w3 : IntKind.u64.wrap ((65536 * (i + 1) : Nat) : Int) = ((65536 * (i + 1) : Nat) : Int) := wrapu64 (by omega)
  have w4 : IntKind.u8.wrap (i : Int) = (i : Int) := wrap8 (by omega)
  have hs : k.size + (⟨#[UInt8.ofNat i]⟩ : ByteArray).size ≤ 9223372036854775807 := by
    show k.size + 1 ≤ _; omega
  simp -implicitDefEqProofs only [ir21, op, ef, cl, sq, reduceIte, Int.reduceLT, Int.reduceLE, Int.reduceBEq, Int.reduceBNe, Int.reduceEq, Nat.reduceAdd, Nat.reduceLeDiff, Nat.reduceLT, Nat.reduceEqDiff, S1, w1, w2, w3, w4, bytesOf, Int.toNat_natCast, hs, iadI hm]
  refine callB_of _ _ _ _ _ _ _ _ (keys22 m _) ?_
  rintro u H1 ⟨hx1, k', hk', hu⟩
  cases hu
  have g0 : H1[H.length]? = some (.cells [.str ⟨#[]⟩, .int .u64 0, .str ⟨#[]⟩, .sl .nil []]) := hx1.get (g_tail rfl)
  have l0 := glt g0
  simp -implicitDefEqProofs only [op, ef, cl, sq, reduceIte, Int.reduceLT, Int.reduceLE, Int.reduceBEq, Int.reduceBNe, Int.reduceEq, Nat.reduceAdd, Nat.reduceLeDiff, Nat.reduceLT, Nat.reduceEqDiff, S1, S2, bytesOf, Int.toNat_natCast, g0, l0]
  exact ⟨(Ext.app Ext.rfl' _ |>.trans hx1).set (Nat.le_refl _) _, k', hk', rfl⟩
theorem bKey_in (read turn : Int) (i : Nat) : bKey read turn i ∈ keysOf read := by
  unfold bKey
  have hk := keysOf_len read
  have h1 : (i + restI turn ((keysOf read).length - 1)) % (keysOf read).length < (keysOf read).length := Nat.mod_lt _ (by omega)
  rw [List.getD_eq_getElem?_getD, List.getElem?_eq_getElem h1]
  exact List.getElem_mem h1
theorem vapp' (l : List Ver) (v : Ver) : encVs l ++ [[T.str v.key, T.int .u64 v.id, T.str v.val, T.sl .arg (encS v.keys)]] = encVs (l ++ [setK v .arg]) := vapp l v
theorem botapp (l : List Ver) (k : ByteArray) : encVs l ++ [[T.str k, T.int .u64 0, T.str ⟨#[]⟩, T.sl .arg []]] = encVs (l ++ [botA k]) := by simp [encVs, encV, botA, encS]
theorem mkapp (l : List Ver) (m : Int) (w : Nat) (k : ByteArray) : encVs l ++ [[T.str k, T.int .u64 ((65536 * (w + 1) : Nat) : Int), T.str (k ++ ⟨#[UInt8.ofNat w]⟩), T.sl .arg (encS (keysOf m))]] = encVs (l ++ [mk m w k]) := by simp [encVs, encV, mk]
def Num (n : Int) : Prop := -9223372036854775808 ≤ n ∧ n ≤ 9223372036854775807
theorem brought19m (km kp : SK) (masks : List Int) (read turn : Int) (picks : List Int) (H : Heap) (hm : masks.length ≤ 60) (ht : Num turn) (hp : ∀ p ∈ picks, Num p) (hpl : picks.length < 4611686018427387903) :
    W env (.call 19 [.sl km (encI masks), .int .i64 read, .int .i64 turn, .sl kp (encI picks)]) H (fun o H' => Ext H H' ∧ ∃ t, o = .val t ∧ Mut encV 4 H.length H' t (brought masks read turn picks (keysOf read).length)) := by
  refine W.fnI rfl rfl rfl ?_
  simp -implicitDefEqProofs only [ir19, op, ef, cl, sq, reduceIte, Int.reduceLT, Int.reduceLE, Int.reduceBEq, Int.reduceBNe, Int.reduceEq, Nat.reduceAdd, Nat.reduceLeDiff, Nat.reduceLT, Nat.reduceEqDiff, S1]
  refine callB_of _ _ _ _ _ _ _ _ (keys22 read _) ?_
  rintro u H1 ⟨hx1, kk, hkk, hu⟩
  cases hu
  have hkl := keysOf_len read
  simp -implicitDefEqProofs only [op, ef, cl, sq, reduceIte, Int.reduceLT, Int.reduceLE, Int.reduceBEq, Int.reduceBNe, Int.reduceEq, Nat.reduceAdd, Nat.reduceLeDiff, Nat.reduceLT, Nat.reduceEqDiff, S1]
  refine W.loopI (fun (i : Nat) R H' => At H' (fun H' => ∃ tw, R 10 = tw ∧ Ext H H' ∧ Mut encV 4 H.length H' tw (brought masks read turn picks i)) ∧ R 0 = .sl km (encI masks) ∧ R 2 = .int .i64 turn ∧ R 3 = .sl kp (encI picks) ∧ R 9 = .sl kk (encS (keysOf read)) ∧ R 11 = .int .i64 i ∧ i ≤ (keysOf read).length) (fun i => (keysOf read).length - i) 0 ⟨.i ⟨_, rfl, hx1, mut_nil _ _ _ _⟩, rfl, rfl, rfl, rfl, rfl, Nat.zero_le _⟩ ?_
  rintro i R H2 ⟨⟨tw, g10, hx2, hap⟩, g0, g2, g3, g9, g11, hi⟩
  by_cases hlt : i < (keysOf read).length
  · have wsi := wrap_succ (show i < 9223372036854775807 by omega)
    have w1 : IntKind.i64.wrap (((keysOf read).length : Int) - 1) = (((keysOf read).length - 1 : Nat) : Int) := by rw [wrap64 (by omega)]; omega
    simp -implicitDefEqProofs only [op, ef, cl, sq, reduceIte, Int.reduceLT, Int.reduceLE, Int.reduceBEq, Int.reduceBNe, Int.reduceEq, Nat.reduceAdd, Nat.reduceLeDiff, Nat.reduceLT, Nat.reduceEqDiff, S1, g0, g2, g3, g9, g10, g11, encS_len, hlt, w1]
    refine callB_of _ _ _ _ _ _ _ _ (rest20 turn ((keysOf read).length - 1) (by omega) ht _) ?_
    rintro u H3 ⟨hu, rfl⟩
    cases hu
    have hrl := restI_le turn ((keysOf read).length - 1)
    have w2 : IntKind.i64.wrap ((i : Int) + (restI turn ((keysOf read).length - 1) : Nat)) = ((i + restI turn ((keysOf read).length - 1) : Nat) : Int) := by rw [wrap64 (by omega)]; omega
    have nz : ¬ ((keysOf read).length : Int) = 0 := by omega
    have w3 : (((i + restI turn ((keysOf read).length - 1) : Nat) : Int)).tmod ((keysOf read).length : Int) = (((i + restI turn ((keysOf read).length - 1)) % (keysOf read).length : Nat) : Int) := (Int.ofNat_tmod _ _).symm
    have hbk : (keysOf read)[(i + restI turn ((keysOf read).length - 1)) % (keysOf read).length]? = some (bKey read turn i) := by
      have h1 : (i + restI turn ((keysOf read).length - 1)) % (keysOf read).length < (keysOf read).length := Nat.mod_lt _ (by omega)
      unfold bKey
      rw [List.getD_eq_getElem?_getD, List.getElem?_eq_getElem h1]; rfl
    have hbs : (bKey read turn i).size ≤ 100 := by rw [keysOf_size (bKey_in read turn i)]; omega
    generalize hbK : bKey read turn i = bk at *
    obtain ⟨k1, H4, ha, hap1, hst⟩ := app_ok (bytes := 64) (n0 := H3.length) (H := H3) (k := .nil) [] [[T.str bk, T.int .u64 0, T.str ⟨#[]⟩, T.sl .arg []]] (.inl rfl) (Nat.le_refl _) (by simp) (roomT (by simp -implicitDefEqProofs only [List.length_cons, List.length_nil]; omega))
    have e0 := botapp [] bk
    simp -implicitDefEqProofs only [encVs, List.map_nil, List.nil_append] at e0
    simp -implicitDefEqProofs only [op, ef, cl, sq, reduceIte, Int.reduceLT, Int.reduceLE, Int.reduceBEq, Int.reduceBNe, Int.reduceEq, Nat.reduceAdd, Nat.reduceLeDiff, Nat.reduceLT, Nat.reduceEqDiff, S1] at ha
    simp -implicitDefEqProofs only [op, ef, cl, sq, reduceIte, Int.reduceLT, Int.reduceLE, Int.reduceBEq, Int.reduceBNe, Int.reduceEq, Nat.reduceAdd, Nat.reduceLeDiff, Nat.reduceLT, Nat.reduceEqDiff, S1, g0, g2, g3, g9, g10, g11, encS_len, w1, w2, nz, w3, iadS hbk, natOf_nat, ha]
    have hx4 : Ext H3 H4 := hst.ext H3 (Nat.le_refl _) Ext.rfl'
    rw [e0]
    refine W.loopI (fun (j : Nat) R H' => At H' (fun H' => ∃ ks, R 13 = .sl ks (encVs (botA bk :: someW masks bk j)) ∧ Ext H3 H' ∧ Apd H3.length H' ks) ∧ R 0 = .sl km (encI masks) ∧ R 2 = .int .i64 turn ∧ R 3 = .sl kp (encI picks) ∧ R 9 = .sl kk (encS (keysOf read)) ∧ R 10 = tw ∧ R 11 = .int .i64 i ∧ R 12 = .str bk ∧ R 14 = .int .i64 j ∧ j ≤ masks.length) (fun j => masks.length - j) 0 ?_ ?_
    · refine ⟨.i ⟨k1, rfl, hx4, hap1⟩, ?_⟩
      simp -implicitDefEqProofs only [op, ef, cl, sq, reduceIte, Int.reduceLT, Int.reduceLE, Int.reduceBEq, Int.reduceBNe, Int.reduceEq, Nat.reduceAdd, Nat.reduceLeDiff, Nat.reduceLT, Nat.reduceEqDiff, S1, g0, g2, g3, g9, g10, g11]
      exact ⟨rfl, Nat.zero_le _⟩
    rintro j R H5 ⟨⟨ks, f13, hx5, hap5⟩, f0, f2, f3, f9, f10, f11, f12, f14, hj⟩
    by_cases hjl : j < masks.length
    · obtain ⟨m, hmj⟩ := getI hjl
      have wsj := wrap_succ (show j < 9223372036854775807 by omega)
      have hsw := someW_succ (k := bk) hmj
      simp -implicitDefEqProofs only [op, ef, cl, sq, reduceIte, Int.reduceLT, Int.reduceLE, Int.reduceBEq, Int.reduceBNe, Int.reduceEq, Nat.reduceAdd, Nat.reduceLeDiff, Nat.reduceLT, Nat.reduceEqDiff, S1, f0, f2, f3, f9, f10, f11, f12, f14, encI_len, hjl, iadI hmj]
      refine callB_of _ _ _ _ _ _ _ _ (keys22 m _) ?_
      rintro u H6 ⟨hx6, k2, hk2, hu⟩
      cases hu
      have hml := keysOf_len m
      simp -implicitDefEqProofs only [op, ef, cl, sq, reduceIte, Int.reduceLT, Int.reduceLE, Int.reduceBEq, Int.reduceBNe, Int.reduceEq, Nat.reduceAdd, Nat.reduceLeDiff, Nat.reduceLT, Nat.reduceEqDiff, S1, f12]
      refine callB_of _ _ _ _ _ _ _ _ (has23 k2 (keysOf m) bk _ (by omega)) ?_
      rintro u H7 ⟨hu, rfl⟩
      cases hu
      cases hb : memB (keysOf m) bk
      · rw [hb] at hsw
        simp -implicitDefEqProofs only [op, ef, cl, sq, reduceIte, Int.reduceLT, Int.reduceLE, Int.reduceBEq, Int.reduceBNe, Int.reduceEq, Nat.reduceAdd, Nat.reduceLeDiff, Nat.reduceLT, Nat.reduceEqDiff, S1, f14, wsj]
        refine ⟨j + 1, by omega, .i ⟨ks, ?_, hx5.trans hx6, hap5.ext hx6⟩, ?_⟩
        · simp -implicitDefEqProofs only [op, ef, cl, sq, reduceIte, Int.reduceLT, Int.reduceLE, Int.reduceBEq, Int.reduceBNe, Int.reduceEq, Nat.reduceAdd, Nat.reduceLeDiff, Nat.reduceLT, Nat.reduceEqDiff, S1, f13, hsw]
        · simp -implicitDefEqProofs only [f0, f2, f3, f9, f10, f11, f12, true_and]; omega
      · rw [hb] at hsw
        simp -implicitDefEqProofs only [op, ef, cl, sq, reduceIte, Int.reduceLT, Int.reduceLE, Int.reduceBEq, Int.reduceBNe, Int.reduceEq, Nat.reduceAdd, Nat.reduceLeDiff, Nat.reduceLT, Nat.reduceEqDiff, S1, f0, f12, f13, f14]
        refine callB_of _ _ _ _ _ _ _ _ (made21 km masks j m bk _ hmj (by omega) hbs) ?_
        rintro u H8 ⟨hx8, k3, hk3, hu⟩
        cases hu
        have hsl := someW_len masks bk j
        obtain ⟨k4, H9, ha, hap9, hst⟩ := app_ok (bytes := 64) (encVs (botA bk :: someW masks bk j)) [[T.str bk, T.int .u64 ((65536 * (j + 1) : Nat) : Int), T.str (bk ++ ⟨#[UInt8.ofNat j]⟩), T.sl .arg (encS (keysOf m))]] ((hap5.ext hx6).ext hx8) ((hx5.trans hx6).trans hx8).len (by simp) (roomT (by simp -implicitDefEqProofs only [encVs_len, List.length_cons, List.length_nil]; omega))
        simp -implicitDefEqProofs only [op, ef, cl, sq, reduceIte, Int.reduceLT, Int.reduceLE, Int.reduceBEq, Int.reduceBNe, Int.reduceEq, Nat.reduceAdd, Nat.reduceLeDiff, Nat.reduceLT, Nat.reduceEqDiff, S1, mkapp] at ha
        simp -implicitDefEqProofs only [op, ef, cl, sq, reduceIte, Int.reduceLT, Int.reduceLE, Int.reduceBEq, Int.reduceBNe, Int.reduceEq, Nat.reduceAdd, Nat.reduceLeDiff, Nat.reduceLT, Nat.reduceEqDiff, S1, setK, mk, encV, f14, allV, ha, wsj]
        refine ⟨j + 1, by omega, .i ⟨k4, ?_, hst.ext H3 (Nat.le_refl _) ((hx5.trans hx6).trans hx8), hap9⟩, ?_⟩
        · simp -implicitDefEqProofs only [op, ef, cl, sq, reduceIte, Int.reduceLT, Int.reduceLE, Int.reduceBEq, Int.reduceBNe, Int.reduceEq, Nat.reduceAdd, Nat.reduceLeDiff, Nat.reduceLT, Nat.reduceEqDiff, S1, hsw, mk]
        · simp -implicitDefEqProofs only [f0, f2, f3, f9, f10, f11, f12, true_and]; omega
    · have hjl' : j = masks.length := by omega
      subst hjl'
      have hbA : bAll masks bk = botA bk :: someW masks bk masks.length := rfl
      rw [← hbA] at f13
      have hAl : (bAll masks bk).length ≤ 61 := by have := someW_len masks bk masks.length; simp -implicitDefEqProofs only [bAll, List.length_cons]; omega
      have hA1 : 1 ≤ (bAll masks bk).length := by simp [bAll]
      have w4 : IntKind.i64.wrap (((bAll masks bk).length : Int) - 1) = (((bAll masks bk).length - 1 : Nat) : Int) := by rw [wrap64 (by omega)]; omega
      have hbo : bOne masks read turn picks i = (bAll masks bk).getD (restI (picks.getD i 0) ((bAll masks bk).length - 1)) (botA ⟨#[]⟩) := by rw [bOne, hbK]
      have hbl : (brought masks read turn picks i).length ≤ 8 := by simp [brought]; omega
      have hget : ∀ p : Int, picks.getD i 0 = p → (bAll masks bk)[restI p ((bAll masks bk).length - 1)]? = some (bOne masks read turn picks i) := fun p hp => by
        rw [hbo, hp, List.getD_eq_getElem?_getD]
        have hl : restI p ((bAll masks bk).length - 1) < (bAll masks bk).length := by have := restI_le p ((bAll masks bk).length - 1); omega
        rw [List.getElem?_eq_getElem hl]; rfl
      have hv : setK (bOne masks read turn picks i) .arg = bOne masks read turn picks i := by
        rcases (bOne_is masks read turn picks i).2 with h | ⟨w, m, _, _, h⟩ <;> rw [h] <;> rfl
      generalize hV : bOne masks read turn picks i = V at *
      obtain ⟨k4, H9, ha, hap9, hst⟩ := appM_ok (enc := encV) (n := 4) (fun _ => rfl) (bytes := 64) [V] (hap.ext hx5) (hx2.trans hx5).len (by simp) (roomT (by simp -implicitDefEqProofs only [List.length_cons, List.length_nil]; omega))
      have hkV : V.kk = .arg := by have := congrArg Ver.kk hv; simpa [setK] using this.symm
      simp -implicitDefEqProofs only [op, ef, cl, sq, reduceIte, Int.reduceLT, Int.reduceLE, Int.reduceBEq, Int.reduceBNe, Int.reduceEq, Nat.reduceAdd, Nat.reduceLeDiff, Nat.reduceLT, Nat.reduceEqDiff, S1, encV, hkV] at ha
      by_cases hpi : i < picks.length
      · obtain ⟨p, hpp⟩ := getI hpi
        simp -implicitDefEqProofs only [op, ef, cl, sq, reduceIte, Int.reduceLT, Int.reduceLE, Int.reduceBEq, Int.reduceBNe, Int.reduceEq, Nat.reduceAdd, Nat.reduceLeDiff, Nat.reduceLT, Nat.reduceEqDiff, S1, f0, f2, f3, f9, f10, f11, f12, f13, f14, encI_len, encVs_len, hjl, hpi, iadI hpp, w4]
        refine callB_of _ _ _ _ _ _ _ _ (rest20 p ((bAll masks bk).length - 1) (by omega) (hp p (List.mem_of_getElem? hpp)) _) ?_
        rintro u H6 ⟨hu, rfl⟩
        cases hu
        simp -implicitDefEqProofs only [op, ef, cl, sq, reduceIte, Int.reduceLT, Int.reduceLE, Int.reduceBEq, Int.reduceBNe, Int.reduceEq, Nat.reduceAdd, Nat.reduceLeDiff, Nat.reduceLT, Nat.reduceEqDiff, S1, f10, f11, f13, natOf_nat, iadV (hget p (by simp [List.getD_eq_getElem?_getD, hpp])), encV, hkV, ha, wsi]
        refine ⟨i + 1, by omega, .i ⟨k4, ?_, hst.ext H (Nat.le_refl _) (hx2.trans hx5), by rw [brought_succ, hV]; exact hap9⟩, ?_⟩
        · simp -implicitDefEqProofs only [op, ef, cl, sq, reduceIte, Int.reduceLT, Int.reduceLE, Int.reduceBEq, Int.reduceBNe, Int.reduceEq, Nat.reduceAdd, Nat.reduceLeDiff, Nat.reduceLT, Nat.reduceEqDiff, S1]
        · simp -implicitDefEqProofs only [f0, f2, f3, f9, f10, f11, f12, true_and]; omega
      · simp -implicitDefEqProofs only [op, ef, cl, sq, reduceIte, Int.reduceLT, Int.reduceLE, Int.reduceBEq, Int.reduceBNe, Int.reduceEq, Nat.reduceAdd, Nat.reduceLeDiff, Nat.reduceLT, Nat.reduceEqDiff, S1, f0, f2, f3, f9, f10, f11, f12, f13, f14, encI_len, encVs_len, hjl, hpi, w4]
        refine callB_of _ _ _ _ _ _ _ _ (rest20 0 ((bAll masks bk).length - 1) (by omega) (by omega) _) ?_
        rintro u H6 ⟨hu, rfl⟩
        cases hu
        have hp0 : picks.getD i 0 = 0 := by rw [List.getD_eq_getElem?_getD, List.getElem?_eq_none (by omega)]; rfl
        simp -implicitDefEqProofs only [op, ef, cl, sq, reduceIte, Int.reduceLT, Int.reduceLE, Int.reduceBEq, Int.reduceBNe, Int.reduceEq, Nat.reduceAdd, Nat.reduceLeDiff, Nat.reduceLT, Nat.reduceEqDiff, S1, f10, f11, f13, natOf_nat, iadV (hget 0 hp0), encV, hkV, ha, wsi]
        refine ⟨i + 1, by omega, .i ⟨k4, ?_, hst.ext H (Nat.le_refl _) (hx2.trans hx5), by rw [brought_succ, hV]; exact hap9⟩, ?_⟩
        · simp -implicitDefEqProofs only [op, ef, cl, sq, reduceIte, Int.reduceLT, Int.reduceLE, Int.reduceBEq, Int.reduceBNe, Int.reduceEq, Nat.reduceAdd, Nat.reduceLeDiff, Nat.reduceLT, Nat.reduceEqDiff, S1]
        · simp -implicitDefEqProofs only [f0, f2, f3, f9, f10, f11, f12, true_and]; omega
  · have hil : i = (keysOf read).length := by omega
    subst hil
    simp -implicitDefEqProofs only [op, ef, cl, sq, reduceIte, Int.reduceLT, Int.reduceLE, Int.reduceBEq, Int.reduceBNe, Int.reduceEq, Nat.reduceAdd, Nat.reduceLeDiff, Nat.reduceLT, Nat.reduceEqDiff, S1, g9, g10, g11, encS_len, hlt]
    exact ⟨hx2, tw, rfl, hap⟩
theorem brought19 (km kp : SK) (masks : List Int) (read turn : Int) (picks : List Int) (H : Heap) (hm : masks.length ≤ 60) (ht : Num turn) (hp : ∀ p ∈ picks, Num p) (hpl : picks.length < 4611686018427387903) :
    W env (.call 19 [.sl km (encI masks), .int .i64 read, .int .i64 turn, .sl kp (encI picks)]) H (fun o H' => Ext H H' ∧ ∃ k, o = .val (.sl k (encVs (brought masks read turn picks (keysOf read).length)))) := by
  refine W.frz1 (enc := encV) (n := 4) (l := brought masks read turn picks (keysOf read).length) (fun _ => rfl) (W.use (brought19m km kp masks read turn picks H hm ht hp hpl) ?_)
  rintro o H' ⟨hx, t, rfl, hmu⟩
  rcases hmu with ⟨h0, _⟩ | ⟨b, rfl, hb, hbl⟩
  · have := (brought_is masks read turn picks).1
    rw [h0] at this; simp at this
  · exact ⟨b, rfl, hb, hx.set hbl _, .arg, rfl⟩
end Go.Proofs.Ytobnjpgggocdlaa.Fx
end

/-! text FixW -/
section
namespace Go.Proofs.Ytobnjpgggocdlaa.Fx
open Go.Rmp Go.Proofs.Ytobnjpgggocdlaa.Ir
set_option maxRecDepth 10000
/-! lists read where they lie: as values or in memory that is written -/
structure Vw (H : Heap) (t : T) (l : List Ver) (ad : Nat → T) : Prop where
  len : ∀ H', Ext H H' → lenT H' .sl t = some l.length
  iad : ∀ i v, l[i]? = some v → iadT 4 i t = some (ad i)
  ld : ∀ i v H', Ext H H' → l[i]? = some v → ldc H' 4 (ad i) = some (encV v)
  f3 : ∀ i v H', Ext H H' → l[i]? = some v → ∃ a, fadT 3 (ad i) = some a ∧ ldc H' 1 a = some [.sl v.kk (encS v.keys)]
theorem vw_msl {H : Heap} {b : Nat} {l : List Ver} (hb : H[b]? = some (.cells (msC encV l))) : Vw H (.msl b 0 l.length 4) l (fun i => .ptr b (i * 4)) where
  len H' _ := rfl
  iad i v hv := by
    have := (List.getElem?_eq_some_iff.1 hv).1
    rw [iad_m]; simp [this]
  ld i v H' hx hv := by
    rw [ldc_ptr, hx.get hb]
    exact msC_get (n := 4) (fun _ => rfl) hv 0 4 (by decide)
  f3 i v H' hx hv := ⟨.ptr b (i * 4 + 3), rfl, by
    rw [ldc_ptr, hx.get hb]
    exact msC_get (n := 4) (fun _ => rfl) hv 3 1 (by decide)⟩
theorem formed12v (t : T) (ad : Nat → T) (l : List Ver) (H : Heap) (vw : Vw H t l ad) (hs : Small l) : W env (.call 12 [t]) H (RetG (.bool (formed l)) H) := by
  refine W.fnI rfl rfl rfl ?_
  have hl0 := vw.len H Ext.rfl'
  simp -implicitDefEqProofs only [ir12, op, ef, cl, sq, reduceIte, Int.reduceLT, Int.reduceLE, Int.reduceBEq, Int.reduceBNe, Int.reduceEq, Nat.reduceAdd, Nat.reduceLeDiff, Nat.reduceLT, Nat.reduceEqDiff, S1, hl0]
  by_cases hn1 : l.length < 1
  · have : formed l = false := formed_f fun h => by have := h.1; omega
    simp -implicitDefEqProofs only [op, ef, cl, sq, reduceIte, Int.reduceLT, Int.reduceLE, Int.reduceBEq, Int.reduceBNe, Int.reduceEq, Nat.reduceAdd, Nat.reduceLeDiff, Nat.reduceLT, Nat.reduceEqDiff, S1, hn1, this]
  by_cases hn2 : 1024 < l.length
  · have : formed l = false := formed_f fun h => by have := h.2.1; omega
    simp -implicitDefEqProofs only [op, ef, cl, sq, reduceIte, Int.reduceLT, Int.reduceLE, Int.reduceBEq, Int.reduceBNe, Int.reduceEq, Nat.reduceAdd, Nat.reduceLeDiff, Nat.reduceLT, Nat.reduceEqDiff, S1, hl0, hn1, hn2, this]
  have hl1 := vw.len _ ((Ext.rfl'.app [B.map []]).app [B.map []])
  simp -implicitDefEqProofs only [op, ef, cl, sq, reduceIte, Int.reduceLT, Int.reduceLE, Int.reduceBEq, Int.reduceBNe, Int.reduceEq, Nat.reduceAdd, Nat.reduceLeDiff, Nat.reduceLT, Nat.reduceEqDiff, S1, hl0, hl1, hn1, hn2]
  refine W.loopI (fun (i : Nat) R H' => (∃ ks ws, Ext H H' ∧ H'[H.length]? = some (.map (encK T.str ks)) ∧ H'[H.length + 1]? = some (.map (encK kU ws)) ∧ KsOk l i ks ∧ WsOk l i ws) ∧ R 0 = t ∧ R 3 = .map H.length ∧ R 4 = .map (H.length + 1) ∧ R 19 = t ∧ R 20 = .int .i64 l.length ∧ R 21 = .int .i64 i ∧ i ≤ l.length ∧ ∀ j, j < i → Good l j) (fun i => l.length - i) 0 ?_ ?_
  · refine ⟨⟨[], [], (Ext.rfl'.app _).app _, by simp [encK], by simp [encK], ?_, ?_⟩, rfl, rfl, ?_, rfl, ?_, rfl, Nat.zero_le _, fun j h => by omega⟩
    · intro k; simp [mlook_nil]
    · intro k; simp [mlook_nil]
    · simp -implicitDefEqProofs only [op, ef, cl, sq, reduceIte, Int.reduceLT, Int.reduceLE, Int.reduceBEq, Int.reduceBNe, Int.reduceEq, Nat.reduceAdd, Nat.reduceLeDiff, Nat.reduceLT, Nat.reduceEqDiff, S1]; simp
    · simp -implicitDefEqProofs only [op, ef, cl, sq, reduceIte, Int.reduceLT, Int.reduceLE, Int.reduceBEq, Int.reduceBNe, Int.reduceEq, Nat.reduceAdd, Nat.reduceLeDiff, Nat.reduceLT, Nat.reduceEqDiff, S1, hl0, hl1]
  · rintro i R H1 ⟨⟨ks, ws, hx, hb3, hb4, hks, hws⟩, h0, h3, h4, h19, h20, h21, hi, hg⟩
    have l3 := glt hb3
    have l4 := glt hb4
    by_cases hlt : i < l.length
    · obtain ⟨v, hv⟩ := getV hlt
      have hia := vw.iad i v hv
      have hld := fun H' h => vw.ld i v H' h hv
      have hld1 := hld _ hx
      have wsi := wrap_succ (show i < 9223372036854775807 by omega)
      have n34 : H.length ≠ H.length + 1 := by omega
      have n1 : H1.length ≠ H.length := by omega
      have n2 : H1.length ≠ H.length + 1 := by omega
      have n3 : H1.length ≠ H.length := by omega
      have hvs := hs.2 v (List.mem_of_getElem? hv)
      have bad : ¬ Good l i → formed l = false := fun hb => formed_f fun h => hb (h.2.2 i hlt)
      by_cases hsk : v.key ∈ (l.take i).map Ver.key
      · have hno : formed l = false := bad fun hgi => by
          obtain ⟨u, hu, hku⟩ := List.mem_map.1 hsk
          obtain ⟨j, hj, hju⟩ := mem_take hu
          have := (hgi v hv).2 j u hj hju
          simp [ok2, hku] at this
        have w1 : IntKind.i64.wrap ((1 : Int) + 1) = 2 := by decide
        simp -implicitDefEqProofs only [op, ef, cl, sq, reduceIte, Int.reduceLT, Int.reduceLE, Int.reduceBEq, Int.reduceBNe, Int.reduceEq, Nat.reduceAdd, Nat.reduceLeDiff, Nat.reduceLT, Nat.reduceEqDiff, S1, S2, h0, h3, h4, h19, h20, h21, hlt, hia, hld1, encV, l3, l4, hb3, hb4, n34, (hks v.key).1 hsk, w1]
        refine callB_of _ _ _ _ _ _ _ _ (may28 v _ hvs) ?_
        rintro u H2 ⟨hu, hx2⟩
        cases hu
        have hx2 : Ext _ H2 := hx2
        have hxx : Ext H H2 := ((hx.set (Nat.le_refl _) _).app _).trans hx2
        cases hm : may v
        · simp -implicitDefEqProofs only [op, ef, cl, sq, reduceIte, Int.reduceLT, Int.reduceLE, Int.reduceBEq, Int.reduceBNe, Int.reduceEq, Nat.reduceAdd, Nat.reduceLeDiff, Nat.reduceLT, Nat.reduceEqDiff, S1, hno, retg_ext hxx]
        · have g3 : H2[H.length]? = some (.map (encK T.str (mput ks v.key (.int .i64 2)))) := hx2.get (by simp -implicitDefEqProofs only [S2, l3])
          have gc : H2[H1.length]? = some (.cells (encV v)) := hx2.get (by simp [encV])
          simp -implicitDefEqProofs only [op, ef, cl, sq, reduceIte, Int.reduceLT, Int.reduceLE, Int.reduceBEq, Int.reduceBNe, Int.reduceEq, Nat.reduceAdd, Nat.reduceLeDiff, Nat.reduceLT, Nat.reduceEqDiff, S1, hno, retg_ext hxx, g3, gc, encV, h3, mlook_put]
      · have w1 : IntKind.i64.wrap ((0 : Int) + 1) = 1 := by decide
        simp -implicitDefEqProofs only [op, ef, cl, sq, reduceIte, Int.reduceLT, Int.reduceLE, Int.reduceBEq, Int.reduceBNe, Int.reduceEq, Nat.reduceAdd, Nat.reduceLeDiff, Nat.reduceLT, Nat.reduceEqDiff, S1, S2, h0, h3, h4, h19, h20, h21, hlt, hia, hld1, encV, l3, l4, hb3, hb4, n34, (hks v.key).2 hsk, w1]
        refine callB_of _ _ _ _ _ _ _ _ (may28 v _ hvs) ?_
        rintro u H2 ⟨hu, hx2⟩
        cases hu
        have hx2 : Ext _ H2 := hx2
        have hxx : Ext H H2 := ((hx.set (Nat.le_refl _) _).app _).trans hx2
        cases hm : may v
        · have hno : formed l = false := bad fun hgi => by
            have := (hgi v hv).1; rw [hm] at this; cases this
          simp -implicitDefEqProofs only [op, ef, cl, sq, reduceIte, Int.reduceLT, Int.reduceLE, Int.reduceBEq, Int.reduceBNe, Int.reduceEq, Nat.reduceAdd, Nat.reduceLeDiff, Nat.reduceLT, Nat.reduceEqDiff, S1, hno, retg_ext hxx]
        · have g3 : H2[H.length]? = some (.map (encK T.str (mput ks v.key (.int .i64 1)))) := hx2.get (by simp -implicitDefEqProofs only [S2, l3])
          have g4 : H2[H.length + 1]? = some (.map (encK kU ws)) := hx2.get (by simp -implicitDefEqProofs only [S2, l3, l4, hb4, ne_eq, n34, not_false_eq_true])
          have gc : H2[H1.length]? = some (.cells (encV v)) := hx2.get (by simp [encV])
          have m4 := glt g4
          have hks' : KsOk l (i + 1) (mput ks v.key (.int .i64 1)) := fun k => by
            rw [mlook_put, take_snoc hv]
            by_cases e : k = v.key
            · simp [e]
            · have := hks k
              simp -implicitDefEqProofs only [e, if_false, List.map_append, List.map_cons, List.map_nil, List.mem_append, List.mem_singleton, or_false]
              exact this
          have hkk : ∀ j u, j < i → l[j]? = some u → u.key ≠ v.key := fun j u hj hu e => hsk (e ▸ List.mem_map_of_mem (take_mem hj hu))
          have hw := hws v.id
          cases hl : mlook ws v.id with
          | none =>
            rw [hl] at hw
            simp -implicitDefEqProofs only [op, ef, cl, sq, reduceIte, Int.reduceLT, Int.reduceLE, Int.reduceBEq, Int.reduceBNe, Int.reduceEq, Nat.reduceAdd, Nat.reduceLeDiff, Nat.reduceLT, Nat.reduceEqDiff, S1, S2, g3, g4, gc, encV, h0, h3, h4, h19, h20, h21, mlook_put, hl, m4, wsi]
            refine ⟨i + 1, by omega, ⟨_, _, hxx.set (by omega) _, by rw [g_ne (by omega)]; exact g3, rfl, hks', ?_⟩, rfl, by omega, ?_⟩
            · intro id
              rw [mlook_put, take_snoc hv]
              by_cases e : id = v.id
              · subst e; simp -implicitDefEqProofs only [if_true]; exact ⟨i, v, by omega, hv, rfl, rfl⟩
              · have := hws id
                simp -implicitDefEqProofs only [e, if_false]
                cases hl' : mlook ws id with
                | none => rw [hl'] at this; simp [e]; simpa using this
                | some t => rw [hl'] at this; obtain ⟨p, u, hp, hu, he⟩ := this; exact ⟨p, u, by omega, hu, he⟩
            · intro j hj
              by_cases e : j = i
              · subst e; intro v' hv'; rw [hv] at hv'; cases hv'
                refine ⟨hm, fun q u hq hu => ?_⟩
                have a1 : u.id ≠ v.id := fun e => hw (e ▸ List.mem_map_of_mem (take_mem hq hu))
                simp [ok2, hkk q u hq hu, a1]
              · exact hg j (by omega)
          | some t =>
            rw [hl] at hw
            obtain ⟨p, u, hp, hu, he, rfl⟩ := hw
            have hiu := vw.iad p u hu
            obtain ⟨a3, hf3, hl3⟩ := vw.f3 p u H2 hxx hu
            simp -implicitDefEqProofs only [op, ef, cl, sq, reduceIte, Int.reduceLT, Int.reduceLE, Int.reduceBEq, Int.reduceBNe, Int.reduceEq, Nat.reduceAdd, Nat.reduceLeDiff, Nat.reduceLT, Nat.reduceEqDiff, S1, S2, g3, g4, gc, encV, h0, h3, h4, h19, h20, h21, mlook_put, hl, m4, wsi, hiu, hf3, hl3]
            refine callB_of _ _ _ _ _ _ _ _ (eq29 u.kk v.kk u.keys v.keys _ (by have := hs.2 u (List.mem_of_getElem? hu); omega)) ?_
            rintro w H4 ⟨hw, rfl⟩
            cases hw
            by_cases hks2 : u.keys = v.keys
            · simp -implicitDefEqProofs only [op, ef, cl, sq, reduceIte, Int.reduceLT, Int.reduceLE, Int.reduceBEq, Int.reduceBNe, Int.reduceEq, Nat.reduceAdd, Nat.reduceLeDiff, Nat.reduceLT, Nat.reduceEqDiff, S1, S2, g3, g4, gc, encV, h0, h3, h4, h19, h20, h21, hks2, wsi]
              refine ⟨i + 1, by omega, ⟨_, _, hxx, rfl, rfl, hks', ?_⟩, rfl, by omega, ?_⟩
              · intro id
                have := hws id
                cases hl' : mlook ws id with
                | none => rw [hl'] at this; rw [take_snoc hv]; simp; simp at this; refine ⟨this, ?_⟩; rintro rfl; rw [hl] at hl'; cases hl'
                | some t => rw [hl'] at this; obtain ⟨p, u, hp, hu, he⟩ := this; exact ⟨p, u, by omega, hu, he⟩
              · intro j hj
                by_cases e : j = i
                · subst e; intro v' hv'; rw [hv] at hv'; cases hv'
                  refine ⟨hm, fun q x hq hx => ?_⟩
                  by_cases a1 : x.id = v.id
                  · have a2 : x.keys = u.keys := by
                      by_cases e2 : q = p
                      · subst e2; rw [hu] at hx; cases hx; rfl
                      · rcases Nat.lt_or_gt_of_ne e2 with h | h
                        · have := (hg p hp u hu).2 q x h hx
                          simp [ok2, he, a1] at this; exact this.2
                        · have := (hg q hq x hx).2 p u h hu
                          simp [ok2, he, a1] at this; exact this.2.symm
                    simp [ok2, hkk q x hq hx, a1, a2, hks2]
                  · simp [ok2, hkk q x hq hx, a1]
                · exact hg j (by omega)
            · have hno : formed l = false := bad fun hgi => by
                have := (hgi v hv).2 p u hp hu
                simp [ok2, he, hks2] at this
              simp -implicitDefEqProofs only [op, ef, cl, sq, reduceIte, Int.reduceLT, Int.reduceLE, Int.reduceBEq, Int.reduceBNe, Int.reduceEq, Nat.reduceAdd, Nat.reduceLeDiff, Nat.reduceLT, Nat.reduceEqDiff, S1, hno, hks2, retg_ext hxx]
    · have : formed l = true := formed_t ⟨by omega, by omega, fun p hp => hg p (by omega)⟩
      simp -implicitDefEqProofs only [op, ef, cl, sq, reduceIte, Int.reduceLT, Int.reduceLE, Int.reduceBEq, Int.reduceBNe, Int.reduceEq, Nat.reduceAdd, Nat.reduceLeDiff, Nat.reduceLT, Nat.reduceEqDiff, S1, h0, h3, h4, h19, h20, h21, hlt, this, retg_ext hx]
theorem needs9n (t : T) (ad : Nat → T) (l : List Ver) (H : Heap) (vw : Vw H t l ad) (hs : Small l) (hf : ¬ Formed l) : W env (.call 9 [t]) H (fun o H' => Ext H H' ∧ o = .val (.tup [.sl .nil [], .int .i64 1])) := by
  refine W.fnI rfl rfl rfl ?_
  simp -implicitDefEqProofs only [ir9, op, ef, cl, sq, reduceIte, Int.reduceLT, Int.reduceLE, Int.reduceBEq, Int.reduceBNe, Int.reduceEq, Nat.reduceAdd, Nat.reduceLeDiff, Nat.reduceLT, Nat.reduceEqDiff, S1]
  refine callB_of _ _ _ _ _ _ _ _ (formed12v t ad l _ vw hs) ?_
  rintro u H1 ⟨hu, hx1⟩
  cases hu
  have hx1 : Ext H H1 := hx1
  simp -implicitDefEqProofs only [op, ef, cl, sq, reduceIte, Int.reduceLT, Int.reduceLE, Int.reduceBEq, Int.reduceBNe, Int.reduceEq, Nat.reduceAdd, Nat.reduceLeDiff, Nat.reduceLT, Nat.reduceEqDiff, S1, formed_f hf]
  exact hx1
theorem cut14n (t : T) (ad : Nat → T) (l : List Ver) (H : Heap) (vw : Vw H t l ad) (hs : Small l) (hf : ¬ Formed l) : W env (.call 14 [t]) H (fun o H' => Ext H H' ∧ o = .val (.bool false)) := by
  refine W.fnI rfl rfl rfl ?_
  simp -implicitDefEqProofs only [ir14, op, ef, cl, sq, reduceIte, Int.reduceLT, Int.reduceLE, Int.reduceBEq, Int.reduceBNe, Int.reduceEq, Nat.reduceAdd, Nat.reduceLeDiff, Nat.reduceLT, Nat.reduceEqDiff, S1]
  refine callB_of _ _ _ _ _ _ _ _ (needs9n t ad l _ vw hs hf) ?_
  rintro u H1 ⟨hx1, hu⟩
  cases hu
  simp -implicitDefEqProofs only [op, ef, cl, sq, reduceIte, Int.reduceLT, Int.reduceLE, Int.reduceBEq, Int.reduceBNe, Int.reduceEq, Nat.reduceAdd, Nat.reduceLeDiff, Nat.reduceLT, Nat.reduceEqDiff, S1]
  exact hx1
theorem mend16n (t : T) (ad : Nat → T) (l : List Ver) (t' : T) (H : Heap) (vw : Vw H t l ad) (hs : Small l) (hf : ¬ Formed l) : W env (.call 16 [t, t']) H (fun o H' => Ext H H' ∧ o = .val (.tup [.sl .nil [], .int .i64 1])) := by
  refine W.fnrI rfl rfl ?_
  simp -implicitDefEqProofs only [ir16, op, ef, cl, sq, reduceIte, Int.reduceLT, Int.reduceLE, Int.reduceBEq, Int.reduceBNe, Int.reduceEq, Nat.reduceAdd, Nat.reduceLeDiff, Nat.reduceLT, Nat.reduceEqDiff, S1]
  refine callB_of _ _ _ _ _ _ _ _ (formed12v t ad l _ vw hs) ?_
  rintro u H1 ⟨hu, hx1⟩
  cases hu
  have hx1 : Ext H H1 := hx1
  simp -implicitDefEqProofs only [op, ef, cl, sq, reduceIte, Int.reduceLT, Int.reduceLE, Int.reduceBEq, Int.reduceBNe, Int.reduceEq, Nat.reduceAdd, Nat.reduceLeDiff, Nat.reduceLT, Nat.reduceEqDiff, S1, formed_f hf]
  refine endR_0 rfl ?_
  simp -implicitDefEqProofs only [op, ef, cl, sq, reduceIte, Int.reduceLT, Int.reduceLE, Int.reduceBEq, Int.reduceBNe, Int.reduceEq, Nat.reduceAdd, Nat.reduceLeDiff, Nat.reduceLT, Nat.reduceEqDiff, S1]
  exact hx1
theorem Vw.ext {H H' : Heap} {t : T} {l : List Ver} {ad : Nat → T} (h : Vw H t l ad) (hx : Ext H H') : Vw H' t l ad :=
  ⟨fun H'' h2 => h.len H'' (hx.trans h2), h.iad, fun i v H'' h2 hv => h.ld i v H'' (hx.trans h2) hv, fun i v H'' h2 hv => h.f3 i v H'' (hx.trans h2) hv⟩
end Go.Proofs.Ytobnjpgggocdlaa.Fx
end

/-! text FixV -/
section
namespace Go.Proofs.Ytobnjpgggocdlaa.Fx
open Go.Rmp Go.Proofs.Ytobnjpgggocdlaa.Ir
set_option maxRecDepth 10000
/-! the plain law of FixWhole: of lists that a read may have brought -/
theorem IsV.may {masks : List Int} {v : Ver} (h : IsV masks v) : Fx.may v = true := by
  rcases h with h | ⟨w, m, _, hk, h⟩
  · rw [h]; simp [Fx.may, botA]
  · rw [h]
    have h1 := keysOf_rises m
    have h2 := (keysOf_len m).2
    have h3 : ¬ (65536 * (w + 1) = 0) := by omega
    have h4 : 65536 ≤ 65536 * (w + 1) := by omega
    have h5 : (keysOf m).length ≤ 1024 := by omega
    simp [Fx.may, mk, h1, h3, h4, h5, hk]
theorem IsV.keys {masks : List Int} {u v : Ver} (hu : IsV masks u) (hv : IsV masks v) (h : u.id = v.id) : u.keys = v.keys := by
  rcases hu with hu | ⟨w, m, hm, _, hu⟩ <;> rcases hv with hv | ⟨w', m', hm', _, hv⟩
  · rw [hu, hv]; rfl
  · rw [hu, hv] at h; simp [botA, mk] at h
  · rw [hu, hv] at h; simp [botA, mk] at h
  · have hww : w = w' := by rw [hu, hv] at h; simp -implicitDefEqProofs only [mk] at h; omega
    subst hww; rw [hm] at hm'; cases hm'
    rw [hu, hv]; rfl
theorem IsB.formed {masks : List Int} {l : List Ver} (h : IsB masks l) : Formed l := by
  rw [f_iff]
  refine ⟨h.1, by have := h.2.1; omega, fun v hv => (h.2.2.1 v hv).may, fun i k u v hki hu hv => ?_⟩
  have hne : u.key ≠ v.key := fun e => by
    have h4 := h.2.2.2
    rw [List.Nodup, List.pairwise_iff_getElem] at h4
    have hi := (List.getElem?_eq_some_iff.1 hv)
    have hk := (List.getElem?_eq_some_iff.1 hu)
    obtain ⟨hi, ei⟩ := hi
    obtain ⟨hk, ek⟩ := hk
    have := h4 k i (by simpa using hk) (by simpa using hi) hki
    simp -implicitDefEqProofs only [List.getElem_map, ek, ei] at this
    exact this e
  have hks := (h.2.2.1 u (List.mem_of_getElem? hu)).keys (h.2.2.1 v (List.mem_of_getElem? hv))
  by_cases e : u.id = v.id
  · simp [ok2, hne, hks e]
  · simp [ok2, hne, e]
theorem IsV.kk {masks : List Int} {v : Ver} (h : IsV masks v) : v.kk = .arg ∧ v.keys.length ≤ 8 := by
  rcases h with h | ⟨w, m, _, _, h⟩
  · rw [h]; simp [botA]
  · rw [h]; exact ⟨rfl, (keysOf_len m).2⟩
theorem IsB.small {masks : List Int} {l : List Ver} (h : IsB masks l) : Small l := ⟨by have := h.2.1; omega, fun v hv => by have := (h.2.2.1 v hv).kk.2; omega⟩
theorem IsB.nil {masks : List Int} {l : List Ver} (h : IsB masks l) : NilOk l := fun v hv => ⟨by rw [(h.2.2.1 v hv).kk.1]; exact (fun h => by cases h), by have := (h.2.2.1 v hv).kk.2; omega⟩
/-- the write that a key is wanted of -/
theorem IsB.greatest {masks : List Int} {l : List Ver} (h : IsB masks l) {k : ByteArray} (hk : 0 < gr l k) : ∃ (w : Nat) (m : Int), masks[w]? = some m ∧ memB (keysOf m) k = true ∧ gr l k = 65536 * (w + 1) ∧ ∃ x ∈ l, x.id = gr l k ∧ x.keys = keysOf m := by
  rcases gr_is l k with h0 | ⟨v, hv, hm, he⟩
  · omega
  · rcases h.2.2.1 v hv with hb | ⟨w, m, hw, _, hb⟩
    · rw [hb] at he; simp [botA] at he; omega
    · refine ⟨w, m, hw, ?_, ?_, v, hv, he, ?_⟩
      · rw [hb] at hm; exact hm
      · rw [← he, hb]; rfl
      · rw [hb]; rfl
def up (masks : List Int) (l : List Ver) (u : Ver) : Ver := if u.id < gr l u.key then mk (masks.getD (gr l u.key / 65536 - 1) 0) (gr l u.key / 65536 - 1) u.key else u
theorem up_is {masks : List Int} {l : List Ver} (h : IsB masks l) {u : Ver} (hu : u ∈ l) : (up masks l u).key = u.key ∧ IsV masks (up masks l u) ∧ (up masks l u).id = max u.id (gr l u.key) ∧ ∃ x ∈ l, x.id = (up masks l u).id ∧ x.keys = (up masks l u).keys := by
  unfold up
  by_cases hlt : u.id < gr l u.key
  · obtain ⟨w, m, hw, hk, hg, x, hx, hxi, hxk⟩ := h.greatest (k := u.key) (by omega)
    have e : gr l u.key / 65536 - 1 = w := by omega
    have e2 : masks.getD w 0 = m := by rw [List.getD_eq_getElem?_getD, hw]; rfl
    simp -implicitDefEqProofs only [hlt, if_true, e, e2]
    exact ⟨rfl, .inr ⟨w, m, hw, hk, rfl⟩, by simp -implicitDefEqProofs only [mk]; omega, x, hx, by rw [hxi, hg]; rfl, by rw [hxk]; rfl⟩
  · simp -implicitDefEqProofs only [hlt, if_false]
    exact ⟨trivial, h.2.2.1 u hu, by omega, u, hu, rfl, rfl⟩
theorem up_B {masks : List Int} {l : List Ver} (h : IsB masks l) : IsB masks (l.map (up masks l)) := by
  refine ⟨by simpa using h.1, by simpa using h.2.1, fun v hv => ?_, ?_⟩
  · obtain ⟨u, hu, rfl⟩ := List.mem_map.1 hv; exact (up_is h hu).2.1
  · have : (l.map (up masks l)).map Ver.key = l.map Ver.key := by
      rw [List.map_map]; exact List.map_congr_left fun u hu => (up_is h hu).1
    rw [this]; exact h.2.2.2
theorem up_cut {masks : List Int} {l : List Ver} (h : IsB masks l) : wants (l.map (up masks l)) = [] := by
  rw [wants_nil]
  intro u' hu' v' hv' hm
  obtain ⟨u, hu, rfl⟩ := List.mem_map.1 hu'
  obtain ⟨v, hv, rfl⟩ := List.mem_map.1 hv'
  obtain ⟨x, hx, hxi, hxk⟩ := (up_is h hv).2.2.2
  rw [← hxk, (up_is h hu).1] at hm
  have := gr_ge hx hm
  rw [← hxi, (up_is h hu).2.2.1]
  omega
theorem mends_all {f : Ver → Option Ver} {g : Ver → Ver} : ∀ {l : List Ver}, (∀ u ∈ l, f u = some (g u)) → mends f l = some (l.map g)
  | [], _ => rfl
  | u :: l, h => by
    have := mends_all (l := l) (fun v hv => h v (by simp [hv]))
    simp [mends, h u (by simp), this]
/-- what was fetched: each of a write -/
def GotOk (masks : List Int) (got : List Ver) : Prop := ∀ v ∈ got, ∃ (w : Nat) (m : Int), masks[w]? = some m ∧ v = mk m w v.key
theorem GotOk.nil (masks : List Int) : GotOk masks [] := fun v hv => by cases hv
theorem GotOk.snoc {masks : List Int} {got : List Ver} (h : GotOk masks got) {w : Nat} {m : Int} (hw : masks[w]? = some m) (k : ByteArray) : GotOk masks (got ++ [mk m w k]) := fun v hv => by
  rcases List.mem_append.1 hv with hv | hv
  · exact h v hv
  · simp at hv; subst hv; exact ⟨w, m, hw, rfl⟩
theorem GotOk.small {masks : List Int} {got : List Ver} (h : GotOk masks got) : NilOk got := fun v hv => by
  obtain ⟨w, m, _, e⟩ := h v hv
  rw [e]; exact ⟨fun h => (by cases h), by have := (keysOf_len m).2; simp -implicitDefEqProofs only [mk]; omega⟩
theorem got_of {masks : List Int} {got : List Ver} (h : GotOk masks got) {w : Nat} {m : Int} {k : ByteArray} (hw : masks[w]? = some m) (hin : mk m w k ∈ got) : gotOf got k (65536 * (w + 1)) = some (mk m w k) := by
  unfold gotOf
  cases hf : got.find? fun v => decide (v.key = k) && decide (v.id = 65536 * (w + 1)) with
  | none => have := List.find?_eq_none.1 hf _ hin; simp [mk] at this
  | some v =>
    have h1 := List.find?_some hf
    have h2 := List.mem_of_find?_eq_some hf
    obtain ⟨w', m', hw', e⟩ := h v h2
    simp -implicitDefEqProofs only [Bool.and_eq_true, decide_eq_true_eq] at h1
    obtain ⟨rfl, h1⟩ := h1
    rw [e] at h1
    simp -implicitDefEqProofs only [mk] at h1
    have : w' = w := by omega
    subst this
    rw [hw] at hw'; cases hw'
    rw [e]; rfl
theorem mend_up {masks : List Int} {l got : List Ver} (h : IsB masks l) (hg : GotOk masks got) (hw : ∀ u ∈ l, u.id < gr l u.key → up masks l u ∈ got) : mendL l got = l.map (up masks l) ∧ mendE l got = 0 := by
  have : mends (mendO l got) l = some (l.map (up masks l)) := mends_all fun u hu => by
    unfold mendO mendOne
    by_cases hlt : u.id < gr l u.key
    · obtain ⟨w, m, hm, hk, hgr, _⟩ := h.greatest (k := u.key) (by omega)
      have e : gr l u.key / 65536 - 1 = w := by omega
      have e2 : masks.getD w 0 = m := by rw [List.getD_eq_getElem?_getD, hm]; rfl
      have hup : up masks l u = mk m w u.key := by rw [up, if_pos hlt, e, e2]
      have := got_of hg hm (hup ▸ hw u hu hlt)
      rw [if_pos hlt, hgr, this, hup]; rfl
    · have := ((h.2.2.1 u hu).kk).1
      rw [if_neg hlt, up, if_neg hlt]
      simp -implicitDefEqProofs only [Option.map_some, setK, ← this]
  simp [mendL, mendE, h.formed, this]
theorem mend_none {masks : List Int} {l : List Ver} (h : IsB masks l) (hw : wants l = []) : mendL l [] = l ∧ mendE l [] = 0 := by
  have hn : ∀ u ∈ l, ¬ u.id < gr l u.key := fun u hu hlt => by
    have : (u.key, gr l u.key) ∈ wants l := by
      unfold wants wants'; exact List.mem_map.2 ⟨u, by simp [hu, hlt], rfl⟩
    rw [hw] at this; cases this
  have := mend_up h (GotOk.nil masks) (fun u hu hlt => absurd hlt (hn u hu))
  have e : l.map (up masks l) = l := by
    conv => rhs; rw [← List.map_id l]
    exact List.map_congr_left fun u hu => by rw [up, if_neg (hn u hu)]; rfl
  rw [e] at this; exact this
end Go.Proofs.Ytobnjpgggocdlaa.Fx
end

/-! text FixX -/
section
namespace Go.Proofs.Ytobnjpgggocdlaa.Fx
open Go.Rmp Go.Proofs.Ytobnjpgggocdlaa.Ir
set_option maxRecDepth 10000
theorem allI (l : List Int) : (encI l).all (fun c => c.length == 1) = true := all_map (n := 1) (fun _ => rfl) l
theorem takeI (l : List Int) (n : Nat) : (encI l).take n = encI (l.take n) := by simp [encI, List.map_take]
theorem mnN (a b : Nat) : (if ((b : Nat) : Int) < ((a : Nat) : Int) then ((b : Nat) : Int) else ((a : Nat) : Int)) = ((min a b : Nat) : Int) := by
  split <;> omega
theorem mn60 (a : Nat) : (if (60 : Int) < ((a : Nat) : Int) then (60 : Int) else ((a : Nat) : Int)) = ((min a 60 : Nat) : Int) := mnN a 60
theorem wants_get {l : List Ver} {i : Nat} {p : ByteArray × Nat} (h : (wants l)[i]? = some p) : ∃ u ∈ l, u.id < gr l u.key ∧ p = (u.key, gr l u.key) := by
  have := List.mem_of_getElem? h
  unfold wants wants' at this
  obtain ⟨u, hu, rfl⟩ := List.mem_map.1 this
  have hu := List.mem_filter.1 hu
  exact ⟨u, hu.1, by simpa using hu.2, rfl⟩
theorem wants_has {l : List Ver} {u : Ver} (hu : u ∈ l) (h : u.id < gr l u.key) : ∃ i : Nat, (wants l)[i]? = some (u.key, gr l u.key) := by
  have : (u.key, gr l u.key) ∈ wants l := by
    unfold wants wants'; exact List.mem_map.2 ⟨u, by simp [hu, h], rfl⟩
  exact List.mem_iff_getElem?.1 this
theorem keys0 (m : Int) : ∃ i, (keysOf m)[0]? = some (keyT i) := by
  unfold keysOf; split
  · exact ⟨0, rfl⟩
  · rename_i h
    cases hk : keysN m 8 with
    | nil => exact absurd hk h
    | cons a t =>
      have : a ∈ keysN m 8 := by rw [hk]; simp
      unfold keysN at this
      obtain ⟨i, _, rfl⟩ := List.mem_map.1 this
      exact ⟨i, rfl⟩
theorem idw (w : Nat) (h : w < 60) : IntKind.i64.wrap ((IntKind.i64.wrap (IntKind.u64.wrap ((((65536 * (w + 1) : Nat) : Int)).tdiv 65536))) - 1) = (w : Int) := by
  have e : (((65536 * (w + 1) : Nat) : Int)).tdiv 65536 = ((w + 1 : Nat) : Int) := by
    rw [show (65536 : Int) = ((65536 : Nat) : Int) by rfl, ← Int.ofNat_tdiv]
    congr 1; omega
  have a1 : IntKind.i64.wrap ((w + 1 : Nat) : Int) = ((w + 1 : Nat) : Int) := wrap64 (by omega)
  rw [e, wrapu64 (by omega), a1, wrap64 (by omega)]
  omega
theorem slice1 {xs : List Ver} {i : Nat} {x : Ver} (h : xs[i]? = some x) : ((encVs xs).take (i + 1)).drop i = encVs [x] := by
  have hi := (List.getElem?_eq_some_iff.1 h).1
  have e : (xs.take i).length = i := by simp; omega
  rw [encVs, ← List.map_take, ← List.map_drop, take_snoc h, List.drop_append, e, Nat.sub_self, List.drop_eq_nil_of_le (by omega)]
  rfl
theorem whole5 (k0 k3 k4 : SK) (masks : List Int) (read turn : Int) (picks more : List Int) (H : Heap) (hml : masks.length < 4611686018427387903) (ht : Num turn) (hp : ∀ p ∈ picks, Num p) (hpl : picks.length < 4611686018427387903) (hm : ∀ p ∈ more, Num p) (hmo : more.length < 4611686018427387903) :
    W env (.call 5 [.sl k0 (encI masks), .int .i64 read, .int .i64 turn, .sl k3 (encI picks), .sl k4 (encI more)]) H Tru := by
  refine W.fnI rfl rfl rfl ?_
  have hn : min masks.length 60 ≤ masks.length := Nat.min_le_left _ _
  simp -implicitDefEqProofs only [ir5, op, ef, cl, sq, reduceIte, Int.reduceLT, Int.reduceLE, Int.reduceBEq, Int.reduceBNe, Int.reduceEq, Nat.reduceAdd, Nat.reduceLeDiff, Nat.reduceLT, Nat.reduceEqDiff, S1, encI_len, mn60, natOf_nat, Nat.zero_le, hn, allI, takeI]
  generalize hM : masks.take (min masks.length 60) = M
  have hMl : M.length ≤ 60 := by rw [← hM]; simp; omega
  refine callB_of _ _ _ _ _ _ _ _ (brought19 _ k3 M read turn picks _ hMl ht hp hpl) ?_
  rintro u H1 ⟨hx1, kl, hu⟩
  cases hu
  have hB := brought_is M read turn picks
  generalize brought M read turn picks (keysOf read).length = l at *
  have hf := hB.formed
  have hl8 := hB.2.1
  have hnl : needs l = wants l := if_pos hf
  have hne : needsE l = 0 := if_pos hf
  have hwl : (wants l).length ≤ 8 := Nat.le_trans (wants_le l l) hl8
  simp -implicitDefEqProofs only [op, ef, cl, sq, reduceIte, Int.reduceLT, Int.reduceLE, Int.reduceBEq, Int.reduceBNe, Int.reduceEq, Nat.reduceAdd, Nat.reduceLeDiff, Nat.reduceLT, Nat.reduceEqDiff, S1]
  refine callB_of _ _ _ _ _ _ _ _ (needs9 kl l _ hB.small) ?_
  rintro u H2 ⟨hx2, kn, hu⟩
  rw [hnl, hne] at hu
  cases hu
  simp -implicitDefEqProofs only [op, ef, cl, sq, reduceIte, Int.reduceLT, Int.reduceLE, Int.reduceBEq, Int.reduceBNe, Int.reduceEq, Nat.reduceAdd, Nat.reduceLeDiff, Nat.reduceLT, Nat.reduceEqDiff, S1]
  refine callB_of _ _ _ _ _ _ _ _ (known11 _) ?_
  rintro u H3 ⟨hu, hx3⟩
  cases hu
  simp -implicitDefEqProofs only [op, ef, cl, sq, reduceIte, Int.reduceLT, Int.reduceLE, Int.reduceBEq, Int.reduceBNe, Int.reduceEq, Nat.reduceAdd, Nat.reduceLeDiff, Nat.reduceLT, Nat.reduceEqDiff, S1]
  refine callB_of _ _ _ _ _ _ _ _ (formed12 kl l _ hB.small) ?_
  rintro u H4 ⟨hu, hx4⟩
  rw [formed_t hf] at hu
  cases hu
  simp -implicitDefEqProofs only [op, ef, cl, sq, reduceIte, Int.reduceLT, Int.reduceLE, Int.reduceBEq, Int.reduceBNe, Int.reduceEq, Nat.reduceAdd, Nat.reduceLeDiff, Nat.reduceLT, Nat.reduceEqDiff, S1]
  refine callB_of _ _ _ _ _ _ _ _ (cut14 kl l _ hB.small) ?_
  rintro u H5 ⟨hu, hx5⟩
  cases hu
  have hcut : cutB l = decide ((wants l).length = 0) := by simp [cutB, formed_t hf]
  simp -implicitDefEqProofs only [op, ef, cl, sq, reduceIte, Int.reduceLT, Int.reduceLE, Int.reduceBEq, Int.reduceBNe, Int.reduceEq, Nat.reduceAdd, Nat.reduceLeDiff, Nat.reduceLT, Nat.reduceEqDiff, S1, encWs_len, hcut]
  refine W.loopE 0 (fun (i : Nat) R H' => At H' (fun H' => ∃ kw got, R 14 = .sl kw (encVs got) ∧ GotOk M got ∧ got.length ≤ i ∧ H5.length ≤ H'.length ∧ Apd H5.length H' kw) ∧ (∃ kM, R 0 = .sl kM (encI M)) ∧ R 4 = .sl k4 (encI more) ∧ R 11 = .sl kl (encVs l) ∧ R 12 = .sl kn (encWs (wants l)) ∧ R 15 = .int .i64 i ∧ i ≤ 20 ∧ i ≤ more.length) (fun i => 20 - i) 0
    (fun R H' => At H' (fun H' => ∃ kw got, R 14 = .sl kw (encVs got) ∧ GotOk M got ∧ got.length ≤ 20 ∧ H5.length ≤ H'.length ∧ Apd H5.length H' kw) ∧ (∃ kM, R 0 = .sl kM (encI M)) ∧ R 11 = .sl kl (encVs l) ∧ R 12 = .sl kn (encWs (wants l)))
    ⟨.i ⟨.nil, [], rfl, GotOk.nil M, Nat.le_refl _, Nat.le_refl _, apd_nil _ _⟩, ⟨_, rfl⟩, rfl, rfl, rfl, rfl, Nat.zero_le _, Nat.zero_le _⟩ ?_ ?_
  · rintro i R H6 ⟨⟨kw, got, g14, hgo, hgl, hlen, hap⟩, ⟨kM, g0⟩, g4, g11, g12, g15, hi, him⟩
    by_cases hc : i < more.length ∧ 0 < M.length ∧ i < 20
    · obtain ⟨hc1, hc2, hc3⟩ := hc
      obtain ⟨p, hpp⟩ := getI hc1
      have wsi := wrap_succ (show i < 9223372036854775807 by omega)
      have w1 : IntKind.i64.wrap ((M.length : Int) - 1) = ((M.length - 1 : Nat) : Int) := by rw [wrap64 (by omega)]; omega
      simp -implicitDefEqProofs only [op, ef, cl, sq, reduceIte, Int.reduceLT, Int.reduceLE, Int.reduceBEq, Int.reduceBNe, Int.reduceEq, Nat.reduceAdd, Nat.reduceLeDiff, Nat.reduceLT, Nat.reduceEqDiff, S1, g0, g4, g15, encI_len, hc1, hc2, hc3, iadI hpp, w1]
      refine callB_of _ _ _ _ _ _ _ _ (rest20 p (M.length - 1) (by omega) (hm p (List.mem_of_getElem? hpp)) _) ?_
      rintro u H7 ⟨hu, rfl⟩
      cases hu
      have hrl := restI_le p (M.length - 1)
      generalize restI p (M.length - 1) = n at *
      obtain ⟨m, hmn⟩ := getI (l := M) (i := n) (by omega)
      simp -implicitDefEqProofs only [op, ef, cl, sq, reduceIte, Int.reduceLT, Int.reduceLE, Int.reduceBEq, Int.reduceBNe, Int.reduceEq, Nat.reduceAdd, Nat.reduceLeDiff, Nat.reduceLT, Nat.reduceEqDiff, S1, g0, g14, natOf_nat, iadI hmn]
      refine callB_of _ _ _ _ _ _ _ _ (keys22 m _) ?_
      rintro u H8 ⟨hx8, k1, hk1, hu⟩
      cases hu
      obtain ⟨j, hj⟩ := keys0 m
      have n0 : natOf (.int .i64 0) = some 0 := rfl
      simp -implicitDefEqProofs only [op, ef, cl, sq, reduceIte, Int.reduceLT, Int.reduceLE, Int.reduceBEq, Int.reduceBNe, Int.reduceEq, Nat.reduceAdd, Nat.reduceLeDiff, Nat.reduceLT, Nat.reduceEqDiff, S1, n0, iadS hj]
      refine callB_of _ _ _ _ _ _ _ _ (made21 _ M n m (keyT j) _ hmn (by omega) (by rw [keyT_size]; omega)) ?_
      rintro u H9 ⟨hx9, k2, hk2, hu⟩
      cases hu
      obtain ⟨k5, H10, ha, hap9, hst⟩ := app_ok (bytes := 64) (encVs got) [[T.str (keyT j), T.int .u64 ((65536 * (n + 1) : Nat) : Int), T.str (keyT j ++ ⟨#[UInt8.ofNat n]⟩), T.sl .arg (encS (keysOf m))]] ((hap.ext hx8).ext hx9) (by have := hx8.len; have := hx9.len; omega) (by simp) (roomT (by simp -implicitDefEqProofs only [encVs_len, List.length_cons, List.length_nil]; omega))
      simp -implicitDefEqProofs only [op, ef, cl, sq, reduceIte, Int.reduceLT, Int.reduceLE, Int.reduceBEq, Int.reduceBNe, Int.reduceEq, Nat.reduceAdd, Nat.reduceLeDiff, Nat.reduceLT, Nat.reduceEqDiff, S1, mkapp] at ha
      simp -implicitDefEqProofs only [op, ef, cl, sq, reduceIte, Int.reduceLT, Int.reduceLE, Int.reduceBEq, Int.reduceBNe, Int.reduceEq, Nat.reduceAdd, Nat.reduceLeDiff, Nat.reduceLT, Nat.reduceEqDiff, S1, setK, mk, encV, g15, allV, ha, wsi]
      refine ⟨i + 1, by omega, .i ⟨k5, got ++ [mk m n (keyT j)], ?_, hgo.snoc hmn _, by simp; omega, by have := hx8.len; have := hx9.len; have := hst.len; omega, hap9⟩, ?_⟩
      · simp -implicitDefEqProofs only [op, ef, cl, sq, reduceIte, Int.reduceLT, Int.reduceLE, Int.reduceBEq, Int.reduceBNe, Int.reduceEq, Nat.reduceAdd, Nat.reduceLeDiff, Nat.reduceLT, Nat.reduceEqDiff, S1, mk]
      · simp -implicitDefEqProofs only [g0, g4, g11, g12, true_and]
        exact ⟨⟨_, rfl⟩, by omega⟩
    · have hcc : ¬ i < more.length ∨ (i < more.length ∧ ¬ 0 < M.length) ∨ (i < more.length ∧ 0 < M.length ∧ ¬ i < 20) := by omega
      rcases hcc with hc1 | ⟨hc1, hc2⟩ | ⟨hc1, hc2, hc3⟩
      · simp -implicitDefEqProofs only [op, ef, cl, sq, reduceIte, Int.reduceLT, Int.reduceLE, Int.reduceBEq, Int.reduceBNe, Int.reduceEq, Nat.reduceAdd, Nat.reduceLeDiff, Nat.reduceLT, Nat.reduceEqDiff, S1, g0, g4, g11, g12, g15, encI_len, hc1]
        exact ⟨.i ⟨kw, got, g14, hgo, by omega, hlen, hap⟩, kM, rfl⟩
      · simp -implicitDefEqProofs only [op, ef, cl, sq, reduceIte, Int.reduceLT, Int.reduceLE, Int.reduceBEq, Int.reduceBNe, Int.reduceEq, Nat.reduceAdd, Nat.reduceLeDiff, Nat.reduceLT, Nat.reduceEqDiff, S1, g0, g4, g11, g12, g15, encI_len, hc1, hc2]
        exact ⟨.i ⟨kw, got, g14, hgo, by omega, hlen, hap⟩, kM, rfl⟩
      · simp -implicitDefEqProofs only [op, ef, cl, sq, reduceIte, Int.reduceLT, Int.reduceLE, Int.reduceBEq, Int.reduceBNe, Int.reduceEq, Nat.reduceAdd, Nat.reduceLeDiff, Nat.reduceLT, Nat.reduceEqDiff, S1, g0, g4, g11, g12, g15, encI_len, hc1, hc2, hc3]
        exact ⟨.i ⟨kw, got, g14, hgo, by omega, hlen, hap⟩, kM, rfl⟩
  rintro R H6 ⟨⟨kw, got, g14, hgo, hgl, hlen, hap⟩, ⟨kM, g0⟩, g11, g12⟩
  have hww : IntKind.i64.wrap (((wants l).length : Int) - 1) = ((wants l).length : Int) - 1 := wrap64 (by omega)
  simp -implicitDefEqProofs only [op, ef, cl, sq, reduceIte, Int.reduceLT, Int.reduceLE, Int.reduceBEq, Int.reduceBNe, Int.reduceEq, Nat.reduceAdd, Nat.reduceLeDiff, Nat.reduceLT, Nat.reduceEqDiff, S1, g0, g11, g12, g14, encWs_len, hww]
  refine W.loopE 2 (fun (x : Nat) R H' => At H' (fun H' => ∃ kw got, R 14 = .sl kw (encVs got) ∧ GotOk M got ∧ got.length + x ≤ 20 + (wants l).length ∧ H5.length ≤ H'.length ∧ Apd H5.length H' kw ∧ ∀ j u, x ≤ j → u ∈ l → (wants l)[j]? = some (u.key, gr l u.key) → u.id < gr l u.key → up M l u ∈ got) ∧ (∃ kM, R 0 = .sl kM (encI M)) ∧ R 11 = .sl kl (encVs l) ∧ R 12 = .sl kn (encWs (wants l)) ∧ R 17 = .int .i64 ((x : Int) - 1) ∧ x ≤ (wants l).length) (fun x => x) (wants l).length
    (fun R H' => At H' (fun H' => ∃ kw got, R 14 = .sl kw (encVs got) ∧ GotOk M got ∧ got.length ≤ 28 ∧ ∀ u, u ∈ l → u.id < gr l u.key → up M l u ∈ got) ∧ R 11 = .sl kl (encVs l) ∧ R 12 = .sl kn (encWs (wants l))) ?_ ?_ ?_
  · refine ⟨.i ⟨kw, got, ?_, hgo, by omega, hlen, hap, fun j u hj hu hw => ?_⟩, ?_⟩
    · simp -implicitDefEqProofs only [op, ef, cl, sq, reduceIte, Int.reduceLT, Int.reduceLE, Int.reduceBEq, Int.reduceBNe, Int.reduceEq, Nat.reduceAdd, Nat.reduceLeDiff, Nat.reduceLT, Nat.reduceEqDiff, S1, g14]
    · rw [List.getElem?_eq_none hj] at hw; cases hw
    · simp -implicitDefEqProofs only [op, ef, cl, sq, reduceIte, Int.reduceLT, Int.reduceLE, Int.reduceBEq, Int.reduceBNe, Int.reduceEq, Nat.reduceAdd, Nat.reduceLeDiff, Nat.reduceLT, Nat.reduceEqDiff, S1, g0, g11, g12]
      exact ⟨⟨kM, rfl⟩, Nat.le_refl _⟩
  · rintro x R H7 ⟨⟨kw, got, f14, fgo, fgl, flen, fap, fall⟩, ⟨kM, f0⟩, f11, f12, f17, hx⟩
    cases x with
    | zero =>
      have e : (((0 : Nat) : Int) - 1) = -1 := by decide
      rw [e] at f17
      simp -implicitDefEqProofs only [op, ef, cl, sq, reduceIte, Int.reduceLT, Int.reduceLE, Int.reduceBEq, Int.reduceBNe, Int.reduceEq, Nat.reduceAdd, Nat.reduceLeDiff, Nat.reduceLT, Nat.reduceEqDiff, S1, f0, f11, f12, f14, f17]
      exact .i ⟨kw, got, rfl, fgo, by omega, fun u hu hlt => by
        obtain ⟨j, hj⟩ := wants_has hu hlt
        exact fall j u (Nat.zero_le _) hu hj hlt⟩
    | succ j =>
      obtain ⟨q, hq⟩ : ∃ q, (wants l)[j]? = some q := ⟨(wants l)[j]'(by omega), List.getElem?_eq_getElem (by omega)⟩
      obtain ⟨u, hu, hult, rfl⟩ := wants_get hq
      obtain ⟨w, m, hw, hmk, hgw, _⟩ := hB.greatest (k := u.key) (by omega)
      have hup : up M l u = mk m w u.key := by
        have e : gr l u.key / 65536 - 1 = w := by omega
        have e2 : M.getD w 0 = m := by rw [List.getD_eq_getElem?_getD, hw]; rfl
        rw [up, if_pos hult, e, e2]
      have hwl2 := (List.getElem?_eq_some_iff.1 hw).1
      have e : (((j + 1 : Nat) : Int) - 1) = (j : Int) := by omega
      have w1 : IntKind.i64.wrap ((j : Int) - 1) = (j : Int) - 1 := wrap64 (by omega)
      have e3 : decide ((0 : Int) ≤ (j : Int)) = true := by simp
      have e4 : decide ((w : Int) < 0) = false := by simp
      have iw : iadT 2 j (.sl kn (encWs (wants l))) = some (.iptr [.str u.key, .int .u64 ((65536 * (w + 1) : Nat) : Int)]) := by rw [← hgw]; exact iad_map (enc := encW) hq rfl (by decide)
      have hks : u.key.size ≤ 100 := by
        have := memB_iff.1 hmk
        rw [keysOf_size this]; omega
      rw [e] at f17
      have hiw := idw w (by omega)
      have nle : ¬ M.length ≤ w := by omega
      simp -implicitDefEqProofs only [op, ef, cl, sq, reduceIte, Int.reduceLT, Int.reduceLE, Int.reduceBEq, Int.reduceBNe, Int.reduceEq, Nat.reduceAdd, Nat.reduceLeDiff, Nat.reduceLT, Nat.reduceEqDiff, S1, f0, f11, f12, f14, f17, e3, e4, iw, hiw, natOf_nat, encI_len, nle, iadI hw]
      refine callB_of _ _ _ _ _ _ _ _ (keys22 m _) ?_
      rintro u' H8 ⟨hx8, k1, hk1, hu'⟩
      cases hu'
      have hkl := keysOf_len m
      simp -implicitDefEqProofs only [op, ef, cl, sq, reduceIte, Int.reduceLT, Int.reduceLE, Int.reduceBEq, Int.reduceBNe, Int.reduceEq, Nat.reduceAdd, Nat.reduceLeDiff, Nat.reduceLT, Nat.reduceEqDiff, S1]
      refine callB_of _ _ _ _ _ _ _ _ (has23 k1 (keysOf m) u.key _ (by omega)) ?_
      rintro u' H9 ⟨hu', rfl⟩
      rw [hmk] at hu'
      cases hu'
      simp -implicitDefEqProofs only [op, ef, cl, sq, reduceIte, Int.reduceLT, Int.reduceLE, Int.reduceBEq, Int.reduceBNe, Int.reduceEq, Nat.reduceAdd, Nat.reduceLeDiff, Nat.reduceLT, Nat.reduceEqDiff, S1, f0, f12, f14, f17, iw, natOf_nat]
      refine callB_of _ _ _ _ _ _ _ _ (made21 _ M w m u.key _ hw (by omega) hks) ?_
      rintro u' H10 ⟨hx9, k2, hk2, hu'⟩
      cases hu'
      obtain ⟨k5, H11, ha, hap9, hst⟩ := app_ok (bytes := 64) (encVs got) [[T.str u.key, T.int .u64 ((65536 * (w + 1) : Nat) : Int), T.str (u.key ++ ⟨#[UInt8.ofNat w]⟩), T.sl .arg (encS (keysOf m))]] ((fap.ext hx8).ext hx9) (by have := hx8.len; have := hx9.len; omega) (by simp) (roomT (by simp -implicitDefEqProofs only [encVs_len, List.length_cons, List.length_nil]; omega))
      simp -implicitDefEqProofs only [op, ef, cl, sq, reduceIte, Int.reduceLT, Int.reduceLE, Int.reduceBEq, Int.reduceBNe, Int.reduceEq, Nat.reduceAdd, Nat.reduceLeDiff, Nat.reduceLT, Nat.reduceEqDiff, S1, mkapp] at ha
      simp -implicitDefEqProofs only [op, ef, cl, sq, reduceIte, Int.reduceLT, Int.reduceLE, Int.reduceBEq, Int.reduceBNe, Int.reduceEq, Nat.reduceAdd, Nat.reduceLeDiff, Nat.reduceLT, Nat.reduceEqDiff, S1, setK, mk, encV, f0, f11, f12, f17, allV, ha, w1]
      refine ⟨j, by omega, .i ⟨k5, got ++ [mk m w u.key], ?_, fgo.snoc hw _, by simp; omega, by have := hx8.len; have := hx9.len; have := hst.len; omega, hap9, ?_⟩, ?_⟩
      · simp -implicitDefEqProofs only [op, ef, cl, sq, reduceIte, Int.reduceLT, Int.reduceLE, Int.reduceBEq, Int.reduceBNe, Int.reduceEq, Nat.reduceAdd, Nat.reduceLeDiff, Nat.reduceLT, Nat.reduceEqDiff, S1, mk]
      · intro j' u' hj' hu' hw' hlt'
        by_cases ej : j' = j
        · subst ej
          rw [hq] at hw'
          simp -implicitDefEqProofs only [Option.some.injEq, Prod.mk.injEq] at hw'
          have hk := hw'.1
          have : u' = u := by
            obtain ⟨p, hp, ep⟩ := List.getElem_of_mem hu
            obtain ⟨p', hp', ep'⟩ := List.getElem_of_mem hu'
            have := key_one hf (u := u) (w := u') (by rw [List.getElem?_eq_getElem hp, ep]) (by rw [List.getElem?_eq_getElem hp', ep']) hk.symm
            subst this; rw [ep] at ep'; exact ep'.symm
          subst this
          rw [hup]; simp
        · have := fall j' u' (by omega) hu' hw' hlt'
          simp [this]
      · exact ⟨⟨_, rfl⟩, by omega⟩
  rintro R H7 ⟨⟨kw, got, f14, fgo, fgl, fall⟩, f11, f12⟩
  simp -implicitDefEqProofs only [op, ef, cl, sq, reduceIte, Int.reduceLT, Int.reduceLE, Int.reduceBEq, Int.reduceBNe, Int.reduceEq, Nat.reduceAdd, Nat.reduceLeDiff, Nat.reduceLT, Nat.reduceEqDiff, S1, f11, f14]
  refine callB_of _ _ _ _ _ _ _ _ (mend16 kl kw l got _ hB.small hB.nil fgo.small (by omega)) ?_
  rintro u H8 ⟨hx8, km, hu⟩
  have hmu := mend_up hB fgo fall
  rw [hmu.1, hmu.2] at hu
  cases hu
  have hBm := up_B hB
  have hcm := up_cut hB
  have hup : ∀ u ∈ l, _ := fun u hu => up_is hB hu
  have hmget : ∀ i, (l.map (up M l))[i]? = (l[i]?).map (up M l) := fun i => List.getElem?_map ..
  have hmlen : (l.map (up M l)).length = l.length := List.length_map ..
  generalize hmL : l.map (up M l) = mL at *
  have hfm := hBm.formed
  have hcutm : cutB mL = true := by simp [cutB, formed_t hfm, hcm]
  simp -implicitDefEqProofs only [op, ef, cl, sq, reduceIte, Int.reduceLT, Int.reduceLE, Int.reduceBEq, Int.reduceBNe, Int.reduceEq, Nat.reduceAdd, Nat.reduceLeDiff, Nat.reduceLT, Nat.reduceEqDiff, S1, f11, encVs_len, hmlen]
  refine callB_of _ _ _ _ _ _ _ _ (formed12 km mL _ hBm.small) ?_
  rintro u H9 ⟨hu, hx9⟩
  rw [formed_t hfm] at hu
  cases hu
  simp -implicitDefEqProofs only [op, ef, cl, sq, reduceIte, Int.reduceLT, Int.reduceLE, Int.reduceBEq, Int.reduceBNe, Int.reduceEq, Nat.reduceAdd, Nat.reduceLeDiff, Nat.reduceLT, Nat.reduceEqDiff, S1]
  refine callB_of _ _ _ _ _ _ _ _ (cut14 km mL _ hBm.small) ?_
  rintro u H10 ⟨hu, hx10⟩
  rw [hcutm] at hu
  cases hu
  simp -implicitDefEqProofs only [op, ef, cl, sq, reduceIte, Int.reduceLT, Int.reduceLE, Int.reduceBEq, Int.reduceBNe, Int.reduceEq, Nat.reduceAdd, Nat.reduceLeDiff, Nat.reduceLT, Nat.reduceEqDiff, S1]
  refine W.loopE 4 (fun (i : Nat) R H' => R 11 = .sl kl (encVs l) ∧ R 12 = .sl kn (encWs (wants l)) ∧ R 19 = .sl km (encVs mL) ∧ R 21 = .int .i64 i ∧ i ≤ l.length) (fun i => l.length - i) 0
    (fun R H' => R 19 = .sl km (encVs mL)) ?_ ?_ ?_
  · simp -implicitDefEqProofs only [op, ef, cl, sq, reduceIte, Int.reduceLT, Int.reduceLE, Int.reduceBEq, Int.reduceBNe, Int.reduceEq, Nat.reduceAdd, Nat.reduceLeDiff, Nat.reduceLT, Nat.reduceEqDiff, S1, f11, f12]; exact ⟨rfl, Nat.zero_le _⟩
  · rintro i R H11 ⟨e11, e12, e19, e21, hi⟩
    by_cases hlt : i < l.length
    · obtain ⟨u, hu⟩ := getV hlt
      have hum := List.mem_of_getElem? hu
      have hm := hmget i
      rw [hu] at hm
      simp -implicitDefEqProofs only [Option.map_some] at hm
      have hmm := List.mem_of_getElem? hm
      have wsi := wrap_succ (show i < 9223372036854775807 by omega)
      simp -implicitDefEqProofs only [op, ef, cl, sq, reduceIte, Int.reduceLT, Int.reduceLE, Int.reduceBEq, Int.reduceBNe, Int.reduceEq, Nat.reduceAdd, Nat.reduceLeDiff, Nat.reduceLT, Nat.reduceEqDiff, S1, e11, e12, e19, e21, encVs_len, hmlen, hlt]
      refine W.loopE 6 (fun (k : Nat) R H' => R 11 = .sl kl (encVs l) ∧ R 12 = .sl kn (encWs (wants l)) ∧ R 19 = .sl km (encVs mL) ∧ R 21 = .int .i64 i ∧ R 22 = .int .i64 k ∧ k ≤ l.length) (fun k => l.length - k) 0
        (fun R H' => R 11 = .sl kl (encVs l) ∧ R 12 = .sl kn (encWs (wants l)) ∧ R 19 = .sl km (encVs mL) ∧ R 21 = .int .i64 i) ?_ ?_ ?_
      · simp -implicitDefEqProofs only [op, ef, cl, sq, reduceIte, Int.reduceLT, Int.reduceLE, Int.reduceBEq, Int.reduceBNe, Int.reduceEq, Nat.reduceAdd, Nat.reduceLeDiff, Nat.reduceLT, Nat.reduceEqDiff, S1, e11, e12, e19, e21]; exact ⟨rfl, Nat.zero_le _⟩
      · rintro k R H12 ⟨d11, d12, d19, d21, d22, hk⟩
        by_cases hkl : k < l.length
        · obtain ⟨x, hx⟩ := getV hkl
          have hxm := hmget k
          rw [hx] at hxm
          simp -implicitDefEqProofs only [Option.map_some] at hxm
          have wsk := wrap_succ (show k < 9223372036854775807 by omega)
          simp -implicitDefEqProofs only [op, ef, cl, sq, reduceIte, Int.reduceLT, Int.reduceLE, Int.reduceBEq, Int.reduceBNe, Int.reduceEq, Nat.reduceAdd, Nat.reduceLeDiff, Nat.reduceLT, Nat.reduceEqDiff, S1, d11, d12, d19, d21, d22, encVs_len, hmlen, hkl, natOf_nat, iadV hm, iadV hxm, encV]
          refine callB_of _ _ _ _ _ _ _ _ (has23 _ (up M l u).keys (up M l x).key _ (by have := (hBm.small).2 _ hmm; omega)) ?_
          rintro t H13 ⟨ht, rfl⟩
          cases ht
          cases hb : memB (up M l u).keys (up M l x).key
          · simp -implicitDefEqProofs only [op, ef, cl, sq, reduceIte, Int.reduceLT, Int.reduceLE, Int.reduceBEq, Int.reduceBNe, Int.reduceEq, Nat.reduceAdd, Nat.reduceLeDiff, Nat.reduceLT, Nat.reduceEqDiff, S1, d11, d12, d19, d21, d22, wsk]
            exact ⟨k + 1, by omega, rfl, by omega⟩
          · have hle := (wants_nil mL).1 hcm _ (List.mem_of_getElem? hxm) _ hmm hb
            have hnl : ¬ (up M l x).id < (up M l u).id := by omega
            simp -implicitDefEqProofs only [op, ef, cl, sq, reduceIte, Int.reduceLT, Int.reduceLE, Int.reduceBEq, Int.reduceBNe, Int.reduceEq, Nat.reduceAdd, Nat.reduceLeDiff, Nat.reduceLT, Nat.reduceEqDiff, S1, d11, d12, d19, d21, d22, natOf_nat, iadV hm, iadV hxm, encV, hnl, wsk]
            exact ⟨k + 1, by omega, rfl, by omega⟩
        · simp -implicitDefEqProofs only [op, ef, cl, sq, reduceIte, Int.reduceLT, Int.reduceLE, Int.reduceBEq, Int.reduceBNe, Int.reduceEq, Nat.reduceAdd, Nat.reduceLeDiff, Nat.reduceLT, Nat.reduceEqDiff, S1, d11, d12, d19, d21, d22, encVs_len, hmlen, hkl]
      rintro R H12 ⟨d11, d12, d19, d21⟩
      simp -implicitDefEqProofs only [op, ef, cl, sq, reduceIte, Int.reduceLT, Int.reduceLE, Int.reduceBEq, Int.reduceBNe, Int.reduceEq, Nat.reduceAdd, Nat.reduceLeDiff, Nat.reduceLT, Nat.reduceEqDiff, S1, d11, d12, d19, d21]
      refine W.loopE 8 (fun (k : Nat) R H' => R 11 = .sl kl (encVs l) ∧ R 12 = .sl kn (encWs (wants l)) ∧ R 19 = .sl km (encVs mL) ∧ R 21 = .int .i64 i ∧ R 23 = .bool (((wants l).take k).any fun p => decide (p.1 = u.key)) ∧ R 24 = .int .i64 k ∧ k ≤ (wants l).length) (fun k => (wants l).length - k) 0
        (fun R H' => R 11 = .sl kl (encVs l) ∧ R 12 = .sl kn (encWs (wants l)) ∧ R 19 = .sl km (encVs mL) ∧ R 21 = .int .i64 i ∧ R 23 = .bool (decide (u.id < gr l u.key))) ?_ ?_ ?_
      · simp -implicitDefEqProofs only [op, ef, cl, sq, reduceIte, Int.reduceLT, Int.reduceLE, Int.reduceBEq, Int.reduceBNe, Int.reduceEq, Nat.reduceAdd, Nat.reduceLeDiff, Nat.reduceLT, Nat.reduceEqDiff, S1, d11, d12, d19, d21]
        simp
      · rintro k R H13 ⟨c11, c12, c19, c21, c23, c24, hk⟩
        by_cases hkl : k < (wants l).length
        · obtain ⟨q, hq⟩ : ∃ q, (wants l)[k]? = some q := ⟨(wants l)[k], List.getElem?_eq_getElem hkl⟩
          have wsk := wrap_succ (show k < 9223372036854775807 by omega)
          have iw : iadT 2 k (.sl kn (encWs (wants l))) = some (.iptr [.str q.1, .int .u64 q.2]) := iad_map (enc := encW) hq rfl (by decide)
          have hsn : ((wants l).take (k + 1)).any (fun p => decide (p.1 = u.key)) = (((wants l).take k).any (fun p => decide (p.1 = u.key)) || decide (q.1 = u.key)) := by
            rw [List.take_add_one, hq]; simp
          cases hb : ((wants l).take k).any fun p => decide (p.1 = u.key)
          · rw [hb] at c23 hsn
            simp -implicitDefEqProofs only [op, ef, cl, sq, reduceIte, Int.reduceLT, Int.reduceLE, Int.reduceBEq, Int.reduceBNe, Int.reduceEq, Nat.reduceAdd, Nat.reduceLeDiff, Nat.reduceLT, Nat.reduceEqDiff, S1, c11, c12, c19, c21, c23, c24, encWs_len, hkl, natOf_nat, iw, iadV hu, encV, wsk]
            refine ⟨k + 1, by omega, ?_, rfl, by omega⟩
            rw [hsn]; simp
          · rw [hb] at c23 hsn
            simp -implicitDefEqProofs only [op, ef, cl, sq, reduceIte, Int.reduceLT, Int.reduceLE, Int.reduceBEq, Int.reduceBNe, Int.reduceEq, Nat.reduceAdd, Nat.reduceLeDiff, Nat.reduceLT, Nat.reduceEqDiff, S1, c11, c12, c19, c21, c23, c24, encWs_len, hkl, wsk]
            refine ⟨k + 1, by omega, ?_, rfl, by omega⟩
            rw [hsn]; simp
        · have hkl' : k = (wants l).length := by omega
          subst hkl'
          rw [List.take_length] at c23
          have hb : ((wants l).any fun p => decide (p.1 = u.key)) = decide (u.id < gr l u.key) := by
            by_cases hlt2 : u.id < gr l u.key
            · obtain ⟨j, hj⟩ := wants_has hum hlt2
              simp -implicitDefEqProofs only [hlt2, decide_true, List.any_eq_true]
              exact ⟨_, List.mem_of_getElem? hj, by simp⟩
            · simp -implicitDefEqProofs only [hlt2, decide_false, List.any_eq_false]
              intro p hp
              obtain ⟨j, hj⟩ := List.mem_iff_getElem?.1 hp
              obtain ⟨u', hu', hlt', rfl⟩ := wants_get hj
              simp -implicitDefEqProofs only [decide_eq_true_eq]
              intro he
              obtain ⟨a, ha, ea⟩ := List.getElem_of_mem hu'
              have := key_one hf (u := u) (w := u') hu (by rw [List.getElem?_eq_getElem ha, ea]) he
              subst this
              rw [List.getElem?_eq_getElem ha, ea] at hu
              cases hu
              exact hlt2 hlt'
          rw [hb] at c23
          simp -implicitDefEqProofs only [op, ef, cl, sq, reduceIte, Int.reduceLT, Int.reduceLE, Int.reduceBEq, Int.reduceBNe, Int.reduceEq, Nat.reduceAdd, Nat.reduceLeDiff, Nat.reduceLT, Nat.reduceEqDiff, S1, c11, c12, c19, c21, c23, c24, encWs_len, hkl]
      rintro R H13 ⟨c11, c12, c19, c21, c23⟩
      simp -implicitDefEqProofs only [op, ef, cl, sq, reduceIte, Int.reduceLT, Int.reduceLE, Int.reduceBEq, Int.reduceBNe, Int.reduceEq, Nat.reduceAdd, Nat.reduceLeDiff, Nat.reduceLT, Nat.reduceEqDiff, S1, c11, c12, c19, c21, c23]
      refine W.loopE 10 (fun (k : Nat) R H' => R 11 = .sl kl (encVs l) ∧ R 12 = .sl kn (encWs (wants l)) ∧ R 19 = .sl km (encVs mL) ∧ R 21 = .int .i64 i ∧ R 23 = .bool (decide (u.id < gr l u.key)) ∧ R 25 = .bool ((l.take k).any fun v => decide (v.id = (up M l u).id)) ∧ R 26 = .int .i64 k ∧ k ≤ l.length) (fun k => l.length - k) 0
        (fun R H' => R 11 = .sl kl (encVs l) ∧ R 12 = .sl kn (encWs (wants l)) ∧ R 19 = .sl km (encVs mL) ∧ R 21 = .int .i64 i ∧ R 23 = .bool (decide (u.id < gr l u.key)) ∧ R 25 = .bool true) ?_ ?_ ?_
      · simp -implicitDefEqProofs only [op, ef, cl, sq, reduceIte, Int.reduceLT, Int.reduceLE, Int.reduceBEq, Int.reduceBNe, Int.reduceEq, Nat.reduceAdd, Nat.reduceLeDiff, Nat.reduceLT, Nat.reduceEqDiff, S1, c11, c12, c19, c21, c23]
        simp
      · rintro k R H14 ⟨b11, b12, b19, b21, b23, b25, b26, hk⟩
        by_cases hkl : k < l.length
        · obtain ⟨x, hx⟩ := getV hkl
          have wsk := wrap_succ (show k < 9223372036854775807 by omega)
          have hsn : (l.take (k + 1)).any (fun v => decide (v.id = (up M l u).id)) = ((l.take k).any (fun v => decide (v.id = (up M l u).id)) || decide (x.id = (up M l u).id)) := by
            rw [List.take_add_one, hx]; simp
          cases hb : (l.take k).any fun v => decide (v.id = (up M l u).id)
          · rw [hb] at b25 hsn
            simp -implicitDefEqProofs only [op, ef, cl, sq, reduceIte, Int.reduceLT, Int.reduceLE, Int.reduceBEq, Int.reduceBNe, Int.reduceEq, Nat.reduceAdd, Nat.reduceLeDiff, Nat.reduceLT, Nat.reduceEqDiff, S1, b11, b12, b19, b21, b23, b25, b26, encVs_len, hkl, natOf_nat, iadV hx, iadV hm, encV, wsk]
            refine ⟨k + 1, by omega, ?_, rfl, by omega⟩
            rw [hsn]; simp
          · rw [hb] at b25 hsn
            simp -implicitDefEqProofs only [op, ef, cl, sq, reduceIte, Int.reduceLT, Int.reduceLE, Int.reduceBEq, Int.reduceBNe, Int.reduceEq, Nat.reduceAdd, Nat.reduceLeDiff, Nat.reduceLT, Nat.reduceEqDiff, S1, b11, b12, b19, b21, b23, b25, b26, encVs_len, hkl, wsk]
            refine ⟨k + 1, by omega, ?_, rfl, by omega⟩
            rw [hsn]; simp
        · have hkl' : k = l.length := by omega
          subst hkl'
          rw [List.take_length] at b25
          obtain ⟨x, hx, hxi, _⟩ := (hup u hum).2.2.2
          have hb : (l.any fun v => decide (v.id = (up M l u).id)) = true := by
            rw [List.any_eq_true]; exact ⟨x, hx, by simpa using hxi⟩
          rw [hb] at b25
          simp -implicitDefEqProofs only [op, ef, cl, sq, reduceIte, Int.reduceLT, Int.reduceLE, Int.reduceBEq, Int.reduceBNe, Int.reduceEq, Nat.reduceAdd, Nat.reduceLeDiff, Nat.reduceLT, Nat.reduceEqDiff, S1, b11, b12, b19, b21, b23, b25, b26, encVs_len, hkl]
      rintro R H14 ⟨b11, b12, b19, b21, b23, b25⟩
      have hkey := (hup u hum).1
      have hid := (hup u hum).2.2.1
      have hnlt : ¬ (up M l u).id < u.id := by omega
      by_cases hlt2 : u.id < gr l u.key
      · have hne : ¬ (up M l u).id = u.id := by omega
        simp -implicitDefEqProofs only [op, ef, cl, sq, reduceIte, Int.reduceLT, Int.reduceLE, Int.reduceBEq, Int.reduceBNe, Int.reduceEq, Nat.reduceAdd, Nat.reduceLeDiff, Nat.reduceLT, Nat.reduceEqDiff, S1, b11, b12, b19, b21, b23, b25, hlt2, natOf_nat, iadV hu, iadV hm, encV, hkey, hnlt, hne, wsi]
        exact ⟨i + 1, by omega, rfl, by omega⟩
      · have hupu : up M l u = u := by rw [up, if_neg hlt2]
        rw [hupu] at hm hmm hnlt
        have t1 := slice1 hm
        have t2 := slice1 hu
        have a1 : i ≤ i + 1 := by omega
        have a2 : i + 1 ≤ l.length := by omega
        simp -implicitDefEqProofs only [op, ef, cl, sq, reduceIte, Int.reduceLT, Int.reduceLE, Int.reduceBEq, Int.reduceBNe, Int.reduceEq, Nat.reduceAdd, Nat.reduceLeDiff, Nat.reduceLT, Nat.reduceEqDiff, S1, b11, b12, b19, b21, b23, b25, hlt2, natOf_nat, iadV hu, iadV hm, encV, hnlt, wsi, a1, a2, encVs_len, hmlen, allV, t1, t2]
        refine callB_of _ _ _ _ _ _ _ _ (same18 _ _ [u] [u] _ (by simp) (fun v hv => by simp at hv; subst hv; have := hB.small.2 _ hum; omega)) ?_
        rintro t H15 ⟨ht, rfl⟩
        rw [same_t (show Same [u] [u] from rfl)] at ht
        cases ht
        simp -implicitDefEqProofs only [op, ef, cl, sq, reduceIte, Int.reduceLT, Int.reduceLE, Int.reduceBEq, Int.reduceBNe, Int.reduceEq, Nat.reduceAdd, Nat.reduceLeDiff, Nat.reduceLT, Nat.reduceEqDiff, S1, b11, b12, b19, b21, b23, b25, hlt2, wsi]
        exact ⟨i + 1, by omega, rfl, by omega⟩
    · simp -implicitDefEqProofs only [op, ef, cl, sq, reduceIte, Int.reduceLT, Int.reduceLE, Int.reduceBEq, Int.reduceBNe, Int.reduceEq, Nat.reduceAdd, Nat.reduceLeDiff, Nat.reduceLT, Nat.reduceEqDiff, S1, e11, e12, e19, e21, encVs_len, hmlen, hlt]
  rintro R H11 e19
  have hmn := mend_none hBm hcm
  have hnm : needs mL = [] := by rw [needs, if_pos hfm, hcm]
  have hnme : needsE mL = 0 := if_pos hfm
  simp -implicitDefEqProofs only [op, ef, cl, sq, reduceIte, Int.reduceLT, Int.reduceLE, Int.reduceBEq, Int.reduceBNe, Int.reduceEq, Nat.reduceAdd, Nat.reduceLeDiff, Nat.reduceLT, Nat.reduceEqDiff, S1, e19]
  refine callB_of _ _ _ _ _ _ _ _ (needs9 km mL _ hBm.small) ?_
  rintro u H12 ⟨hx12, kn2, hu⟩
  rw [hnm, hnme] at hu
  cases hu
  simp -implicitDefEqProofs only [op, ef, cl, sq, reduceIte, Int.reduceLT, Int.reduceLE, Int.reduceBEq, Int.reduceBNe, Int.reduceEq, Nat.reduceAdd, Nat.reduceLeDiff, Nat.reduceLT, Nat.reduceEqDiff, S1, e19]
  refine callB_of _ _ _ _ _ _ _ _ (mend16 km .nil mL [] _ hBm.small hBm.nil (by simp [NilOk]) (by simp)) ?_
  rintro u H13 ⟨hx13, km2, hu⟩
  rw [hmn.1, hmn.2] at hu
  cases hu
  have h0 : encWs [] = [] := rfl
  simp -implicitDefEqProofs only [op, ef, cl, sq, reduceIte, Int.reduceLT, Int.reduceLE, Int.reduceBEq, Int.reduceBNe, Int.reduceEq, Nat.reduceAdd, Nat.reduceLeDiff, Nat.reduceLT, Nat.reduceEqDiff, S1, e19, h0]
  refine callB_of _ _ _ _ _ _ _ _ (same18 km2 km mL mL _ hBm.small.1 hBm.small.2) ?_
  rintro u H14 ⟨hu, rfl⟩
  rw [same_t (show Same mL mL from rfl)] at hu
  cases hu
  simp -implicitDefEqProofs only [op, ef, cl, sq, reduceIte, Int.reduceLT, Int.reduceLE, Int.reduceBEq, Int.reduceBNe, Int.reduceEq, Nat.reduceAdd, Nat.reduceLeDiff, Nat.reduceLT, Nat.reduceEqDiff, S1, tru_val]
end Go.Proofs.Ytobnjpgggocdlaa.Fx
end

/-! text FixY -/
section
namespace Go.Proofs.Ytobnjpgggocdlaa.Fx
open Go.Rmp Go.Proofs.Ytobnjpgggocdlaa.Ir
set_option maxRecDepth 10000
theorem mend_none' {masks : List Int} {l : List Ver} (h : IsB masks l) (hw : wants l = []) (got : List Ver) : mendL l got = l ∧ mendE l got = 0 := by
  have hn : ∀ u ∈ l, ¬ u.id < gr l u.key := fun u hu hlt => by
    have : (u.key, gr l u.key) ∈ wants l := by
      unfold wants wants'; exact List.mem_map.2 ⟨u, by simp [hu, hlt], rfl⟩
    rw [hw] at this; cases this
  have : mends (mendO l got) l = some (l.map id) := mends_all fun u hu => by
    have hk := ((h.2.2.1 u hu).kk).1
    unfold mendO mendOne
    rw [if_neg (hn u hu)]
    simp -implicitDefEqProofs only [Option.map_some, setK, ← hk, _root_.id]
  rw [List.map_id] at this
  simp [mendL, mendE, h.formed, this]
def tZ : ByteArray := ⟨#[122, 122]⟩
/-- none of these is what is wanted of a key -/
def Lacks (k : ByteArray) (n : Nat) (got : List Ver) : Prop := ∀ v ∈ got, ¬ (v.key = k ∧ v.id = n)
theorem Lacks.none {k : ByteArray} {n : Nat} {got : List Ver} (h : Lacks k n got) : gotOf got k n = Option.none := by
  unfold gotOf; rw [List.find?_eq_none]
  intro v hv hc
  simp -implicitDefEqProofs only [Bool.and_eq_true, decide_eq_true_eq] at hc
  exact h v hv hc
theorem Lacks.app {k : ByteArray} {n : Nat} {got : List Ver} (h : Lacks k n got) {v : Ver} (hv : ¬ (v.key = k ∧ v.id = n)) : Lacks k n (got ++ [v]) := fun u hu => by
  rcases List.mem_append.1 hu with hu | hu
  · exact h u hu
  · simp at hu; subst hu; exact hv
theorem NilOk.app {got : List Ver} (h : NilOk got) {v : Ver} (hk : v.kk = .arg) (hl : v.keys.length < 1099511627776) : NilOk (got ++ [v]) := fun u hu => by
  rcases List.mem_append.1 hu with hu | hu
  · exact h u hu
  · simp at hu; subst hu; exact ⟨by rw [hk]; exact (fun h => by cases h), hl⟩
theorem wants_once {l : List Ver} (hf : Formed l) {i j : Nat} {p q : ByteArray × Nat} (hi : (wants l)[i]? = some p) (hj : (wants l)[j]? = some q) (hij : i < j) : p.1 ≠ q.1 := by
  have hn : ((wants l).map (·.1)).Nodup := by
    have h1 : (wants l).map (·.1) = (l.filter fun u => decide (u.id < gr l u.key)).map Ver.key := by
      unfold wants wants'; rw [List.map_map]; rfl
    rw [h1]
    have h2 : (l.map Ver.key).Nodup := by
      rw [List.Nodup, List.pairwise_iff_getElem]
      intro a b ha hb hab e
      simp -implicitDefEqProofs only [List.length_map] at ha hb
      simp -implicitDefEqProofs only [List.getElem_map] at e
      have := key_one hf (List.getElem?_eq_getElem hb) (List.getElem?_eq_getElem ha) e
      omega
    exact h2.sublist ((List.filter_sublist).map _)
  rw [List.Nodup, List.pairwise_iff_getElem] at hn
  obtain ⟨hi', ei⟩ := List.getElem?_eq_some_iff.1 hi
  obtain ⟨hj', ej⟩ := List.getElem?_eq_some_iff.1 hj
  have := hn i j (by simpa using hi') (by simpa using hj') hij
  simpa [ei, ej] using this
theorem missing6 (k0 k3 : SK) (masks : List Int) (read turn : Int) (picks : List Int) (drop : Int) (H : Heap) (hml : masks.length < 4611686018427387903) (ht : Num turn) (hp : ∀ p ∈ picks, Num p) (hpl : picks.length < 4611686018427387903) (hd : Num drop) :
    W env (.call 6 [.sl k0 (encI masks), .int .i64 read, .int .i64 turn, .sl k3 (encI picks), .int .i64 drop]) H Tru := by
  refine W.fnI rfl rfl rfl ?_
  have hn : min masks.length 60 ≤ masks.length := Nat.min_le_left _ _
  simp -implicitDefEqProofs only [ir6, op, ef, cl, sq, reduceIte, Int.reduceLT, Int.reduceLE, Int.reduceBEq, Int.reduceBNe, Int.reduceEq, Nat.reduceAdd, Nat.reduceLeDiff, Nat.reduceLT, Nat.reduceEqDiff, S1, encI_len, mn60, natOf_nat, Nat.zero_le, hn, allI, takeI]
  generalize hM : masks.take (min masks.length 60) = M
  have hMl : M.length ≤ 60 := by rw [← hM]; simp; omega
  refine callB_of _ _ _ _ _ _ _ _ (brought19 _ k3 M read turn picks _ hMl ht hp hpl) ?_
  rintro u H1 ⟨hx1, kl, hu⟩
  cases hu
  have hB := brought_is M read turn picks
  generalize brought M read turn picks (keysOf read).length = l at *
  have hf := hB.formed
  have hl8 := hB.2.1
  have hnl : needs l = wants l := if_pos hf
  have hne : needsE l = 0 := if_pos hf
  have hwl : (wants l).length ≤ 8 := Nat.le_trans (wants_le l l) hl8
  simp -implicitDefEqProofs only [op, ef, cl, sq, reduceIte, Int.reduceLT, Int.reduceLE, Int.reduceBEq, Int.reduceBNe, Int.reduceEq, Nat.reduceAdd, Nat.reduceLeDiff, Nat.reduceLT, Nat.reduceEqDiff, S1]
  refine callB_of _ _ _ _ _ _ _ _ (needs9 kl l _ hB.small) ?_
  rintro u H2 ⟨hx2, kn, hu⟩
  rw [hnl, hne] at hu
  cases hu
  simp -implicitDefEqProofs only [op, ef, cl, sq, reduceIte, Int.reduceLT, Int.reduceLE, Int.reduceBEq, Int.reduceBNe, Int.reduceEq, Nat.reduceAdd, Nat.reduceLeDiff, Nat.reduceLT, Nat.reduceEqDiff, S1]
  refine callB_of _ _ _ _ _ _ _ _ (known11 _) ?_
  rintro u H3 ⟨hu, hx3⟩
  cases hu
  by_cases hw0 : wants l = []
  · have e0 : (wants l).length = 0 := by rw [hw0]; rfl
    simp -implicitDefEqProofs only [op, ef, cl, sq, reduceIte, Int.reduceLT, Int.reduceLE, Int.reduceBEq, Int.reduceBNe, Int.reduceEq, Nat.reduceAdd, Nat.reduceLeDiff, Nat.reduceLT, Nat.reduceEqDiff, S1, encWs_len, e0]
    refine callB_of _ _ _ _ _ _ _ _ (mend16 kl .full l [⟨tZ, 3, ⟨#[]⟩, .arg, []⟩, ⟨⟨#[]⟩, 0, ⟨#[]⟩, .arg, []⟩] _ hB.small hB.nil (by simp [NilOk, KOk]) (by simp)) ?_
    rintro u H4 ⟨hx4, km, hu⟩
    rw [(mend_none' hB hw0 _).1, (mend_none' hB hw0 _).2] at hu
    cases hu
    simp -implicitDefEqProofs only [op, ef, cl, sq, reduceIte, Int.reduceLT, Int.reduceLE, Int.reduceBEq, Int.reduceBNe, Int.reduceEq, Nat.reduceAdd, Nat.reduceLeDiff, Nat.reduceLT, Nat.reduceEqDiff, S1]
    refine callB_of _ _ _ _ _ _ _ _ (same18 km kl l l _ hB.small.1 hB.small.2) ?_
    rintro u H5 ⟨hu, rfl⟩
    rw [same_t (show Same l l from rfl)] at hu
    cases hu
    simp -implicitDefEqProofs only [op, ef, cl, sq, reduceIte, Int.reduceLT, Int.reduceLE, Int.reduceBEq, Int.reduceBNe, Int.reduceEq, Nat.reduceAdd, Nat.reduceLeDiff, Nat.reduceLT, Nat.reduceEqDiff, S1, tru_val]
  have e0 : ¬ (wants l).length = 0 := by simpa using hw0
  have w1 : IntKind.i64.wrap (((wants l).length : Int) - 1) = (((wants l).length - 1 : Nat) : Int) := by rw [wrap64 (by omega)]; omega
  simp -implicitDefEqProofs only [op, ef, cl, sq, reduceIte, Int.reduceLT, Int.reduceLE, Int.reduceBEq, Int.reduceBNe, Int.reduceEq, Nat.reduceAdd, Nat.reduceLeDiff, Nat.reduceLT, Nat.reduceEqDiff, S1, encWs_len, e0, w1]
  refine callB_of _ _ _ _ _ _ _ _ (rest20 drop ((wants l).length - 1) (by omega) hd _) ?_
  rintro u H4 ⟨hu, rfl⟩
  cases hu
  have hrl := restI_le drop ((wants l).length - 1)
  generalize restI drop ((wants l).length - 1) = g at *
  obtain ⟨pg, hpg⟩ : ∃ p, (wants l)[g]? = some p := ⟨(wants l)[g]'(by omega), List.getElem?_eq_getElem (by omega)⟩
  obtain ⟨ug, hug, hugl, rfl⟩ := wants_get hpg
  have h1g : ug.key.size = 1 := by
    obtain ⟨w, m, hw, hmk, hgw, _⟩ := hB.greatest (k := ug.key) (by omega)
    exact keysOf_size (memB_iff.1 hmk)
  simp -implicitDefEqProofs only [op, ef, cl, sq, reduceIte, Int.reduceLT, Int.reduceLE, Int.reduceBEq, Int.reduceBNe, Int.reduceEq, Nat.reduceAdd, Nat.reduceLeDiff, Nat.reduceLT, Nat.reduceEqDiff, S1]
  refine W.loopE 0 (fun (i : Nat) R H' => At H' (fun H' => ∃ kw got, R 17 = .sl kw (encVs got) ∧ NilOk got ∧ Lacks ug.key (gr l ug.key) got ∧ got.length ≤ 3 * i ∧ H4.length ≤ H'.length ∧ Apd H4.length H' kw) ∧ (∃ kM, R 0 = .sl kM (encI M)) ∧ R 11 = .sl kl (encVs l) ∧ R 12 = .sl kn (encWs (wants l)) ∧ R 16 = .int .i64 g ∧ R 18 = .int .i64 i ∧ i ≤ (wants l).length) (fun i => (wants l).length - i) 0
    (fun R H' => At H' (fun H' => ∃ kw got, R 17 = .sl kw (encVs got) ∧ NilOk got ∧ Lacks ug.key (gr l ug.key) got ∧ got.length ≤ 24) ∧ R 11 = .sl kl (encVs l)) ?_ ?_ ?_
  · exact ⟨.i ⟨.nil, [], rfl, by simp [NilOk], by simp [Lacks], Nat.zero_le _, Nat.le_refl _, apd_nil _ _⟩, ⟨_, rfl⟩, rfl, rfl, rfl, rfl, Nat.zero_le _⟩
  · rintro i R H5 ⟨⟨kw, got, f17, fgo, fla, fgl, flen, fap⟩, ⟨kM, f0⟩, f11, f12, f16, f18, hi⟩
    by_cases hlt : i < (wants l).length
    · obtain ⟨q, hq⟩ : ∃ q, (wants l)[i]? = some q := ⟨(wants l)[i], List.getElem?_eq_getElem hlt⟩
      obtain ⟨u, hu, hult, rfl⟩ := wants_get hq
      obtain ⟨w, m, hw, hmk, hgw, _⟩ := hB.greatest (k := u.key) (by omega)
      have hwl2 := (List.getElem?_eq_some_iff.1 hw).1
      have wsi := wrap_succ (show i < 9223372036854775807 by omega)
      have iw : iadT 2 i (.sl kn (encWs (wants l))) = some (.iptr [.str u.key, .int .u64 ((65536 * (w + 1) : Nat) : Int)]) := by rw [← hgw]; exact iad_map (enc := encW) hq rfl (by decide)
      have h1 : u.key.size = 1 := keysOf_size (memB_iff.1 hmk)
      have hiw := idw w (by omega)
      have e4 : decide ((w : Int) < 0) = false := by simp
      have nle : ¬ M.length ≤ w := by omega
      have hml8 := keysOf_len m
      by_cases hig : i = g
      · subst hig
        rw [hpg] at hq
        simp -implicitDefEqProofs only [Option.some.injEq, Prod.mk.injEq] at hq
        obtain ⟨hkey, hgr⟩ := hq
        simp -implicitDefEqProofs only [op, ef, cl, sq, reduceIte, Int.reduceLT, Int.reduceLE, Int.reduceBEq, Int.reduceBNe, Int.reduceEq, Nat.reduceAdd, Nat.reduceLeDiff, Nat.reduceLT, Nat.reduceEqDiff, S1, f0, f11, f12, f16, f17, f18, encWs_len, encI_len, hlt, natOf_nat, iw, hiw, e4, nle]
        refine callB_of _ _ _ _ _ _ _ _ (made21 kM M w m u.key _ hw (by omega) (by omega)) ?_
        rintro u' H8 ⟨hx8, k2, hk2, hu'⟩
        cases hu'
        have wa : IntKind.u64.wrap (((65536 * (w + 1) : Nat) : Int) + 1) = ((65536 * (w + 1) + 1 : Nat) : Int) := by rw [wrapu64 (by omega)]; omega
        have wb : IntKind.u64.wrap (((65536 * (w + 1) + 1 : Nat) : Int) - 1) = ((65536 * (w + 1) : Nat) : Int) := by rw [wrapu64 (by omega)]; omega
        generalize hV : u.key ++ ⟨#[UInt8.ofNat w]⟩ = V
        have hl8' := hx8.len
        obtain ⟨k5, H9, ha, hap9, hst⟩ := app_ok (bytes := 64) (H := H8 ++ [.cells [T.str u.key, .int .u64 ((65536 * (w + 1) + 1 : Nat) : Int), .str V, .sl k2 (encS (keysOf m))]]) (encVs got) [[T.str u.key, T.int .u64 ((65536 * (w + 1) + 1 : Nat) : Int), T.str V, T.sl .arg (encS (keysOf m))], [T.str u.key, T.int .u64 0, T.str ⟨#[]⟩, T.sl .arg []]] ((fap.ext hx8).ext ⟨_, rfl⟩) (by simp; omega) (by simp) (roomT (by simp -implicitDefEqProofs only [encVs_len, List.length_cons, List.length_nil]; omega))
        have hl9 := hst.len
        simp -implicitDefEqProofs only [List.length_append, List.length_cons, List.length_nil] at hl9
        have c9 : H9[H8.length]? = some (.cells [T.str u.key, .int .u64 ((65536 * (w + 1) + 1 : Nat) : Int), .str V, .sl k2 (encS (keysOf m))]) := hst.cells ((fap.ext hx8).ext ⟨_, rfl⟩) (g_tail rfl) (by simp)
        have lc9 := glt c9
        have happ : encVs got ++ [[T.str u.key, T.int .u64 ((65536 * (w + 1) + 1 : Nat) : Int), T.str V, T.sl .arg (encS (keysOf m))], [T.str u.key, T.int .u64 0, T.str ⟨#[]⟩, T.sl .arg []]] = encVs (got ++ [⟨u.key, 65536 * (w + 1) + 1, V, .arg, keysOf m⟩, ⟨u.key, 0, ⟨#[]⟩, .arg, []⟩]) := by simp [encVs, encV, encS]
        simp -implicitDefEqProofs only [op, ef, cl, sq, reduceIte, Int.reduceLT, Int.reduceLE, Int.reduceBEq, Int.reduceBNe, Int.reduceEq, Nat.reduceAdd, Nat.reduceLeDiff, Nat.reduceLT, Nat.reduceEqDiff, S1, happ] at ha
        obtain ⟨k6, H10, ha2, hap10, hst2⟩ := app_ok (bytes := 64) (H := H9.set H8.length (.cells [T.str tZ, .int .u64 ((65536 * (w + 1) : Nat) : Int), .str V, .sl k2 (encS (keysOf m))])) (encVs (got ++ [⟨u.key, 65536 * (w + 1) + 1, V, .arg, keysOf m⟩, ⟨u.key, 0, ⟨#[]⟩, .arg, []⟩])) [[T.str tZ, T.int .u64 ((65536 * (w + 1) : Nat) : Int), T.str V, T.sl .arg (encS (keysOf m))]] (hap9.set c9 (by simp) _) (by simp; omega) (by simp) (roomT (by simp -implicitDefEqProofs only [encVs_len, List.length_cons, List.length_nil, List.length_append]; omega))
        have happ2 : ∀ L : List Ver, encVs L ++ [[T.str tZ, T.int .u64 ((65536 * (w + 1) : Nat) : Int), T.str V, T.sl .arg (encS (keysOf m))]] = encVs (L ++ [⟨tZ, 65536 * (w + 1), V, .arg, keysOf m⟩]) := fun L => by simp [encVs, encV]
        simp -implicitDefEqProofs only [op, ef, cl, sq, reduceIte, Int.reduceLT, Int.reduceLE, Int.reduceBEq, Int.reduceBNe, Int.reduceEq, Nat.reduceAdd, Nat.reduceLeDiff, Nat.reduceLT, Nat.reduceEqDiff, S1, happ2] at ha2
        have ez : (⟨#[122, 122]⟩ : ByteArray) = tZ := rfl
        have hl10 := hst2.len
        simp -implicitDefEqProofs only [List.length_set] at hl10
        simp -implicitDefEqProofs only [op, ef, cl, sq, reduceIte, Int.reduceLT, Int.reduceLE, Int.reduceBEq, Int.reduceBNe, Int.reduceEq, Nat.reduceAdd, Nat.reduceLeDiff, Nat.reduceLT, Nat.reduceEqDiff, S1, S2, setK, mk, encV, f0, f11, f12, f16, f17, f18, hV, wa, wb, ez, natOf_nat, iw, allV, ha, c9, lc9, List.set_set, ha2, wsi]
        refine ⟨i + 1, by omega, .i ⟨k6, _, rfl, ?_, ?_, ?_, by omega, hap10⟩, ?_⟩
        · rw [show ∀ a b c : Ver, got ++ [a, b] ++ [c] = ((got ++ [a]) ++ [b]) ++ [c] by intros; simp]
          exact ((fgo.app rfl (by simp only; omega)).app rfl (by simp)).app rfl (by simp only; omega)
        · rw [show ∀ a b c : Ver, got ++ [a, b] ++ [c] = ((got ++ [a]) ++ [b]) ++ [c] by intros; simp]
          refine ((fla.app ?_).app ?_).app ?_
          · simp only; omega
          · simp only; omega
          · simp only
            rintro ⟨h, _⟩
            rw [← h] at h1g
            exact absurd h1g (by decide)
        · simp; omega
        · exact ⟨⟨_, rfl⟩, by omega⟩
      · obtain hne : ¬ u.key = ug.key := by
          rcases Nat.lt_or_gt_of_ne hig with h | h
          · exact wants_once hf hq hpg h
          · exact fun e => wants_once hf hpg hq h e.symm
        simp -implicitDefEqProofs only [op, ef, cl, sq, reduceIte, Int.reduceLT, Int.reduceLE, Int.reduceBEq, Int.reduceBNe, Int.reduceEq, Nat.reduceAdd, Nat.reduceLeDiff, Nat.reduceLT, Nat.reduceEqDiff, S1, f0, f11, f12, f16, f17, f18, encWs_len, encI_len, hlt, natOf_nat, iw, hiw, e4, nle, hig]
        refine callB_of _ _ _ _ _ _ _ _ (made21 kM M w m u.key _ hw (by omega) (by omega)) ?_
        rintro u' H8 ⟨hx8, k2, hk2, hu'⟩
        cases hu'
        obtain ⟨k5, H9, ha, hap9, hst⟩ := app_ok (bytes := 64) (encVs got) [[T.str u.key, T.int .u64 ((65536 * (w + 1) : Nat) : Int), T.str (u.key ++ ⟨#[UInt8.ofNat w]⟩), T.sl .arg (encS (keysOf m))]] (fap.ext hx8) (by have := hx8.len; omega) (by simp) (roomT (by simp -implicitDefEqProofs only [encVs_len, List.length_cons, List.length_nil]; omega))
        simp -implicitDefEqProofs only [op, ef, cl, sq, reduceIte, Int.reduceLT, Int.reduceLE, Int.reduceBEq, Int.reduceBNe, Int.reduceEq, Nat.reduceAdd, Nat.reduceLeDiff, Nat.reduceLT, Nat.reduceEqDiff, S1, mkapp] at ha
        simp -implicitDefEqProofs only [op, ef, cl, sq, reduceIte, Int.reduceLT, Int.reduceLE, Int.reduceBEq, Int.reduceBNe, Int.reduceEq, Nat.reduceAdd, Nat.reduceLeDiff, Nat.reduceLT, Nat.reduceEqDiff, S1, setK, mk, encV, f0, f11, f12, f16, f18, allV, ha, wsi]
        refine ⟨i + 1, by omega, .i ⟨k5, got ++ [mk m w u.key], ?_, fgo.app rfl (by simp -implicitDefEqProofs only [mk]; omega), fla.app (by simp -implicitDefEqProofs only [mk]; exact fun h => hne h.1), by simp; omega, by have := hx8.len; have := hst.len; omega, hap9⟩, ?_⟩
        · simp -implicitDefEqProofs only [op, ef, cl, sq, reduceIte, Int.reduceLT, Int.reduceLE, Int.reduceBEq, Int.reduceBNe, Int.reduceEq, Nat.reduceAdd, Nat.reduceLeDiff, Nat.reduceLT, Nat.reduceEqDiff, S1, mk]
        · exact ⟨⟨_, rfl⟩, by omega⟩
    · simp -implicitDefEqProofs only [op, ef, cl, sq, reduceIte, Int.reduceLT, Int.reduceLE, Int.reduceBEq, Int.reduceBNe, Int.reduceEq, Nat.reduceAdd, Nat.reduceLeDiff, Nat.reduceLT, Nat.reduceEqDiff, S1, f0, f11, f12, f16, f17, f18, encWs_len, hlt]
      exact .i ⟨kw, got, rfl, fgo, fla, by omega⟩
  rintro R H5 ⟨⟨kw, got, f17, fgo, fla, fgl⟩, f11⟩
  simp -implicitDefEqProofs only [op, ef, cl, sq, reduceIte, Int.reduceLT, Int.reduceLE, Int.reduceBEq, Int.reduceBNe, Int.reduceEq, Nat.reduceAdd, Nat.reduceLeDiff, Nat.reduceLT, Nat.reduceEqDiff, S1, f11, f17]
  refine callB_of _ _ _ _ _ _ _ _ (mend16 kl kw l got _ hB.small hB.nil fgo (by omega)) ?_
  rintro u H6 ⟨hx6, km, hu⟩
  have hno := mends_no (mendO l got) hug (by rw [mendO, mendOne, if_pos hugl, fla.none]; rfl)
  have e1 : mendL l got = [] := by simp [mendL, hf, hno]
  have e2 : mendE l got = 110 := by simp [mendE, hf, hno]
  rw [e1, e2] at hu
  cases hu
  have h0 : encVs [] = [] := rfl
  simp -implicitDefEqProofs only [op, ef, cl, sq, reduceIte, Int.reduceLT, Int.reduceLE, Int.reduceBEq, Int.reduceBNe, Int.reduceEq, Nat.reduceAdd, Nat.reduceLeDiff, Nat.reduceLT, Nat.reduceEqDiff, S1, h0, tru_val]
end Go.Proofs.Ytobnjpgggocdlaa.Fx
end

/-! text FixZa -/
section
namespace Go.Proofs.Ytobnjpgggocdlaa
open Go.ChangeShapes Go.WideShapes Go.ChangeAt Go.RowKit
namespace Fx
open Go.Rmp
theorem hasI {B : Nat} {t : T} (h : HasSh B (.int .i64) t) : ∃ n : Int, t = .int .i64 n ∧ Num n := by
  cases h with | int h =>
    rename_i n
    exact ⟨n, rfl, by simpa [Num, Lit.wf, IntKind.min, IntKind.max, IntKind.signed, IntKind.bits] using h⟩
theorem hasIs {B : Nat} {t : T} (h : HasSh B (.sl [.int .i64]) t) : ∃ k l, t = .sl k (encI l) ∧ l.length ≤ B ∧ ∀ x ∈ l, Num x := by
  cases h with
  | nil => exact ⟨.nil, [], rfl, Nat.zero_le _, by simp⟩
  | sl hl hB h0 h =>
    rename_i es
    obtain ⟨l, rfl, hP⟩ := map_of (P := Num) (fun n : Int => [T.int .i64 n]) es fun c hc => by
      have hc1 := h0 c hc
      match c, hc1 with
      | [a], _ => obtain ⟨n, rfl, hn⟩ := hasI (h _ hc 0 (.int .i64) a rfl rfl); exact ⟨n, rfl, hn⟩
    exact ⟨.arg, l, rfl, by simpa using hB, hP⟩
end Fx
namespace Law
theorem fixWhole_w (as' : List Go.Rmp.T) (hs : Go.Rmp.HasShs 1048576 [Go.Rmp.Sh.sl [.int .i64], .int .i64, .int .i64, .sl [.int .i64], .sl [.int .i64]] as') : Go.Rmp.W Ir.env (.call 5 as') [] (fun o _ => o = .val (.bool true)) := by
  cases hs with | cons h1 hs =>
  cases hs with | cons h2 hs =>
  cases hs with | cons h3 hs =>
  cases hs with | cons h4 hs =>
  cases hs with | cons h5 hs =>
  cases hs
  obtain ⟨k1, l1, rfl, b1, n1⟩ := Fx.hasIs h1
  obtain ⟨r, rfl, n2⟩ := Fx.hasI h2
  obtain ⟨t, rfl, n3⟩ := Fx.hasI h3
  obtain ⟨k4, l4, rfl, b4, n4⟩ := Fx.hasIs h4
  obtain ⟨k5, l5, rfl, b5, n5⟩ := Fx.hasIs h5
  exact Fx.whole5 k1 k4 k5 l1 r t l4 l5 [] (by omega) n3 n4 (by omega) n5 (by omega)
theorem fixWhole_fn (H : Type) : ∀ ds : List (DataW H), ds.length = Try.f5.params.toList.length → Rows.fixWholeSpec.fn H ds = { results := [.lit (.bool true)], args := ds } := by
  have hn : Try.f5.params.toList.length = 5 := by kernel_rfl
  rw [hn]
  intro ds hds
  cases ds with | nil => simp at hds | cons d0 ds =>
  cases ds with | nil => simp at hds | cons d1 ds =>
  cases ds with | nil => simp at hds | cons d2 ds =>
  cases ds with | nil => simp at hds | cons d3 ds =>
  cases ds with | nil => simp at hds | cons d4 ds =>
  cases ds with | cons => simp at hds | nil =>
  rfl
set_option maxRecDepth 100000 in
theorem fixWhole_lifted (os : Os) (started : os.Started) (H : Type) (enc : TypeId × Value → H) (F : Stop.Interp) :
    ReturnsInHanded {} Try.checked os 5 .any ((Rows.OpenSpec.upto Rows.fixWholeSpec).pre6 enc Try.prog Try.f5 Rows.fixWholeUptoRow.domain false) (((Rows.OpenSpec.upto Rows.fixWholeSpec).at F).post enc Try.prog Try.f5 false true false false) := by
  refine returnsInHanded_of_cond (C := Try.checked) (s := Rows.OpenSpec.upto Rows.fixWholeSpec) (k := Rows.uptoSmall) rfl own started (by kernel_rfl) Try.func5
    (OpenSpec.witness (enc := enc) (C := Try.checked) (s := Rows.OpenSpec.upto Rows.fixWholeSpec) (k := Rows.uptoSmall) rfl false ⟨#[], #[.slice .none 0 0, .int .i64 0, .int .i64 0, .slice .none 0 0, .slice .none 0 0], []⟩ 8 (by kernel_rfl) (by kernel_rfl) (by kernel_rfl)
      (x := ([.nil, .lit (.int .i64 0), .lit (.int .i64 0), .nil, .nil], [], [])) (by kernel_rfl) rfl (by kernel_rfl)) ?_
  intro W base args ds gs before hval hW _ hk _
  exact Go.Rmp.law_contract (s := Rows.fixWholeSpec) (shs := [Go.Rmp.Sh.sl [.int .i64], .int .i64, .int .i64, .sl [.int .i64], .sl [.int .i64]]) (B := 1048576) (tb := Try.f5.resultTypes[0]!) Ir.envOk kids hz (by kernel_rfl) (by intro t ht; exact of_decide_eq_true ((List.all_eq_true.1 (show Try.f5.params.toList.all (fun t => decide (t < Try.prog.types.size)) = true by kernel_rfl)) t ht)) (by kernel_rfl) (by kernel_rfl) rfl (fixWhole_fn H) fixWhole_w base args ds gs before hval hW (bulk_ok hk)
theorem fixWhole_over : Rows.fixWholeUptoRow.holds Try.pinned (Rows.OpenSpec.upto Rows.fixWholeSpec) :=
  OpenClaim.holds_of_cond 5 Try.f5 rfl rfl rfl rfl rfl rfl rfl ⟨rfl, rfl, rfl, rfl, rfl⟩ rfl rfl rfl rfl rfl (by kernel_rfl) Try.func5 (by kernel_rfl)
    (of_decide_eq_true (by kernel_rfl)) (by unfold Func.isWrapper; first | (rw [if_pos (by decide +kernel)]; kernel_rfl) | (rw [if_neg (by decide +kernel)]; exact ⟨rfl, rfl⟩))
    (fun os started H enc _ F => fixWhole_lifted os started H enc F)
theorem fixWhole_proved : Rows.FixWholeUptoSaid := fixWhole_over
theorem fixMissing_w (as' : List Go.Rmp.T) (hs : Go.Rmp.HasShs 1048576 [Go.Rmp.Sh.sl [.int .i64], .int .i64, .int .i64, .sl [.int .i64], .int .i64] as') : Go.Rmp.W Ir.env (.call 6 as') [] (fun o _ => o = .val (.bool true)) := by
  cases hs with | cons h1 hs =>
  cases hs with | cons h2 hs =>
  cases hs with | cons h3 hs =>
  cases hs with | cons h4 hs =>
  cases hs with | cons h5 hs =>
  cases hs
  obtain ⟨k1, l1, rfl, b1, n1⟩ := Fx.hasIs h1
  obtain ⟨r, rfl, n2⟩ := Fx.hasI h2
  obtain ⟨t, rfl, n3⟩ := Fx.hasI h3
  obtain ⟨k4, l4, rfl, b4, n4⟩ := Fx.hasIs h4
  obtain ⟨d, rfl, n5⟩ := Fx.hasI h5
  exact Fx.missing6 k1 k4 l1 r t l4 d [] (by omega) n3 n4 (by omega) n5
theorem fixMissing_fn (H : Type) : ∀ ds : List (DataW H), ds.length = Try.f6.params.toList.length → Rows.fixMissingSpec.fn H ds = { results := [.lit (.bool true)], args := ds } := by
  have hn : Try.f6.params.toList.length = 5 := by kernel_rfl
  rw [hn]
  intro ds hds
  cases ds with | nil => simp at hds | cons d0 ds =>
  cases ds with | nil => simp at hds | cons d1 ds =>
  cases ds with | nil => simp at hds | cons d2 ds =>
  cases ds with | nil => simp at hds | cons d3 ds =>
  cases ds with | nil => simp at hds | cons d4 ds =>
  cases ds with | cons => simp at hds | nil =>
  rfl
set_option maxRecDepth 100000 in
theorem fixMissing_lifted (os : Os) (started : os.Started) (H : Type) (enc : TypeId × Value → H) (F : Stop.Interp) :
    ReturnsInHanded {} Try.checked os 6 .any ((Rows.OpenSpec.upto Rows.fixMissingSpec).pre6 enc Try.prog Try.f6 Rows.fixMissingUptoRow.domain false) (((Rows.OpenSpec.upto Rows.fixMissingSpec).at F).post enc Try.prog Try.f6 false true false false) := by
  refine returnsInHanded_of_cond (C := Try.checked) (s := Rows.OpenSpec.upto Rows.fixMissingSpec) (k := Rows.uptoSmall) rfl own started (by kernel_rfl) Try.func6
    (OpenSpec.witness (enc := enc) (C := Try.checked) (s := Rows.OpenSpec.upto Rows.fixMissingSpec) (k := Rows.uptoSmall) rfl false ⟨#[], #[.slice .none 0 0, .int .i64 0, .int .i64 0, .slice .none 0 0, .int .i64 0], []⟩ 8 (by kernel_rfl) (by kernel_rfl) (by kernel_rfl)
      (x := ([.nil, .lit (.int .i64 0), .lit (.int .i64 0), .nil, .lit (.int .i64 0)], [], [])) (by kernel_rfl) rfl (by kernel_rfl)) ?_
  intro W base args ds gs before hval hW _ hk _
  exact Go.Rmp.law_contract (s := Rows.fixMissingSpec) (shs := [Go.Rmp.Sh.sl [.int .i64], .int .i64, .int .i64, .sl [.int .i64], .int .i64]) (B := 1048576) (tb := Try.f6.resultTypes[0]!) Ir.envOk kids hz (by kernel_rfl) (by intro t ht; exact of_decide_eq_true ((List.all_eq_true.1 (show Try.f6.params.toList.all (fun t => decide (t < Try.prog.types.size)) = true by kernel_rfl)) t ht)) (by kernel_rfl) (by kernel_rfl) rfl (fixMissing_fn H) fixMissing_w base args ds gs before hval hW (bulk_ok hk)
theorem fixMissing_over : Rows.fixMissingUptoRow.holds Try.pinned (Rows.OpenSpec.upto Rows.fixMissingSpec) :=
  OpenClaim.holds_of_cond 6 Try.f6 rfl rfl rfl rfl rfl rfl rfl ⟨rfl, rfl, rfl, rfl, rfl⟩ rfl rfl rfl rfl rfl (by kernel_rfl) Try.func6 (by kernel_rfl)
    (of_decide_eq_true (by kernel_rfl)) (by unfold Func.isWrapper; first | (rw [if_pos (by decide +kernel)]; kernel_rfl) | (rw [if_neg (by decide +kernel)]; exact ⟨rfl, rfl⟩))
    (fun os started H enc _ F => fixMissing_lifted os started H enc F)
theorem fixMissing_proved : Rows.FixMissingUptoSaid := fixMissing_over
end Law
end Go.Proofs.Ytobnjpgggocdlaa
end

/-! text FixZb -/
section
namespace Go.Proofs.Ytobnjpgggocdlaa.Fx
open Go.Rmp Go.Proofs.Ytobnjpgggocdlaa.Ir
set_option maxRecDepth 10000
set_option maxHeartbeats 4000000
theorem vw_msl' {H : Heap} {b n : Nat} {l : List Ver} (hn : l.length = n) (hb : H[b]? = some (.cells (msC encV l))) : Vw H (.msl b 0 n 4) l (fun i => .ptr b (i * 4)) := by
  subst hn; exact vw_msl hb
theorem nf_may {l : List Ver} {k : Nat} {y : Ver} (hk : k < l.length) (hy : may y = false) : ¬ Formed (l.set k y) := fun h => by
  have := (h.2.2 k (by simpa using hk)) y (by simp [hk])
  rw [hy] at this; exact absurd this.1 (by simp)
theorem nf_two {l : List Ver} {x y : Ver} (hx : x ∈ l) (hxy : ok2 x y = false) : ¬ Formed (l ++ [y]) := fun h => by
  obtain ⟨p, hp, e⟩ := List.getElem_of_mem hx
  have := ((h.2.2 l.length (by simp)) y (by simp)).2 p x hp (by rw [List.getElem?_append_left hp, List.getElem?_eq_getElem hp, e])
  rw [hxy] at this; cases this
theorem small_set {l : List Ver} (h : Small l) {k : Nat} {y : Ver} (hy : y.keys.length < 4611686018427387903) : Small (l.set k y) := ⟨by simpa using h.1, fun v hv => by
  rcases List.mem_or_eq_of_mem_set hv with hv | rfl
  · exact h.2 v hv
  · exact hy⟩
theorem mn20 (a : Nat) : (if (20 : Int) < ((a : Nat) : Int) then (20 : Int) else ((a : Nat) : Int)) = ((min a 20 : Nat) : Int) := mnN a 20
theorem tQ_add (k : ByteArray) (h : k.size = 1) : ¬ k ++ (⟨#[63]⟩ : ByteArray) = k := fun e => by
  have := congrArg ByteArray.size e
  rw [ByteArray.size_append] at this
  have h2 : (⟨#[63]⟩ : ByteArray).size = 1 := rfl
  omega
theorem brought_key (masks : List Int) (read turn : Int) (picks : List Int) : ∀ v ∈ brought masks read turn picks (keysOf read).length, v.key.size = 1 := fun v hv => by
  obtain ⟨i, _, rfl⟩ := List.mem_map.1 hv
  rw [(bOne_is masks read turn picks i).1]
  exact keysOf_size (bKey_in read turn i)
def tZ6 : ByteArray := ⟨#[122, 122]⟩
theorem odd7 (k0 k3 : SK) (masks : List Int) (read : Int) (picks : List Int) (at_ how : Int) (H : Heap) (hml : masks.length < 4611686018427387903) (hp : ∀ p ∈ picks, Num p) (hpl : picks.length < 4611686018427387903) (ha : Num at_) (hh : Num how) :
    W env (.call 7 [.sl k0 (encI masks), .int .i64 read, .sl k3 (encI picks), .int .i64 at_, .int .i64 how]) H Tru := by
  refine W.fnI rfl rfl rfl ?_
  have hn : min masks.length 20 ≤ masks.length := Nat.min_le_left _ _
  simp -implicitDefEqProofs only [ir7, op, ef, cl, sq, reduceIte, Int.reduceLT, Int.reduceLE, Int.reduceBEq, Int.reduceBNe, Int.reduceEq, Nat.reduceAdd, Nat.reduceLeDiff, Nat.reduceLT, Nat.reduceEqDiff, S1, encI_len, mn20, natOf_nat, Nat.zero_le, hn, allI, takeI]
  generalize hM : masks.take (min masks.length 20) = M
  have hMl : M.length ≤ 60 := by rw [← hM]; simp; omega
  refine callB_of _ _ _ _ _ _ _ _ (brought19m _ k3 M read 0 picks _ hMl (by simp [Num]) hp hpl) ?_
  rintro u H1 ⟨hx1, tl, hu, hmu⟩
  cases hu
  have hB := brought_is M read 0 picks
  have hkeys := brought_key M read 0 picks
  generalize brought M read 0 picks (keysOf read).length = l at *
  have hf := hB.formed
  have hl8 := hB.2.1
  have hl1 := hB.1
  have hsm := hB.small
  obtain ⟨b, rfl, hb, hbH⟩ : ∃ b, u = .msl b 0 l.length 4 ∧ H1[b]? = some (.cells (msC encV l)) ∧ H.length ≤ b := by
    rcases hmu with ⟨rfl, _⟩ | h
    · simp at hl1
    · exact h
  simp -implicitDefEqProofs only [op, ef, cl, sq, reduceIte, Int.reduceLT, Int.reduceLE, Int.reduceBEq, Int.reduceBNe, Int.reduceEq, Nat.reduceAdd, Nat.reduceLeDiff, Nat.reduceLT, Nat.reduceEqDiff, S1]
  refine callB_of _ _ _ _ _ _ _ _ (known11 _) ?_
  rintro u H2 ⟨hu, hx2⟩
  cases hu
  have hx2 : Ext H1 H2 := hx2
  simp -implicitDefEqProofs only [op, ef, cl, sq, reduceIte, Int.reduceLT, Int.reduceLE, Int.reduceBEq, Int.reduceBNe, Int.reduceEq, Nat.reduceAdd, Nat.reduceLeDiff, Nat.reduceLT, Nat.reduceEqDiff, S1]
  refine callB_of _ _ _ _ _ _ _ _ (formed12v _ _ l _ (vw_msl (hx2.get hb)) hsm) ?_
  rintro u H3 ⟨hu, hx3⟩
  rw [formed_t hf] at hu
  cases hu
  have hx3 : Ext H2 H3 := hx3
  have w1 : IntKind.i64.wrap ((l.length : Int) - 1) = ((l.length - 1 : Nat) : Int) := by rw [wrap64 (by omega)]; omega
  simp -implicitDefEqProofs only [op, ef, cl, sq, reduceIte, Int.reduceLT, Int.reduceLE, Int.reduceBEq, Int.reduceBNe, Int.reduceEq, Nat.reduceAdd, Nat.reduceLeDiff, Nat.reduceLT, Nat.reduceEqDiff, S1, w1]
  refine callB_of _ _ _ _ _ _ _ _ (rest20 at_ (l.length - 1) (by omega) ha _) ?_
  rintro u H4 ⟨hu, rfl⟩
  cases hu
  have hrl := restI_le at_ (l.length - 1)
  generalize restI at_ (l.length - 1) = k at *
  have hkl : k < l.length := by omega
  obtain ⟨v, hv⟩ := getV hkl
  have hvm := List.mem_of_getElem? hv
  have hb4 : H4[b]? = some (.cells (msC encV l)) := (hx2.trans hx3).get hb
  have lb := glt hb4
  have hgv : ldcB 4 (k * 4) (some (.cells (msC encV l))) = some (encV v) := msC_get (n := 4) (fun _ => rfl) hv 0 4 (by decide)
  have nb4 : ¬ H4.length = b := by omega
  have nb5 : ¬ b = H4.length := by omega
  simp -implicitDefEqProofs only [op, ef, cl, sq, reduceIte, Int.reduceLT, Int.reduceLE, Int.reduceBEq, Int.reduceBNe, Int.reduceEq, Nat.reduceAdd, Nat.reduceLeDiff, Nat.reduceLT, Nat.reduceEqDiff, S1, S2, natOf_nat, iad_m, hkl, hb4, hgv, encV]
  refine callB_of _ _ _ _ _ _ _ _ (rest20 how 6 (by decide) hh _) ?_
  rintro u H5 ⟨hu, rfl⟩
  cases hu
  have hrh := restI_le how 6
  generalize restI how 6 = h at *
  have hst : ∀ (y : Ver) (Hx : Heap), stcB Hx b (encV y) (k * 4) (some (.cells (msC encV l))) = some (Hx.set b (.cells (msC encV (l.set k y)))) := fun y Hx => msC_set (n := 4) (y := y) (fun _ => rfl) hv Hx b (encV y) 0 (by simp [encV]) (by simp [encV])
  have hset : ∀ y : Ver, (l.set k y).length = l.length := fun y => by simp
  have hxv : Ext H4 (H4 ++ [.cells [T.str v.key, .int .u64 v.id, .str v.val, .sl v.kk (encS v.keys)]]) := ⟨_, rfl⟩
  have hkk : v.kk = .arg := ((hB.2.2.1 v hvm).kk).1
  have hkey1 : v.key.size = 1 := hkeys v hvm
  match h, hrh with
  | 0, _ =>
    obtain ⟨t', Hn, hap, hmu', hst'⟩ := appM_ok (enc := encV) (n := 4) (n0 := H.length) (H := H4 ++ [.cells [T.str v.key, .int .u64 v.id, .str v.val, .sl v.kk (encS v.keys)]]) (t := .msl b 0 l.length 4) (fun _ => rfl) (bytes := 64) [v] (.inr ⟨b, rfl, by simp -implicitDefEqProofs only [S2, lb, hb4], hbH⟩) (by have := hx1.len; have := (hx2.trans hx3).len; simp; omega) (by simp) (roomT (by simp -implicitDefEqProofs only [List.length_cons, List.length_nil]; omega))
    have hnf : ¬ Formed (l ++ [v]) := nf_two hvm (by simp [ok2])
    have hsm' : Small (l ++ [v]) := ⟨by simp; omega, fun x hx => by
      rcases List.mem_append.1 hx with hx | hx
      · exact hsm.2 x hx
      · simp at hx; subst hx; exact hsm.2 _ hvm⟩
    obtain ⟨b', rfl, hb', _⟩ : ∃ b', t' = .msl b' 0 (l ++ [v]).length 4 ∧ Hn[b']? = some (.cells (msC encV (l ++ [v]))) ∧ H.length ≤ b' := by
      rcases hmu' with ⟨h0, _⟩ | h
      · simp at h0
      · exact h
    simp -implicitDefEqProofs only [op, ef, cl, sq, reduceIte, Int.reduceLT, Int.reduceLE, Int.reduceBEq, Int.reduceBNe, Int.reduceEq, Nat.reduceAdd, Nat.reduceLeDiff, Nat.reduceLT, Nat.reduceEqDiff, S1, encV, hkk] at hap
    simp -implicitDefEqProofs only [op, ef, cl, sq, reduceIte, Int.reduceLT, Int.reduceLE, Int.reduceBEq, Int.reduceBNe, Int.reduceEq, Nat.reduceAdd, Nat.reduceLeDiff, Nat.reduceLT, Nat.reduceEqDiff, S1, S2, hkk, hap]
    refine callB_of _ _ _ _ _ _ _ _ (needs9n _ _ (l ++ [v]) _ (vw_msl hb') hsm' hnf) ?_
    rintro u H6 ⟨hx6, hu⟩
    cases hu
    simp -implicitDefEqProofs only [op, ef, cl, sq, reduceIte, Int.reduceLT, Int.reduceLE, Int.reduceBEq, Int.reduceBNe, Int.reduceEq, Nat.reduceAdd, Nat.reduceLeDiff, Nat.reduceLT, Nat.reduceEqDiff, S1]
    refine callB_of _ _ _ _ _ _ _ _ (mend16n _ _ (l ++ [v]) _ _ (Vw.ext (vw_msl hb') hx6) hsm' hnf) ?_
    rintro u H7 ⟨hx7, hu⟩
    cases hu
    simp -implicitDefEqProofs only [op, ef, cl, sq, reduceIte, Int.reduceLT, Int.reduceLE, Int.reduceBEq, Int.reduceBNe, Int.reduceEq, Nat.reduceAdd, Nat.reduceLeDiff, Nat.reduceLT, Nat.reduceEqDiff, S1]
    refine callB_of _ _ _ _ _ _ _ _ (formed12v _ _ (l ++ [v]) _ (Vw.ext (vw_msl hb') (hx6.trans hx7)) hsm') ?_
    rintro u H8 ⟨hu, hx8⟩
    rw [formed_f hnf] at hu
    cases hu
    simp -implicitDefEqProofs only [op, ef, cl, sq, reduceIte, Int.reduceLT, Int.reduceLE, Int.reduceBEq, Int.reduceBNe, Int.reduceEq, Nat.reduceAdd, Nat.reduceLeDiff, Nat.reduceLT, Nat.reduceEqDiff, S1]
    refine callB_of _ _ _ _ _ _ _ _ (cut14n _ _ (l ++ [v]) _ (Vw.ext (vw_msl hb') ((hx6.trans hx7).trans hx8)) hsm' hnf) ?_
    rintro u H9 ⟨hx9, hu⟩
    cases hu
    simp -implicitDefEqProofs only [op, ef, cl, sq, reduceIte, Int.reduceLT, Int.reduceLE, Int.reduceBEq, Int.reduceBNe, Int.reduceEq, Nat.reduceAdd, Nat.reduceLeDiff, Nat.reduceLT, Nat.reduceEqDiff, S1, tru_val]
  | 1, _ =>
    have hv1 := restI_le at_ 65534
    have wa : IntKind.u64.wrap (IntKind.i64.wrap (1 + ((restI at_ 65534 : Nat) : Int))) = ((restI at_ 65534 + 1 : Nat) : Int) := by rw [wrap64 (by omega), wrapu64 (by omega)]; omega
    simp -implicitDefEqProofs only [op, ef, cl, sq, reduceIte, Int.reduceLT, Int.reduceLE, Int.reduceBEq, Int.reduceBNe, Int.reduceEq, Nat.reduceAdd, Nat.reduceLeDiff, Nat.reduceLT, Nat.reduceEqDiff, S1, S2]
    refine callB_of _ _ _ _ _ _ _ _ (rest20 at_ 65534 (by decide) ha _) ?_
    rintro u H6 ⟨hu, rfl⟩
    cases hu
    have hnf : ¬ Formed (l.set k ⟨v.key, restI at_ 65534 + 1, v.val, .full, [v.key]⟩) := nf_may hkl (by simp [may]; omega)
    have hsm' : Small (l.set k ⟨v.key, restI at_ 65534 + 1, v.val, .full, [v.key]⟩) := small_set hsm (by simp)
    have hs1 : ∀ Hx : Heap, stcB Hx b [T.str v.key, .int .u64 ((restI at_ 65534 + 1 : Nat) : Int), .str v.val, .sl .full [[.str v.key]]] (k * 4) (some (.cells (msC encV l))) = some (Hx.set b (.cells (msC encV (l.set k ⟨v.key, restI at_ 65534 + 1, v.val, .full, [v.key]⟩)))) := fun Hx => hst ⟨v.key, restI at_ 65534 + 1, v.val, .full, [v.key]⟩ Hx
    have nb6 : ¬ b = H4.length := nb5
    simp -implicitDefEqProofs only [op, ef, cl, sq, reduceIte, Int.reduceLT, Int.reduceLE, Int.reduceBEq, Int.reduceBNe, Int.reduceEq, Nat.reduceAdd, Nat.reduceLeDiff, Nat.reduceLT, Nat.reduceEqDiff, S1, S2, natOf_nat, iad_m, hkl, hb4, lb, nb4, nb5, hs1, List.set_set, wa]
    refine callB_of _ _ _ _ _ _ _ _ (needs9n _ _ (l.set k ⟨v.key, restI at_ 65534 + 1, v.val, .full, [v.key]⟩) _ (vw_msl' (hset _) (by simp -implicitDefEqProofs only [S2, lb])) hsm' hnf) ?_
    rintro u H6 ⟨hx6, hu⟩
    cases hu
    simp -implicitDefEqProofs only [op, ef, cl, sq, reduceIte, Int.reduceLT, Int.reduceLE, Int.reduceBEq, Int.reduceBNe, Int.reduceEq, Nat.reduceAdd, Nat.reduceLeDiff, Nat.reduceLT, Nat.reduceEqDiff, S1]
    refine callB_of _ _ _ _ _ _ _ _ (mend16n _ _ (l.set k ⟨v.key, restI at_ 65534 + 1, v.val, .full, [v.key]⟩) _ _ (Vw.ext (vw_msl' (hset _) (by simp -implicitDefEqProofs only [S2, lb])) hx6) hsm' hnf) ?_
    rintro u H7 ⟨hx7, hu⟩
    cases hu
    simp -implicitDefEqProofs only [op, ef, cl, sq, reduceIte, Int.reduceLT, Int.reduceLE, Int.reduceBEq, Int.reduceBNe, Int.reduceEq, Nat.reduceAdd, Nat.reduceLeDiff, Nat.reduceLT, Nat.reduceEqDiff, S1]
    refine callB_of _ _ _ _ _ _ _ _ (formed12v _ _ (l.set k ⟨v.key, restI at_ 65534 + 1, v.val, .full, [v.key]⟩) _ (Vw.ext (vw_msl' (hset _) (by simp -implicitDefEqProofs only [S2, lb])) (hx6.trans hx7)) hsm') ?_
    rintro u H8 ⟨hu, hx8⟩
    rw [formed_f hnf] at hu
    cases hu
    simp -implicitDefEqProofs only [op, ef, cl, sq, reduceIte, Int.reduceLT, Int.reduceLE, Int.reduceBEq, Int.reduceBNe, Int.reduceEq, Nat.reduceAdd, Nat.reduceLeDiff, Nat.reduceLT, Nat.reduceEqDiff, S1]
    refine callB_of _ _ _ _ _ _ _ _ (cut14n _ _ (l.set k ⟨v.key, restI at_ 65534 + 1, v.val, .full, [v.key]⟩) _ (Vw.ext (vw_msl' (hset _) (by simp -implicitDefEqProofs only [S2, lb])) ((hx6.trans hx7).trans hx8)) hsm' hnf) ?_
    rintro u H9 ⟨hx9, hu⟩
    cases hu
    simp -implicitDefEqProofs only [op, ef, cl, sq, reduceIte, Int.reduceLT, Int.reduceLE, Int.reduceBEq, Int.reduceBNe, Int.reduceEq, Nat.reduceAdd, Nat.reduceLeDiff, Nat.reduceLT, Nat.reduceEqDiff, S1, tru_val]
  | 2, _ =>
    have hnf : ¬ Formed (l.set k ⟨v.key, 0, ⟨#[118]⟩, .nil, []⟩) := nf_may hkl (by simp [may])
    have hsm' : Small (l.set k ⟨v.key, 0, ⟨#[118]⟩, .nil, []⟩) := small_set hsm (by simp)
    have hs1 : ∀ Hx : Heap, stcB Hx b [T.str v.key, .int .u64 0, .str ⟨#[118]⟩, .sl .nil []] (k * 4) (some (.cells (msC encV l))) = some (Hx.set b (.cells (msC encV (l.set k ⟨v.key, 0, ⟨#[118]⟩, .nil, []⟩)))) := fun Hx => hst ⟨v.key, 0, ⟨#[118]⟩, .nil, []⟩ Hx
    have nb6 : ¬ b = H4.length := nb5
    simp -implicitDefEqProofs only [op, ef, cl, sq, reduceIte, Int.reduceLT, Int.reduceLE, Int.reduceBEq, Int.reduceBNe, Int.reduceEq, Nat.reduceAdd, Nat.reduceLeDiff, Nat.reduceLT, Nat.reduceEqDiff, S1, S2, natOf_nat, iad_m, hkl, hb4, lb, nb4, nb5, hs1, List.set_set]
    refine callB_of _ _ _ _ _ _ _ _ (needs9n _ _ (l.set k ⟨v.key, 0, ⟨#[118]⟩, .nil, []⟩) _ (vw_msl' (hset _) (by simp -implicitDefEqProofs only [S2, lb])) hsm' hnf) ?_
    rintro u H6 ⟨hx6, hu⟩
    cases hu
    simp -implicitDefEqProofs only [op, ef, cl, sq, reduceIte, Int.reduceLT, Int.reduceLE, Int.reduceBEq, Int.reduceBNe, Int.reduceEq, Nat.reduceAdd, Nat.reduceLeDiff, Nat.reduceLT, Nat.reduceEqDiff, S1]
    refine callB_of _ _ _ _ _ _ _ _ (mend16n _ _ (l.set k ⟨v.key, 0, ⟨#[118]⟩, .nil, []⟩) _ _ (Vw.ext (vw_msl' (hset _) (by simp -implicitDefEqProofs only [S2, lb])) hx6) hsm' hnf) ?_
    rintro u H7 ⟨hx7, hu⟩
    cases hu
    simp -implicitDefEqProofs only [op, ef, cl, sq, reduceIte, Int.reduceLT, Int.reduceLE, Int.reduceBEq, Int.reduceBNe, Int.reduceEq, Nat.reduceAdd, Nat.reduceLeDiff, Nat.reduceLT, Nat.reduceEqDiff, S1]
    refine callB_of _ _ _ _ _ _ _ _ (formed12v _ _ (l.set k ⟨v.key, 0, ⟨#[118]⟩, .nil, []⟩) _ (Vw.ext (vw_msl' (hset _) (by simp -implicitDefEqProofs only [S2, lb])) (hx6.trans hx7)) hsm') ?_
    rintro u H8 ⟨hu, hx8⟩
    rw [formed_f hnf] at hu
    cases hu
    simp -implicitDefEqProofs only [op, ef, cl, sq, reduceIte, Int.reduceLT, Int.reduceLE, Int.reduceBEq, Int.reduceBNe, Int.reduceEq, Nat.reduceAdd, Nat.reduceLeDiff, Nat.reduceLT, Nat.reduceEqDiff, S1]
    refine callB_of _ _ _ _ _ _ _ _ (cut14n _ _ (l.set k ⟨v.key, 0, ⟨#[118]⟩, .nil, []⟩) _ (Vw.ext (vw_msl' (hset _) (by simp -implicitDefEqProofs only [S2, lb])) ((hx6.trans hx7).trans hx8)) hsm' hnf) ?_
    rintro u H9 ⟨hx9, hu⟩
    cases hu
    simp -implicitDefEqProofs only [op, ef, cl, sq, reduceIte, Int.reduceLT, Int.reduceLE, Int.reduceBEq, Int.reduceBNe, Int.reduceEq, Nat.reduceAdd, Nat.reduceLeDiff, Nat.reduceLT, Nat.reduceEqDiff, S1, tru_val]
  | 3, _ =>
    have hnf : ¬ Formed (l.set k ⟨v.key, 0, ⟨#[]⟩, .full, [v.key]⟩) := nf_may hkl (by simp [may])
    have hsm' : Small (l.set k ⟨v.key, 0, ⟨#[]⟩, .full, [v.key]⟩) := small_set hsm (by simp)
    have hs1 : ∀ Hx : Heap, stcB Hx b [T.str v.key, .int .u64 0, .str ⟨#[]⟩, .sl .full [[.str v.key]]] (k * 4) (some (.cells (msC encV l))) = some (Hx.set b (.cells (msC encV (l.set k ⟨v.key, 0, ⟨#[]⟩, .full, [v.key]⟩)))) := fun Hx => hst ⟨v.key, 0, ⟨#[]⟩, .full, [v.key]⟩ Hx
    have nb6 : ¬ b = H4.length := nb5
    simp -implicitDefEqProofs only [op, ef, cl, sq, reduceIte, Int.reduceLT, Int.reduceLE, Int.reduceBEq, Int.reduceBNe, Int.reduceEq, Nat.reduceAdd, Nat.reduceLeDiff, Nat.reduceLT, Nat.reduceEqDiff, S1, S2, natOf_nat, iad_m, hkl, hb4, lb, nb4, nb5, hs1, List.set_set]
    refine callB_of _ _ _ _ _ _ _ _ (needs9n _ _ (l.set k ⟨v.key, 0, ⟨#[]⟩, .full, [v.key]⟩) _ (vw_msl' (hset _) (by simp -implicitDefEqProofs only [S2, lb])) hsm' hnf) ?_
    rintro u H6 ⟨hx6, hu⟩
    cases hu
    simp -implicitDefEqProofs only [op, ef, cl, sq, reduceIte, Int.reduceLT, Int.reduceLE, Int.reduceBEq, Int.reduceBNe, Int.reduceEq, Nat.reduceAdd, Nat.reduceLeDiff, Nat.reduceLT, Nat.reduceEqDiff, S1]
    refine callB_of _ _ _ _ _ _ _ _ (mend16n _ _ (l.set k ⟨v.key, 0, ⟨#[]⟩, .full, [v.key]⟩) _ _ (Vw.ext (vw_msl' (hset _) (by simp -implicitDefEqProofs only [S2, lb])) hx6) hsm' hnf) ?_
    rintro u H7 ⟨hx7, hu⟩
    cases hu
    simp -implicitDefEqProofs only [op, ef, cl, sq, reduceIte, Int.reduceLT, Int.reduceLE, Int.reduceBEq, Int.reduceBNe, Int.reduceEq, Nat.reduceAdd, Nat.reduceLeDiff, Nat.reduceLT, Nat.reduceEqDiff, S1]
    refine callB_of _ _ _ _ _ _ _ _ (formed12v _ _ (l.set k ⟨v.key, 0, ⟨#[]⟩, .full, [v.key]⟩) _ (Vw.ext (vw_msl' (hset _) (by simp -implicitDefEqProofs only [S2, lb])) (hx6.trans hx7)) hsm') ?_
    rintro u H8 ⟨hu, hx8⟩
    rw [formed_f hnf] at hu
    cases hu
    simp -implicitDefEqProofs only [op, ef, cl, sq, reduceIte, Int.reduceLT, Int.reduceLE, Int.reduceBEq, Int.reduceBNe, Int.reduceEq, Nat.reduceAdd, Nat.reduceLeDiff, Nat.reduceLT, Nat.reduceEqDiff, S1]
    refine callB_of _ _ _ _ _ _ _ _ (cut14n _ _ (l.set k ⟨v.key, 0, ⟨#[]⟩, .full, [v.key]⟩) _ (Vw.ext (vw_msl' (hset _) (by simp -implicitDefEqProofs only [S2, lb])) ((hx6.trans hx7).trans hx8)) hsm' hnf) ?_
    rintro u H9 ⟨hx9, hu⟩
    cases hu
    simp -implicitDefEqProofs only [op, ef, cl, sq, reduceIte, Int.reduceLT, Int.reduceLE, Int.reduceBEq, Int.reduceBNe, Int.reduceEq, Nat.reduceAdd, Nat.reduceLeDiff, Nat.reduceLT, Nat.reduceEqDiff, S1, tru_val]
  | 4, _ =>
    have hk1 : v.key.size = 1 := hkey1
    have hq : v.key.size + (⟨#[63]⟩ : ByteArray).size ≤ 9223372036854775807 := by rw [hk1]; decide
    have hne := tQ_add v.key hk1
    have hnf : ¬ Formed (l.set k ⟨v.key, 1099511627776, ⟨#[]⟩, .full, [v.key ++ (⟨#[63]⟩ : ByteArray)]⟩) := nf_may hkl (by simp [may, memB, rises, hne])
    have hsm' : Small (l.set k ⟨v.key, 1099511627776, ⟨#[]⟩, .full, [v.key ++ (⟨#[63]⟩ : ByteArray)]⟩) := small_set hsm (by simp)
    have hs1 : ∀ Hx : Heap, stcB Hx b [T.str v.key, .int .u64 1099511627776, .str ⟨#[]⟩, .sl .full [[.str (v.key ++ ⟨#[63]⟩)]]] (k * 4) (some (.cells (msC encV l))) = some (Hx.set b (.cells (msC encV (l.set k ⟨v.key, 1099511627776, ⟨#[]⟩, .full, [v.key ++ (⟨#[63]⟩ : ByteArray)]⟩)))) := fun Hx => hst ⟨v.key, 1099511627776, ⟨#[]⟩, .full, [v.key ++ (⟨#[63]⟩ : ByteArray)]⟩ Hx
    have nb6 : ¬ b = H4.length := nb5
    simp -implicitDefEqProofs only [op, ef, cl, sq, reduceIte, Int.reduceLT, Int.reduceLE, Int.reduceBEq, Int.reduceBNe, Int.reduceEq, Nat.reduceAdd, Nat.reduceLeDiff, Nat.reduceLT, Nat.reduceEqDiff, S1, S2, natOf_nat, iad_m, hkl, hb4, lb, nb4, nb5, hs1, List.set_set, hq]
    refine callB_of _ _ _ _ _ _ _ _ (needs9n _ _ (l.set k ⟨v.key, 1099511627776, ⟨#[]⟩, .full, [v.key ++ (⟨#[63]⟩ : ByteArray)]⟩) _ (vw_msl' (hset _) (by simp -implicitDefEqProofs only [S2, lb])) hsm' hnf) ?_
    rintro u H6 ⟨hx6, hu⟩
    cases hu
    simp -implicitDefEqProofs only [op, ef, cl, sq, reduceIte, Int.reduceLT, Int.reduceLE, Int.reduceBEq, Int.reduceBNe, Int.reduceEq, Nat.reduceAdd, Nat.reduceLeDiff, Nat.reduceLT, Nat.reduceEqDiff, S1]
    refine callB_of _ _ _ _ _ _ _ _ (mend16n _ _ (l.set k ⟨v.key, 1099511627776, ⟨#[]⟩, .full, [v.key ++ (⟨#[63]⟩ : ByteArray)]⟩) _ _ (Vw.ext (vw_msl' (hset _) (by simp -implicitDefEqProofs only [S2, lb])) hx6) hsm' hnf) ?_
    rintro u H7 ⟨hx7, hu⟩
    cases hu
    simp -implicitDefEqProofs only [op, ef, cl, sq, reduceIte, Int.reduceLT, Int.reduceLE, Int.reduceBEq, Int.reduceBNe, Int.reduceEq, Nat.reduceAdd, Nat.reduceLeDiff, Nat.reduceLT, Nat.reduceEqDiff, S1]
    refine callB_of _ _ _ _ _ _ _ _ (formed12v _ _ (l.set k ⟨v.key, 1099511627776, ⟨#[]⟩, .full, [v.key ++ (⟨#[63]⟩ : ByteArray)]⟩) _ (Vw.ext (vw_msl' (hset _) (by simp -implicitDefEqProofs only [S2, lb])) (hx6.trans hx7)) hsm') ?_
    rintro u H8 ⟨hu, hx8⟩
    rw [formed_f hnf] at hu
    cases hu
    simp -implicitDefEqProofs only [op, ef, cl, sq, reduceIte, Int.reduceLT, Int.reduceLE, Int.reduceBEq, Int.reduceBNe, Int.reduceEq, Nat.reduceAdd, Nat.reduceLeDiff, Nat.reduceLT, Nat.reduceEqDiff, S1]
    refine callB_of _ _ _ _ _ _ _ _ (cut14n _ _ (l.set k ⟨v.key, 1099511627776, ⟨#[]⟩, .full, [v.key ++ (⟨#[63]⟩ : ByteArray)]⟩) _ (Vw.ext (vw_msl' (hset _) (by simp -implicitDefEqProofs only [S2, lb])) ((hx6.trans hx7).trans hx8)) hsm' hnf) ?_
    rintro u H9 ⟨hx9, hu⟩
    cases hu
    simp -implicitDefEqProofs only [op, ef, cl, sq, reduceIte, Int.reduceLT, Int.reduceLE, Int.reduceBEq, Int.reduceBNe, Int.reduceEq, Nat.reduceAdd, Nat.reduceLeDiff, Nat.reduceLT, Nat.reduceEqDiff, S1, tru_val]
  | 5, _ =>
    have hnf : ¬ Formed (l.set k ⟨v.key, 1099511627776, ⟨#[]⟩, .full, [v.key, v.key]⟩) := nf_may hkl (by simp [may, rises, lt_irr])
    have hsm' : Small (l.set k ⟨v.key, 1099511627776, ⟨#[]⟩, .full, [v.key, v.key]⟩) := small_set hsm (by simp)
    have hs1 : ∀ Hx : Heap, stcB Hx b [T.str v.key, .int .u64 1099511627776, .str ⟨#[]⟩, .sl .full [[.str v.key], [.str v.key]]] (k * 4) (some (.cells (msC encV l))) = some (Hx.set b (.cells (msC encV (l.set k ⟨v.key, 1099511627776, ⟨#[]⟩, .full, [v.key, v.key]⟩)))) := fun Hx => hst ⟨v.key, 1099511627776, ⟨#[]⟩, .full, [v.key, v.key]⟩ Hx
    have nb6 : ¬ b = H4.length := nb5
    simp -implicitDefEqProofs only [op, ef, cl, sq, reduceIte, Int.reduceLT, Int.reduceLE, Int.reduceBEq, Int.reduceBNe, Int.reduceEq, Nat.reduceAdd, Nat.reduceLeDiff, Nat.reduceLT, Nat.reduceEqDiff, S1, S2, natOf_nat, iad_m, hkl, hb4, lb, nb4, nb5, hs1, List.set_set]
    refine callB_of _ _ _ _ _ _ _ _ (needs9n _ _ (l.set k ⟨v.key, 1099511627776, ⟨#[]⟩, .full, [v.key, v.key]⟩) _ (vw_msl' (hset _) (by simp -implicitDefEqProofs only [S2, lb])) hsm' hnf) ?_
    rintro u H6 ⟨hx6, hu⟩
    cases hu
    simp -implicitDefEqProofs only [op, ef, cl, sq, reduceIte, Int.reduceLT, Int.reduceLE, Int.reduceBEq, Int.reduceBNe, Int.reduceEq, Nat.reduceAdd, Nat.reduceLeDiff, Nat.reduceLT, Nat.reduceEqDiff, S1]
    refine callB_of _ _ _ _ _ _ _ _ (mend16n _ _ (l.set k ⟨v.key, 1099511627776, ⟨#[]⟩, .full, [v.key, v.key]⟩) _ _ (Vw.ext (vw_msl' (hset _) (by simp -implicitDefEqProofs only [S2, lb])) hx6) hsm' hnf) ?_
    rintro u H7 ⟨hx7, hu⟩
    cases hu
    simp -implicitDefEqProofs only [op, ef, cl, sq, reduceIte, Int.reduceLT, Int.reduceLE, Int.reduceBEq, Int.reduceBNe, Int.reduceEq, Nat.reduceAdd, Nat.reduceLeDiff, Nat.reduceLT, Nat.reduceEqDiff, S1]
    refine callB_of _ _ _ _ _ _ _ _ (formed12v _ _ (l.set k ⟨v.key, 1099511627776, ⟨#[]⟩, .full, [v.key, v.key]⟩) _ (Vw.ext (vw_msl' (hset _) (by simp -implicitDefEqProofs only [S2, lb])) (hx6.trans hx7)) hsm') ?_
    rintro u H8 ⟨hu, hx8⟩
    rw [formed_f hnf] at hu
    cases hu
    simp -implicitDefEqProofs only [op, ef, cl, sq, reduceIte, Int.reduceLT, Int.reduceLE, Int.reduceBEq, Int.reduceBNe, Int.reduceEq, Nat.reduceAdd, Nat.reduceLeDiff, Nat.reduceLT, Nat.reduceEqDiff, S1]
    refine callB_of _ _ _ _ _ _ _ _ (cut14n _ _ (l.set k ⟨v.key, 1099511627776, ⟨#[]⟩, .full, [v.key, v.key]⟩) _ (Vw.ext (vw_msl' (hset _) (by simp -implicitDefEqProofs only [S2, lb])) ((hx6.trans hx7).trans hx8)) hsm' hnf) ?_
    rintro u H9 ⟨hx9, hu⟩
    cases hu
    simp -implicitDefEqProofs only [op, ef, cl, sq, reduceIte, Int.reduceLT, Int.reduceLE, Int.reduceBEq, Int.reduceBNe, Int.reduceEq, Nat.reduceAdd, Nat.reduceLeDiff, Nat.reduceLT, Nat.reduceEqDiff, S1, tru_val]
  | 6, _ =>
    have hs1 : ∀ Hx : Heap, stcB Hx b [T.str v.key, .int .u64 1099511627776, .str ⟨#[]⟩, .sl .full [[.str v.key]]] (k * 4) (some (.cells (msC encV l))) = some (Hx.set b (.cells (msC encV (l.set k (⟨v.key, 1099511627776, ⟨#[]⟩, .full, [v.key]⟩ : Ver))))) := fun Hx => hst (⟨v.key, 1099511627776, ⟨#[]⟩, .full, [v.key]⟩ : Ver) Hx
    obtain ⟨t', Hn, hap, hmu', hst'⟩ := appM_ok (enc := encV) (n := 4) (n0 := H.length) (H := H4.set b (.cells (msC encV (l.set k (⟨v.key, 1099511627776, ⟨#[]⟩, .full, [v.key]⟩ : Ver)))) ++ [.cells [T.str v.key, .int .u64 v.id, .str v.val, .sl v.kk (encS v.keys)]]) (t := .msl b 0 l.length 4) (l := l.set k (⟨v.key, 1099511627776, ⟨#[]⟩, .full, [v.key]⟩ : Ver)) (fun _ => rfl) (bytes := 64) [(⟨tZ6, 1099511627776, ⟨#[]⟩, .arg, [tZ6]⟩ : Ver)] (.inr ⟨b, by simp, by simp -implicitDefEqProofs only [S2, lb], hbH⟩) (by have := hx1.len; have := (hx2.trans hx3).len; simp; omega) (by simp) (roomT (by simp -implicitDefEqProofs only [List.length_cons, List.length_nil, List.length_set]; omega))
    have hym : (⟨v.key, 1099511627776, ⟨#[]⟩, .full, [v.key]⟩ : Ver) ∈ l.set k (⟨v.key, 1099511627776, ⟨#[]⟩, .full, [v.key]⟩ : Ver) := List.mem_iff_getElem?.2 ⟨k, by simp [hkl]⟩
    have hnz : ¬ v.key = tZ6 := fun e => by have h1 := hkey1; rw [e] at h1; exact absurd h1 (by decide)
    have hnf : ¬ Formed (l.set k (⟨v.key, 1099511627776, ⟨#[]⟩, .full, [v.key]⟩ : Ver) ++ [(⟨tZ6, 1099511627776, ⟨#[]⟩, .arg, [tZ6]⟩ : Ver)]) := nf_two hym (by simp [ok2, hnz])
    have hz6 : (⟨tZ6, 1099511627776, ⟨#[]⟩, .arg, [tZ6]⟩ : Ver).keys.length < 4611686018427387903 := by simp
    have hsm' : Small (l.set k (⟨v.key, 1099511627776, ⟨#[]⟩, .full, [v.key]⟩ : Ver) ++ [(⟨tZ6, 1099511627776, ⟨#[]⟩, .arg, [tZ6]⟩ : Ver)]) := ⟨by simp; omega, fun x hx => by
      rcases List.mem_append.1 hx with hx | hx
      · exact (small_set hsm (by simp)).2 x hx
      · rw [List.mem_singleton] at hx; rw [hx]; exact hz6⟩
    obtain ⟨b', rfl, hb', _⟩ : ∃ b', t' = .msl b' 0 (l.set k (⟨v.key, 1099511627776, ⟨#[]⟩, .full, [v.key]⟩ : Ver) ++ [(⟨tZ6, 1099511627776, ⟨#[]⟩, .arg, [tZ6]⟩ : Ver)]).length 4 ∧ Hn[b']? = some (.cells (msC encV (l.set k (⟨v.key, 1099511627776, ⟨#[]⟩, .full, [v.key]⟩ : Ver) ++ [(⟨tZ6, 1099511627776, ⟨#[]⟩, .arg, [tZ6]⟩ : Ver)]))) ∧ H.length ≤ b' := by
      rcases hmu' with ⟨h0, _⟩ | h
      · simp at h0
      · exact h
    have ez : (⟨#[122, 122]⟩ : ByteArray) = tZ6 := rfl
    replace hap : appM (H4.set b (.cells (msC encV (l.set k (⟨v.key, 1099511627776, ⟨#[]⟩, .full, [v.key]⟩ : Ver)))) ++ [.cells [T.str v.key, .int .u64 v.id, .str v.val, .sl v.kk (encS v.keys)]]) 4 64 (.msl b 0 l.length 4) [[T.str tZ6, .int .u64 1099511627776, .str ⟨#[]⟩, .sl .arg [[.str tZ6]]]] = _ := hap
    simp -implicitDefEqProofs only [op, ef, cl, sq, reduceIte, Int.reduceLT, Int.reduceLE, Int.reduceBEq, Int.reduceBNe, Int.reduceEq, Nat.reduceAdd, Nat.reduceLeDiff, Nat.reduceLT, Nat.reduceEqDiff, S1, S2, natOf_nat, iad_m, hkl, hb4, lb, nb4, nb5, hs1, ez, hap]
    refine callB_of _ _ _ _ _ _ _ _ (needs9n _ _ (l.set k (⟨v.key, 1099511627776, ⟨#[]⟩, .full, [v.key]⟩ : Ver) ++ [(⟨tZ6, 1099511627776, ⟨#[]⟩, .arg, [tZ6]⟩ : Ver)]) _ (vw_msl hb') hsm' hnf) ?_
    rintro u H6 ⟨hx6, hu⟩
    cases hu
    simp -implicitDefEqProofs only [op, ef, cl, sq, reduceIte, Int.reduceLT, Int.reduceLE, Int.reduceBEq, Int.reduceBNe, Int.reduceEq, Nat.reduceAdd, Nat.reduceLeDiff, Nat.reduceLT, Nat.reduceEqDiff, S1]
    refine callB_of _ _ _ _ _ _ _ _ (mend16n _ _ (l.set k (⟨v.key, 1099511627776, ⟨#[]⟩, .full, [v.key]⟩ : Ver) ++ [(⟨tZ6, 1099511627776, ⟨#[]⟩, .arg, [tZ6]⟩ : Ver)]) _ _ (Vw.ext (vw_msl hb') hx6) hsm' hnf) ?_
    rintro u H7 ⟨hx7, hu⟩
    cases hu
    simp -implicitDefEqProofs only [op, ef, cl, sq, reduceIte, Int.reduceLT, Int.reduceLE, Int.reduceBEq, Int.reduceBNe, Int.reduceEq, Nat.reduceAdd, Nat.reduceLeDiff, Nat.reduceLT, Nat.reduceEqDiff, S1]
    refine callB_of _ _ _ _ _ _ _ _ (formed12v _ _ (l.set k (⟨v.key, 1099511627776, ⟨#[]⟩, .full, [v.key]⟩ : Ver) ++ [(⟨tZ6, 1099511627776, ⟨#[]⟩, .arg, [tZ6]⟩ : Ver)]) _ (Vw.ext (vw_msl hb') (hx6.trans hx7)) hsm') ?_
    rintro u H8 ⟨hu, hx8⟩
    rw [formed_f hnf] at hu
    cases hu
    simp -implicitDefEqProofs only [op, ef, cl, sq, reduceIte, Int.reduceLT, Int.reduceLE, Int.reduceBEq, Int.reduceBNe, Int.reduceEq, Nat.reduceAdd, Nat.reduceLeDiff, Nat.reduceLT, Nat.reduceEqDiff, S1]
    refine callB_of _ _ _ _ _ _ _ _ (cut14n _ _ (l.set k (⟨v.key, 1099511627776, ⟨#[]⟩, .full, [v.key]⟩ : Ver) ++ [(⟨tZ6, 1099511627776, ⟨#[]⟩, .arg, [tZ6]⟩ : Ver)]) _ (Vw.ext (vw_msl hb') ((hx6.trans hx7).trans hx8)) hsm' hnf) ?_
    rintro u H9 ⟨hx9, hu⟩
    cases hu
    simp -implicitDefEqProofs only [op, ef, cl, sq, reduceIte, Int.reduceLT, Int.reduceLE, Int.reduceBEq, Int.reduceBNe, Int.reduceEq, Nat.reduceAdd, Nat.reduceLeDiff, Nat.reduceLT, Nat.reduceEqDiff, S1, tru_val]
  | n + 7, hx => omega
end Go.Proofs.Ytobnjpgggocdlaa.Fx
end

/-! text FixZc -/
section
namespace Go.Proofs.Ytobnjpgggocdlaa
open Go.ChangeShapes Go.WideShapes Go.ChangeAt Go.RowKit
namespace Law
theorem fixOdd_w (as' : List Go.Rmp.T) (hs : Go.Rmp.HasShs 1048576 [Go.Rmp.Sh.sl [.int .i64], .int .i64, .sl [.int .i64], .int .i64, .int .i64] as') : Go.Rmp.W Ir.env (.call 7 as') [] (fun o _ => o = .val (.bool true)) := by
  cases hs with | cons h1 hs =>
  cases hs with | cons h2 hs =>
  cases hs with | cons h3 hs =>
  cases hs with | cons h4 hs =>
  cases hs with | cons h5 hs =>
  cases hs
  obtain ⟨k1, l1, rfl, b1, n1⟩ := Fx.hasIs h1
  obtain ⟨r, rfl, n2⟩ := Fx.hasI h2
  obtain ⟨k3, l3, rfl, b3, n3⟩ := Fx.hasIs h3
  obtain ⟨a, rfl, n4⟩ := Fx.hasI h4
  obtain ⟨d, rfl, n5⟩ := Fx.hasI h5
  exact Fx.odd7 k1 k3 l1 r l3 a d [] (by omega) n3 (by omega) n4 n5
theorem fixOdd_fn (H : Type) : ∀ ds : List (DataW H), ds.length = Try.f7.params.toList.length → Rows.fixOddSpec.fn H ds = { results := [.lit (.bool true)], args := ds } := by
  have hn : Try.f7.params.toList.length = 5 := by kernel_rfl
  rw [hn]
  intro ds hds
  cases ds with | nil => simp at hds | cons d0 ds =>
  cases ds with | nil => simp at hds | cons d1 ds =>
  cases ds with | nil => simp at hds | cons d2 ds =>
  cases ds with | nil => simp at hds | cons d3 ds =>
  cases ds with | nil => simp at hds | cons d4 ds =>
  cases ds with | cons => simp at hds | nil =>
  rfl
set_option maxRecDepth 100000 in
theorem fixOdd_lifted (os : Os) (started : os.Started) (H : Type) (enc : TypeId × Value → H) (F : Stop.Interp) :
    ReturnsInHanded {} Try.checked os 7 .any ((Rows.OpenSpec.upto Rows.fixOddSpec).pre6 enc Try.prog Try.f7 Rows.fixOddUptoRow.domain false) (((Rows.OpenSpec.upto Rows.fixOddSpec).at F).post enc Try.prog Try.f7 false true false false) := by
  refine returnsInHanded_of_cond (C := Try.checked) (s := Rows.OpenSpec.upto Rows.fixOddSpec) (k := Rows.uptoSmall) rfl own started (by kernel_rfl) Try.func7
    (OpenSpec.witness (enc := enc) (C := Try.checked) (s := Rows.OpenSpec.upto Rows.fixOddSpec) (k := Rows.uptoSmall) rfl false ⟨#[], #[.slice .none 0 0, .int .i64 0, .slice .none 0 0, .int .i64 0, .int .i64 0], []⟩ 8 (by kernel_rfl) (by kernel_rfl) (by kernel_rfl)
      (x := ([.nil, .lit (.int .i64 0), .nil, .lit (.int .i64 0), .lit (.int .i64 0)], [], [])) (by kernel_rfl) rfl (by kernel_rfl)) ?_
  intro W base args ds gs before hval hW _ hk _
  exact Go.Rmp.law_contract (s := Rows.fixOddSpec) (shs := [Go.Rmp.Sh.sl [.int .i64], .int .i64, .sl [.int .i64], .int .i64, .int .i64]) (B := 1048576) (tb := Try.f7.resultTypes[0]!) Ir.envOk kids hz (by kernel_rfl) (by intro t ht; exact of_decide_eq_true ((List.all_eq_true.1 (show Try.f7.params.toList.all (fun t => decide (t < Try.prog.types.size)) = true by kernel_rfl)) t ht)) (by kernel_rfl) (by kernel_rfl) rfl (fixOdd_fn H) fixOdd_w base args ds gs before hval hW (bulk_ok hk)
theorem fixOdd_over : Rows.fixOddUptoRow.holds Try.pinned (Rows.OpenSpec.upto Rows.fixOddSpec) :=
  OpenClaim.holds_of_cond 7 Try.f7 rfl rfl rfl rfl rfl rfl rfl ⟨rfl, rfl, rfl, rfl, rfl⟩ rfl rfl rfl rfl rfl (by kernel_rfl) Try.func7 (by kernel_rfl)
    (of_decide_eq_true (by kernel_rfl)) (by unfold Func.isWrapper; first | (rw [if_pos (by decide +kernel)]; kernel_rfl) | (rw [if_neg (by decide +kernel)]; exact ⟨rfl, rfl⟩))
    (fun os started H enc _ F => fixOdd_lifted os started H enc F)
theorem fixOdd_proved : Rows.FixOddUptoSaid := fixOdd_over
end Law
end Go.Proofs.Ytobnjpgggocdlaa
end
