/- Part of a proof of a law of this seat: the machine of plain values, its simulation, and the contracts of the functions that the law reaches. Conditions: none beyond the given row. -/
import Derived.Test.YtobnjpgggocdlaaM2
import Derived.Test.YtobnjpgggocdlaaRows
import Derived.WalkKit
import Derived.ProofKit
import Derived.OpenShut
import Derived.JoinedCond
import Derived.ChangeBears
set_option linter.unusedSimpArgs false
set_option linter.unusedVariables false
/-! text FixG -/
section
namespace Go.Proofs.Ytobnjpgggocdlaa.Fx
open Go.Rmp Go.Proofs.Ytobnjpgggocdlaa.Ir
set_option maxRecDepth 10000
/-- the greatest ID of those that have a key among theirs -/
def gr (l : List Ver) (key : ByteArray) : Nat := l.foldl (fun m v => if memB v.keys key then max m v.id else m) 0
def grs (l : List Ver) : List Nat := l.map fun u => gr l u.key
theorem gr_snoc (l : List Ver) (v : Ver) (key : ByteArray) : gr (l ++ [v]) key = if memB v.keys key then max (gr l key) v.id else gr l key := by simp [gr]
theorem gr_app (l m : List Ver) (key : ByteArray) : gr l key ≤ gr (l ++ m) key := by
  induction m generalizing l with
  | nil => simp
  | cons v m ih =>
    have := ih (l ++ [v])
    rw [gr_snoc] at this
    rw [List.append_assoc] at this
    simp -implicitDefEqProofs only [List.cons_append, List.nil_append] at this
    split at this <;> omega
theorem gr_ge {l : List Ver} {v : Ver} {key : ByteArray} (hv : v ∈ l) (hk : memB v.keys key = true) : v.id ≤ gr l key := by
  obtain ⟨a, b, rfl⟩ := List.append_of_mem hv
  have h1 := gr_snoc a v key
  have h2 := gr_app (a ++ [v]) b key
  rw [List.append_assoc] at h2
  simp -implicitDefEqProofs only [List.cons_append, List.nil_append] at h2
  rw [hk] at h1
  simp at h1
  omega
theorem gr_is' (l : List Ver) (key : ByteArray) : ∀ m0, (l.foldl (fun m v => if memB v.keys key then max m v.id else m) m0 = m0) ∨ ∃ v ∈ l, memB v.keys key = true ∧ v.id = l.foldl (fun m v => if memB v.keys key then max m v.id else m) m0 := by
  induction l with
  | nil => exact fun m0 => .inl rfl
  | cons v l ih =>
    intro m0
    simp -implicitDefEqProofs only [List.foldl_cons]
    rcases ih (if memB v.keys key then max m0 v.id else m0) with h | ⟨u, hu, h1, h2⟩
    · by_cases hk : memB v.keys key = true
      · rw [h]; simp -implicitDefEqProofs only [hk, if_true]
        by_cases h' : v.id ≤ m0
        · left; omega
        · exact .inr ⟨v, by simp, hk, by omega⟩
      · rw [h]; simp -implicitDefEqProofs only [hk, if_false, Bool.false_eq_true]; simp
    · exact .inr ⟨u, by simp [hu], h1, h2⟩
theorem gr_is (l : List Ver) (key : ByteArray) : gr l key = 0 ∨ ∃ v ∈ l, memB v.keys key = true ∧ v.id = gr l key := gr_is' l key 0

/-- a place for each among the first i -/
def Places {β : Type} [DecidableEq β] (f : Ver → β) (l : List Ver) (i : Nat) (es : List (β × T)) : Prop := ∀ k, match mlook es k with
  | .none => k ∉ (l.take i).map f
  | some t => ∃ p v, p < i ∧ l[p]? = some v ∧ f v = k ∧ t = .int .i64 (p : Int)
theorem places_nil {β : Type} [DecidableEq β] (f : Ver → β) (l : List Ver) : Places f l 0 [] := fun k => by simp [mlook_nil]
theorem places_put {β : Type} [DecidableEq β] {f : Ver → β} {l : List Ver} {i : Nat} {es : List (β × T)} {v : Ver} (h : Places f l i es) (hv : l[i]? = some v) : Places f l (i + 1) (mput es (f v) (.int .i64 (i : Int))) := fun k => by
  rw [mlook_put, take_snoc hv]
  by_cases e : k = f v
  · subst e; simp -implicitDefEqProofs only [if_true]; exact ⟨i, v, by omega, hv, rfl, rfl⟩
  · have := h k
    simp -implicitDefEqProofs only [e, if_false]
    cases hl' : mlook es k with
    | none => rw [hl'] at this; simp [e]; simpa using this
    | some t => rw [hl'] at this; obtain ⟨p, u, hp, hu, he⟩ := this; exact ⟨p, u, by omega, hu, he⟩

def cnt (l : List Ver) (i id : Nat) : Nat := ((l.take i).filter fun v => decide (v.id = id)).length
def SeenOk (l : List Ver) (i : Nat) (es : List (Nat × T)) : Prop := ∀ id, (cnt l i id = 0 → mlook es id = Option.none) ∧ (cnt l i id ≠ 0 → mlook es id = some (T.int .i64 (cnt l i id : Int)))
theorem cnt_le (l : List Ver) (i id : Nat) : cnt l i id ≤ l.length := by
  unfold cnt; refine Nat.le_trans (List.length_filter_le _ _) ?_; simp; omega
theorem cnt_succ {l : List Ver} {i : Nat} {v : Ver} (hv : l[i]? = some v) (id : Nat) : cnt l (i + 1) id = cnt l i id + if v.id = id then 1 else 0 := by
  unfold cnt; rw [take_snoc hv, List.filter_append, List.length_append]
  by_cases e : v.id = id <;> simp [List.filter_cons, e]
theorem cnt_mem {l : List Ver} {i id : Nat} (h : cnt l i id ≠ 0) : ∃ p v, p < i ∧ l[p]? = some v ∧ v.id = id := by
  unfold cnt at h
  obtain ⟨x, hx⟩ := List.exists_mem_of_length_pos (Nat.pos_of_ne_zero h)
  rw [List.mem_filter] at hx
  obtain ⟨j, hj, e⟩ := mem_take hx.1
  exact ⟨j, x, hj, e, by simpa using hx.2⟩
def OutOk (l : List Ver) (i : Nat) (outs : List Nat) : Prop := outs.length = l.length ∧ ∀ (p : Nat) (u : Ver), l[p]? = some u → outs[p]? = some (gr (l.take i) u.key)
def InOk (l : List Ver) (i : Nat) (v : Ver) (j : Nat) (outs : List Nat) : Prop := outs.length = l.length ∧ ∀ (p : Nat) (u : Ver), l[p]? = some u → outs[p]? = some (if memB (v.keys.take j) u.key then max (gr (l.take i) u.key) v.id else gr (l.take i) u.key)
theorem mxN (a b : Nat) : (if ((b : Nat) : Int) > ((a : Nat) : Int) then ((b : Nat) : Int) else ((a : Nat) : Int)) = ((max a b : Nat) : Int) := by
  split <;> omega
theorem out0 (l : List Ver) : OutOk l 0 (List.replicate l.length 0) := ⟨by simp, fun p u hu => by
  have := (List.getElem?_eq_some_iff.1 hu).1
  simp [gr, this]⟩
theorem in0 {l : List Ver} {i : Nat} {outs : List Nat} (h : OutOk l i outs) (v : Ver) : InOk l i v 0 outs := ⟨h.1, fun p u hu => by rw [h.2 p u hu]; simp [memB]⟩
theorem in_end {l : List Ver} {i : Nat} {v : Ver} {outs : List Nat} (hv : l[i]? = some v) {j : Nat} (hj : v.keys.length ≤ j) (h : InOk l i v j outs) : OutOk l (i + 1) outs := ⟨h.1, fun p u hu => by
  rw [h.2 p u hu, take_snoc hv, gr_snoc, List.take_of_length_le hj]⟩
theorem out_dup {l : List Ver} {i : Nat} {v : Ver} {outs : List Nat} (hv : l[i]? = some v) (hf : Formed l) (hd : cnt l i v.id ≠ 0) (h : OutOk l i outs) : OutOk l (i + 1) outs := ⟨h.1, fun p u hu => by
  rw [h.2 p u hu, take_snoc hv, gr_snoc]
  obtain ⟨q, x, hq, hx, he⟩ := cnt_mem hd
  have hi := (List.getElem?_eq_some_iff.1 hv).1
  have := (hf.2.2 i hi v hv).2 q x hq hx
  simp -implicitDefEqProofs only [ok2, he, decide_true, Bool.not_true, Bool.false_or, Bool.and_eq_true, decide_eq_true_eq] at this
  by_cases hk : memB v.keys u.key = true
  · have := gr_ge (key := u.key) (take_mem hq hx) (by rw [this.2]; exact hk)
    simp -implicitDefEqProofs only [hk, if_true]; congr 1; omega
  · simp -implicitDefEqProofs only [hk, if_false, Bool.false_eq_true]⟩
theorem getU {l : List Nat} {i : Nat} (h : i < l.length) : ∃ x, l[i]? = some x := ⟨l[i], List.getElem?_eq_getElem h⟩

theorem memB_snoc (l : List ByteArray) (a k : ByteArray) : memB (l ++ [a]) k = (memB l k || decide (a = k)) := by simp [memB]
theorem takeS {l : List ByteArray} {i : Nat} {v : ByteArray} (h : l[i]? = some v) : l.take (i + 1) = l.take i ++ [v] := by
  rw [List.take_add_one, h]; rfl
theorem in_skip {l : List Ver} {i j : Nat} {v : Ver} {kk : ByteArray} {outs : List Nat} (hk : v.keys[j]? = some kk) (hn : ∀ (p : Nat) u, l[p]? = some u → u.key ≠ kk) (h : InOk l i v j outs) : InOk l i v (j + 1) outs := ⟨h.1, fun p u hu => by
  have : decide (kk = u.key) = false := by simpa using fun e => hn p u hu e.symm
  rw [h.2 p u hu, takeS hk, memB_snoc, this, Bool.or_false]⟩
theorem in_step {l : List Ver} {i j p x : Nat} {v u : Ver} {outs : List Nat} (hk : v.keys[j]? = some u.key) (hu : l[p]? = some u) (hn : ∀ (q : Nat) w, l[q]? = some w → w.key = u.key → q = p) (hx : outs[p]? = some x) (h : InOk l i v j outs) : InOk l i v (j + 1) (outs.set p (max x v.id)) := ⟨by simp [h.1], fun q w hw => by
  rw [takeS hk, memB_snoc]
  by_cases e : q = p
  · subst e
    rw [hu] at hw; cases hw
    have := h.2 q u hu
    rw [hx] at this
    have hq := (List.getElem?_eq_some_iff.1 hx).1
    rw [List.getElem?_set_self hq]
    simp -implicitDefEqProofs only [decide_true, Bool.or_true, if_true, Option.some.injEq] at this ⊢
    rw [this]; split <;> omega
  · have : decide (u.key = w.key) = false := by simpa using fun e' => e (hn q w hw e'.symm)
    rw [List.getElem?_set_ne (Ne.symm e), h.2 q w hw, this, Bool.or_false]⟩
theorem key_one {l : List Ver} (hf : Formed l) {p q : Nat} {u w : Ver} (hu : l[p]? = some u) (hw : l[q]? = some w) (e : w.key = u.key) : q = p := by
  have h1 := (List.getElem?_eq_some_iff.1 hu).1
  have h2 := (List.getElem?_eq_some_iff.1 hw).1
  rcases Nat.lt_trichotomy q p with h | h | h
  · have := (hf.2.2 p h1 u hu).2 q w h hw; simp [ok2, e] at this
  · exact h
  · have := (hf.2.2 q h2 w hw).2 p u h hu; simp [ok2, e] at this
theorem place_get {β : Type} [DecidableEq β] {f : Ver → β} {l : List Ver} {i : Nat} {es : List (β × T)} (h : Places f l i es) {k : β} {t : T} (ht : mlook es k = some t) : ∃ p v, p < i ∧ l[p]? = some v ∧ f v = k ∧ t = .int .i64 (p : Int) := by
  have := h k; rw [ht] at this; exact this
theorem place_no {β : Type} [DecidableEq β] {f : Ver → β} {l : List Ver} {es : List (β × T)} (h : Places f l l.length es) {k : β} (ht : mlook es k = Option.none) : ∀ (p : Nat) v, l[p]? = some v → f v ≠ k := by
  intro p v hv e
  have := h k; rw [ht] at this; simp at this
  exact this v (List.mem_of_getElem? hv) e

theorem greatest25 (k : SK) (l : List Ver) (H : Heap) (hs : Small l) (hf : Formed l) : W env (.call 25 [.sl k (encVs l)]) H (fun o H' => Ext H H' ∧ ∃ b, o = .val (.msl b 0 l.length 1) ∧ H'[b]? = some (.cells (msC eU (grs l))) ∧ H.length ≤ b) := by
  refine W.fnI rfl rfl rfl ?_
  have hln := hf.2.1
  simp -implicitDefEqProofs only [ir25, op, ef, cl, sq, reduceIte, Int.reduceLT, Int.reduceLE, Int.reduceBEq, Int.reduceBNe, Int.reduceEq, Nat.reduceAdd, Nat.reduceLeDiff, Nat.reduceLT, Nat.reduceEqDiff, S1, encVs_len]
  refine W.loopI (fun (i : Nat) R H' => At H' (fun H' => ∃ es, Ext H H' ∧ H'[H.length]? = some (.map (encK T.str es)) ∧ Places Ver.key l i es) ∧ R 0 = .sl k (encVs l) ∧ R 3 = .map H.length ∧ R 15 = .sl k (encVs l) ∧ R 16 = .int .i64 l.length ∧ R 17 = .int .i64 i ∧ i ≤ l.length) (fun i => l.length - i) 0 ?_ ?_
  · exact ⟨.i ⟨[], Ext.rfl'.app _, by simp [encK], places_nil _ _⟩, rfl, rfl, rfl, by simp -implicitDefEqProofs only [op, ef, cl, sq, reduceIte, Int.reduceLT, Int.reduceLE, Int.reduceBEq, Int.reduceBNe, Int.reduceEq, Nat.reduceAdd, Nat.reduceLeDiff, Nat.reduceLT, Nat.reduceEqDiff, S1, encVs_len], rfl, Nat.zero_le _⟩
  rintro i R H1 ⟨⟨es, hx, hb3, hat⟩, h0, h3, h15, h16, h17, hi⟩
  have l3 := glt hb3
  by_cases hlt : i < l.length
  · obtain ⟨v, hv⟩ := getV hlt
    have wsi := wrap_succ (show i < 9223372036854775807 by omega)
    simp -implicitDefEqProofs only [op, ef, cl, sq, reduceIte, Int.reduceLT, Int.reduceLE, Int.reduceBEq, Int.reduceBNe, Int.reduceEq, Nat.reduceAdd, Nat.reduceLeDiff, Nat.reduceLT, Nat.reduceEqDiff, S1, S2, h0, h3, h15, h16, h17, encVs_len, hlt, iadV hv, encV, l3, hb3, wsi]
    exact ⟨i + 1, by omega, .i ⟨_, (hx.set (Nat.le_refl _) _).app _, by simp -implicitDefEqProofs only [S2, l3], places_put hat hv⟩, rfl, by omega⟩
  have hil : i = l.length := by omega
  subst hil
  have w8 : l.length * 8 ≤ 281474976710656 := by omega
  have w9 : l.length ≤ 9223372036854775807 := by omega
  simp -implicitDefEqProofs only [op, ef, cl, sq, reduceIte, Int.reduceLT, Int.reduceLE, Int.reduceBEq, Int.reduceBNe, Int.reduceEq, Nat.reduceAdd, Nat.reduceLeDiff, Nat.reduceLT, Nat.reduceEqDiff, S1, S2, h0, h3, h15, h16, h17, encVs_len, hlt, hb3, natOf_nat, Nat.le_refl, w8, w9]
  refine W.loopI (fun (i : Nat) R H' => At H' (fun H' => ∃ ss outs, Ext H H' ∧ H'[H.length]? = some (.map (encK T.str es)) ∧ H'[H1.length]? = some (.cells (msC eU outs)) ∧ H'[H1.length + 1]? = some (.map (encK kU ss)) ∧ SeenOk l i ss ∧ OutOk l i outs) ∧ R 3 = .map H.length ∧ R 6 = .msl H1.length 0 l.length 1 ∧ R 7 = .map (H1.length + 1) ∧ R 31 = .sl k (encVs l) ∧ R 32 = .int .i64 l.length ∧ R 33 = .int .i64 i ∧ i ≤ l.length) (fun i => l.length - i) 0 ?_ ?_
  · refine ⟨.i ⟨[], List.replicate l.length 0, (hx.app _).app _, ?_, ?_, ?_, ?_, out0 l⟩, ?_, ?_, ?_, ?_, ?_, ?_, Nat.zero_le _⟩
    · simp -implicitDefEqProofs only [S2, l3, hb3]
    · rw [List.append_assoc, List.cons_append, g_tail rfl, ← msC_rep]; rfl
    · rw [g_tail (by simp)]; rfl
    · intro id; simp [cnt, mlook_nil]
    all_goals (simp -implicitDefEqProofs only [op, ef, cl, sq, reduceIte, Int.reduceLT, Int.reduceLE, Int.reduceBEq, Int.reduceBNe, Int.reduceEq, Nat.reduceAdd, Nat.reduceLeDiff, Nat.reduceLT, Nat.reduceEqDiff, S1, h0, h3, encVs_len])
    · simp
    · rfl
  rintro i R H2 ⟨⟨ss, outs, hx2, hc3, hc6, hc7, hseen, hout⟩, g3, g6, g7, g31, g32, g33, hi2⟩
  have m3 := glt hc3
  have m6 := glt hc6
  have m7 := glt hc7
  have n36 : H.length ≠ H1.length := by omega
  have n37 : H.length ≠ H1.length + 1 := by omega
  have n67 : H1.length ≠ H1.length + 1 := by omega
  have n73 : H1.length + 1 ≠ H.length := by omega
  have n76 : H1.length + 1 ≠ H1.length := by omega
  have n27 : H2.length ≠ H1.length + 1 := by omega
  by_cases hlt : i < l.length
  · obtain ⟨v, hv⟩ := getV hlt
    have hvs := hs.2 v (List.mem_of_getElem? hv)
    have wsi := wrap_succ (show i < 9223372036854775807 by omega)
    have hcl := cnt_le l i v.id
    have hseen' : SeenOk l (i + 1) (mput ss v.id (.int .i64 ((cnt l i v.id + 1 : Nat) : Int))) := fun id => by
      rw [mlook_put, cnt_succ hv]
      by_cases e : id = v.id
      · subst e; simp
      · have e' : ¬ v.id = id := fun h => e h.symm
        simp -implicitDefEqProofs only [e, e', if_false, Nat.add_zero]; exact hseen id
    by_cases hd : cnt l i v.id = 0
    · have w1 : IntKind.i64.wrap ((0 : Int) + 1) = ((0 + 1 : Nat) : Int) := by decide
      rw [hd] at hseen'
      have hkk : ∀ x, x ∈ v.keys → True := fun _ _ => trivial
      simp -implicitDefEqProofs only [op, ef, cl, sq, reduceIte, Int.reduceLT, Int.reduceLE, Int.reduceBEq, Int.reduceBNe, Int.reduceEq, Nat.reduceAdd, Nat.reduceLeDiff, Nat.reduceLT, Nat.reduceEqDiff, S1, S2, g3, g6, g7, g31, g32, g33, encVs_len, hlt, iadV hv, encV, m3, m6, m7, hc3, hc6, hc7, (hseen v.id).1 hd, w1, mlook_put, n27, n76, n67, encS_len]
      refine W.loopI (fun (j : Nat) R H' => At H' (fun H' => ∃ outs, Ext H H' ∧ H'[H.length]? = some (.map (encK T.str es)) ∧ H'[H1.length]? = some (.cells (msC eU outs)) ∧ H'[H1.length + 1]? = some (.map (encK kU (mput ss v.id (.int .i64 ((0 + 1 : Nat) : Int))))) ∧ H'[H2.length]? = some (.cells (encV v)) ∧ InOk l i v j outs) ∧ R 3 = .map H.length ∧ R 6 = .msl H1.length 0 l.length 1 ∧ R 7 = .map (H1.length + 1) ∧ R 9 = .ptr H2.length 0 ∧ R 31 = .sl k (encVs l) ∧ R 32 = .int .i64 l.length ∧ R 33 = .int .i64 i ∧ R 48 = .sl v.kk (encS v.keys) ∧ R 49 = .int .i64 v.keys.length ∧ R 50 = .int .i64 j ∧ j ≤ v.keys.length) (fun j => v.keys.length - j) 0 ?_ ?_
      · refine ⟨.i ⟨outs, (hx2.set (by omega) _).app _, ?_, ?_, ?_, ?_, in0 hout v⟩, ?_, ?_, ?_, ?_, ?_, ?_, ?_, ?_, ?_, ?_, Nat.zero_le _⟩
        · simp -implicitDefEqProofs only [S2, m3, n73, hc3, ne_eq, not_false_eq_true]
        · simp -implicitDefEqProofs only [S2, m6, n76, hc6, ne_eq, not_false_eq_true]
        · simp -implicitDefEqProofs only [S2, m7]
        · rw [g_tail (by simp)]; rfl
        all_goals (simp -implicitDefEqProofs only [op, ef, cl, sq, reduceIte, Int.reduceLT, Int.reduceLE, Int.reduceBEq, Int.reduceBNe, Int.reduceEq, Nat.reduceAdd, Nat.reduceLeDiff, Nat.reduceLT, Nat.reduceEqDiff, S1, g3, g6, g7, g31, g32, g33, encS_len])
        rfl
      rintro j R H3 ⟨⟨outs, hx3, d3, d6, d7, d9, hin⟩, e3, e6, e7, e9, e31, e32, e33, e48, e49, e50, hj⟩
      by_cases hjlt : j < v.keys.length
      · obtain ⟨kk, hk⟩ := getS hjlt
        have wsj := wrap_succ (show j < 9223372036854775807 by omega)
        have q6 := glt d6
        have b36 : ¬ H.length ≥ H1.length + 1 := by omega
        cases ha : mlook es kk with
        | none =>
          simp -implicitDefEqProofs only [op, ef, cl, sq, reduceIte, Int.reduceLT, Int.reduceLE, Int.reduceBEq, Int.reduceBNe, Int.reduceEq, Nat.reduceAdd, Nat.reduceLeDiff, Nat.reduceLT, Nat.reduceEqDiff, S1, S2, e3, e6, e7, e9, e31, e32, e33, e48, e49, e50, hjlt, iadS hk, d3, ha, wsj]
          exact ⟨j + 1, by omega, .i ⟨outs, hx3, d3, d6, d7, d9, in_skip hk (place_no hat ha) hin⟩, rfl, by omega⟩
        | some t =>
          obtain ⟨p, u, hp, hu, rfl, rfl⟩ := place_get hat ha
          obtain ⟨x, hxp⟩ := getU (l := outs) (i := p) (by rw [hin.1]; exact hp)
          have dd : H.length ≠ H1.length := n36
          have n29 : H1.length ≠ H2.length := by omega
          simp -implicitDefEqProofs only [op, ef, cl, sq, reduceIte, Int.reduceLT, Int.reduceLE, Int.reduceBEq, Int.reduceBNe, Int.reduceEq, Nat.reduceAdd, Nat.reduceLeDiff, Nat.reduceLT, Nat.reduceEqDiff, S1, S2, e3, e6, e7, e9, e31, e32, e33, e48, e49, e50, hjlt, iadS hk, d3, d6, d9, encV, ha, wsj, natOf_nat, iad_m, hp, msU_get hxp, msU_set hxp, mxN]
          exact ⟨j + 1, by omega, .i ⟨_, hx3.set (by omega) _, by rw [g_ne (by omega)]; exact d3, g_eq q6, by rw [g_ne (by omega)]; exact d7, by rw [g_ne (by omega)]; exact d9, in_step hk hu (fun q w hw e => key_one hf hu hw e) hxp hin⟩, rfl, by omega⟩
      · simp -implicitDefEqProofs only [op, ef, cl, sq, reduceIte, Int.reduceLT, Int.reduceLE, Int.reduceBEq, Int.reduceBNe, Int.reduceEq, Nat.reduceAdd, Nat.reduceLeDiff, Nat.reduceLT, Nat.reduceEqDiff, S1, S2, e3, e6, e7, e9, e31, e32, e33, e48, e49, e50, hjlt, wsi]
        exact ⟨i + 1, by omega, .i ⟨_, outs, hx3, d3, d6, d7, hseen', in_end hv (by omega) hin⟩, rfl, by omega⟩
    · have w1 : IntKind.i64.wrap ((cnt l i v.id : Int) + 1) = ((cnt l i v.id + 1 : Nat) : Int) := wrap_succ (by omega)
      have gt1 : 1 < cnt l i v.id + 1 := by omega
      simp -implicitDefEqProofs only [op, ef, cl, sq, reduceIte, Int.reduceLT, Int.reduceLE, Int.reduceBEq, Int.reduceBNe, Int.reduceEq, Nat.reduceAdd, Nat.reduceLeDiff, Nat.reduceLT, Nat.reduceEqDiff, S1, S2, g3, g6, g7, g31, g32, g33, encVs_len, hlt, iadV hv, encV, m3, m6, m7, hc3, hc6, hc7, (hseen v.id).2 hd, w1, mlook_put, n27, n76, n67, encS_len, gt1, wsi]
      exact ⟨i + 1, by omega, .i ⟨_, outs, (hx2.set (by omega) _).app _, by simp -implicitDefEqProofs only [S2, m3, n73, hc3, ne_eq, not_false_eq_true], by simp -implicitDefEqProofs only [S2, m6, n76, hc6, ne_eq, not_false_eq_true], by simp -implicitDefEqProofs only [S2, m7], hseen', out_dup hv hf hd hout⟩, rfl, by omega⟩
  · have hil : i = l.length := by omega
    subst hil
    have he : outs = grs l := List.ext_getElem? fun p => by
      by_cases hp : p < l.length
      · obtain ⟨u, hu⟩ := getV hp
        rw [hout.2 p u hu, List.take_length]; simp [grs, hu]
      · rw [List.getElem?_eq_none (by rw [hout.1]; omega), List.getElem?_eq_none (by simp [grs]; omega)]
    subst he
    simp -implicitDefEqProofs only [op, ef, cl, sq, reduceIte, Int.reduceLT, Int.reduceLE, Int.reduceBEq, Int.reduceBNe, Int.reduceEq, Nat.reduceAdd, Nat.reduceLeDiff, Nat.reduceLT, Nat.reduceEqDiff, S1, S2, g3, g6, g7, g31, g32, g33, hlt]
    exact ⟨hx2, H1.length, rfl, hc6, hx.len⟩
end Go.Proofs.Ytobnjpgggocdlaa.Fx
end

/-! text FixH -/
section
namespace Go.Proofs.Ytobnjpgggocdlaa.Fx
open Go.Rmp Go.Proofs.Ytobnjpgggocdlaa.Ir
set_option maxRecDepth 10000
def encW (w : ByteArray × Nat) : List T := [.str w.1, .int .u64 w.2]
def encWs (l : List (ByteArray × Nat)) : List (List T) := l.map encW
theorem encWs_len (l : List (ByteArray × Nat)) : (encWs l).length = l.length := by simp [encWs]
theorem allW (l : List (ByteArray × Nat)) : (encWs l).all (fun c => c.length == 2) = true := all_map (n := 2) (fun _ => rfl) l
def wants' (l m : List Ver) : List (ByteArray × Nat) := (m.filter fun u => decide (u.id < gr l u.key)).map fun u => (u.key, gr l u.key)
def wants (l : List Ver) : List (ByteArray × Nat) := wants' l l
theorem wants_snoc (l m : List Ver) (u : Ver) : wants' l (m ++ [u]) = if u.id < gr l u.key then wants' l m ++ [(u.key, gr l u.key)] else wants' l m := by
  unfold wants'; rw [List.filter_append, List.map_append]
  by_cases h : u.id < gr l u.key <;> simp [List.filter_cons, h]
theorem wants_le (l m : List Ver) : (wants' l m).length ≤ m.length := by simp [wants']; exact List.length_filter_le _ _
theorem wapp (ws : List (ByteArray × Nat)) (k : ByteArray) (n : Nat) : encWs ws ++ [[T.str k, T.int .u64 n]] = encWs (ws ++ [(k, n)]) := by simp [encWs, encW]
open Classical in
noncomputable def needs (l : List Ver) : List (ByteArray × Nat) := if Formed l then wants l else []
open Classical in
noncomputable def needsE (l : List Ver) : Nat := if Formed l then 0 else 1
def NeedsQ (l : List Ver) (H : Heap) : Out → Heap → Prop := fun o H' => Ext H H' ∧ ∃ k, o = .val (.tup [.sl k (encWs (needs l)), .int .i64 (needsE l)])
theorem getG {l : List Nat} {i : Nat} {l' : List Ver} {u : Ver} (h : l = grs l') (hu : l'[i]? = some u) : l[i]? = some (gr l' u.key) := by subst h; simp [grs, hu]

theorem needs9 (k : SK) (l : List Ver) (H : Heap) (hs : Small l) : W env (.call 9 [.sl k (encVs l)]) H (NeedsQ l H) := by
  refine W.fnI rfl rfl rfl ?_
  simp -implicitDefEqProofs only [ir9, op, ef, cl, sq, reduceIte, Int.reduceLT, Int.reduceLE, Int.reduceBEq, Int.reduceBNe, Int.reduceEq, Nat.reduceAdd, Nat.reduceLeDiff, Nat.reduceLT, Nat.reduceEqDiff, S1]
  refine callB_of _ _ _ _ _ _ _ _ (formed12 k l _ hs) ?_
  rintro u H1 ⟨hu, hx1⟩
  cases hu
  have hx1 : Ext H H1 := hx1
  by_cases hf : ¬ Formed l
  · simp -implicitDefEqProofs only [op, ef, cl, sq, reduceIte, Int.reduceLT, Int.reduceLE, Int.reduceBEq, Int.reduceBNe, Int.reduceEq, Nat.reduceAdd, Nat.reduceLeDiff, Nat.reduceLT, Nat.reduceEqDiff, S1, formed_f hf]
    exact ⟨hx1, .nil, by simp [needs, needsE, hf, encWs]⟩
  have hf := Classical.not_not.1 hf
  have hln := hf.2.1
  simp -implicitDefEqProofs only [op, ef, cl, sq, reduceIte, Int.reduceLT, Int.reduceLE, Int.reduceBEq, Int.reduceBNe, Int.reduceEq, Nat.reduceAdd, Nat.reduceLeDiff, Nat.reduceLT, Nat.reduceEqDiff, S1, formed_t hf]
  refine callB_of _ _ _ _ _ _ _ _ (greatest25 k l _ hs hf) ?_
  rintro u H2 ⟨hx2, b, hu, hb, hbH⟩
  cases hu
  simp -implicitDefEqProofs only [op, ef, cl, sq, reduceIte, Int.reduceLT, Int.reduceLE, Int.reduceBEq, Int.reduceBNe, Int.reduceEq, Nat.reduceAdd, Nat.reduceLeDiff, Nat.reduceLT, Nat.reduceEqDiff, S1]
  refine W.loopI (fun (i : Nat) R H' => At H' (fun H' => ∃ kw, R 4 = .sl kw (encWs (wants' l (l.take i))) ∧ Ext H H' ∧ H'[b]? = some (.cells (msC eU (grs l))) ∧ Apd H.length H' kw) ∧ R 0 = .sl k (encVs l) ∧ R 11 = .msl b 0 l.length 1 ∧ R 12 = .int .i64 l.length ∧ R 13 = .int .i64 i ∧ i ≤ l.length) (fun i => l.length - i) 0 ⟨.i ⟨.nil, rfl, hx1.trans hx2, hb, apd_nil _ _⟩, rfl, rfl, rfl, rfl, Nat.zero_le _⟩ ?_
  rintro i R H3 ⟨⟨kw, h4, hx3, hb3, hap⟩, h0, h11, h12, h13, hi⟩
  by_cases hlt : i < l.length
  · obtain ⟨v, hv⟩ := getV hlt
    have wsi := wrap_succ (show i < 9223372036854775807 by omega)
    have hg := getG rfl hv
    have hsn := wants_snoc l (l.take i) v
    by_cases hlg : v.id < gr l v.key
    · have hwl : (wants' l (l.take i)).length ≤ 1024 := Nat.le_trans (wants_le l (l.take i)) (by simp; omega)
      obtain ⟨k', H', ha, hap', hst⟩ := app_ok (bytes := 24) (encWs (wants' l (l.take i))) [[T.str v.key, T.int .u64 (gr l v.key)]] hap hx3.len (by simp) (roomT (by simp -implicitDefEqProofs only [encWs_len, List.length_cons, List.length_nil]; omega))
      simp -implicitDefEqProofs only [op, ef, cl, sq, reduceIte, Int.reduceLT, Int.reduceLE, Int.reduceBEq, Int.reduceBNe, Int.reduceEq, Nat.reduceAdd, Nat.reduceLeDiff, Nat.reduceLT, Nat.reduceEqDiff, S1, wapp] at ha
      simp -implicitDefEqProofs only [op, ef, cl, sq, reduceIte, Int.reduceLT, Int.reduceLE, Int.reduceBEq, Int.reduceBNe, Int.reduceEq, Nat.reduceAdd, Nat.reduceLeDiff, Nat.reduceLT, Nat.reduceEqDiff, S1, S2, h0, h4, h11, h12, h13, hlt, natOf_nat, iad_m, hb3, msU_get hg, iadV hv, encV, hlg, allW, ha, wsi]
      refine ⟨i + 1, by omega, .i ⟨k', ?_, hst.ext H (Nat.le_refl _) hx3, hst.cells hap hb3 (by simp), hap'⟩, by omega⟩
      simp -implicitDefEqProofs only [op, ef, cl, sq, reduceIte, Int.reduceLT, Int.reduceLE, Int.reduceBEq, Int.reduceBNe, Int.reduceEq, Nat.reduceAdd, Nat.reduceLeDiff, Nat.reduceLT, Nat.reduceEqDiff, S1, take_snoc hv, hsn, hlg]
    · simp -implicitDefEqProofs only [op, ef, cl, sq, reduceIte, Int.reduceLT, Int.reduceLE, Int.reduceBEq, Int.reduceBNe, Int.reduceEq, Nat.reduceAdd, Nat.reduceLeDiff, Nat.reduceLT, Nat.reduceEqDiff, S1, S2, h0, h11, h12, h13, hlt, natOf_nat, iad_m, hb3, msU_get hg, iadV hv, encV, hlg, wsi]
      refine ⟨i + 1, by omega, .i ⟨kw, ?_, hx3, hb3, hap⟩, by omega⟩
      simp -implicitDefEqProofs only [op, ef, cl, sq, reduceIte, Int.reduceLT, Int.reduceLE, Int.reduceBEq, Int.reduceBNe, Int.reduceEq, Nat.reduceAdd, Nat.reduceLeDiff, Nat.reduceLT, Nat.reduceEqDiff, S1, take_snoc hv, hsn, hlg, h4]
  · have hil : i = l.length := by omega
    subst hil
    simp -implicitDefEqProofs only [op, ef, cl, sq, reduceIte, Int.reduceLT, Int.reduceLE, Int.reduceBEq, Int.reduceBNe, Int.reduceEq, Nat.reduceAdd, Nat.reduceLeDiff, Nat.reduceLT, Nat.reduceEqDiff, S1, h0, h4, h11, h12, h13, hlt]
    exact ⟨hx3, kw, by simp [needs, needsE, hf, wants]⟩
end Go.Proofs.Ytobnjpgggocdlaa.Fx
end

/-! text FixI -/
section
namespace Go.Proofs.Ytobnjpgggocdlaa.Fx
open Go.Rmp Go.Proofs.Ytobnjpgggocdlaa.Ir
set_option maxRecDepth 10000
theorem max_lt {a b : Nat} : (a < max a b) = (a < b) := by simp; omega
theorem needs10 (k : SK) (l : List Ver) (H : Heap) (hs : Small l) : W env (.call 10 [.sl k (encVs l)]) H (NeedsQ l H) := by
  refine W.fnI rfl rfl rfl ?_
  simp -implicitDefEqProofs only [ir10, op, ef, cl, sq, reduceIte, Int.reduceLT, Int.reduceLE, Int.reduceBEq, Int.reduceBNe, Int.reduceEq, Nat.reduceAdd, Nat.reduceLeDiff, Nat.reduceLT, Nat.reduceEqDiff, S1]
  refine callB_of _ _ _ _ _ _ _ _ (formed13 k l _ hs) ?_
  rintro u H1 ⟨hu, hx1⟩
  cases hu
  have hx1 : Ext H H1 := hx1
  by_cases hf : ¬ Formed l
  · simp -implicitDefEqProofs only [op, ef, cl, sq, reduceIte, Int.reduceLT, Int.reduceLE, Int.reduceBEq, Int.reduceBNe, Int.reduceEq, Nat.reduceAdd, Nat.reduceLeDiff, Nat.reduceLT, Nat.reduceEqDiff, S1, formed_f hf]
    exact ⟨hx1, .nil, by simp [needs, needsE, hf, encWs]⟩
  have hf := Classical.not_not.1 hf
  have hln := hf.2.1
  simp -implicitDefEqProofs only [op, ef, cl, sq, reduceIte, Int.reduceLT, Int.reduceLE, Int.reduceBEq, Int.reduceBNe, Int.reduceEq, Nat.reduceAdd, Nat.reduceLeDiff, Nat.reduceLT, Nat.reduceEqDiff, S1, formed_t hf]
  refine W.loopI (fun (i : Nat) R H' => At H' (fun H' => ∃ kw, R 4 = .sl kw (encWs (wants' l (l.take i))) ∧ Ext H H' ∧ Apd H.length H' kw) ∧ R 0 = .sl k (encVs l) ∧ R 5 = .int .i64 i ∧ i ≤ l.length) (fun i => l.length - i) 0 ⟨.i ⟨.nil, rfl, hx1, apd_nil _ _⟩, rfl, rfl, Nat.zero_le _⟩ ?_
  rintro i R H3 ⟨⟨kw, h4, hx3, hap⟩, h0, h5, hi⟩
  by_cases hlt : i < l.length
  · obtain ⟨v, hv⟩ := getV hlt
    have wsi := wrap_succ (show i < 9223372036854775807 by omega)
    have hsn := wants_snoc l (l.take i) v
    simp -implicitDefEqProofs only [op, ef, cl, sq, reduceIte, Int.reduceLT, Int.reduceLE, Int.reduceBEq, Int.reduceBNe, Int.reduceEq, Nat.reduceAdd, Nat.reduceLeDiff, Nat.reduceLT, Nat.reduceEqDiff, S1, h0, h4, h5, encVs_len, hlt, iadV hv, encV]
    refine W.loopI (fun (j : Nat) R H' => H' = H3 ∧ R 0 = .sl k (encVs l) ∧ R 4 = .sl kw (encWs (wants' l (l.take i))) ∧ R 5 = .int .i64 i ∧ R 6 = .int .u64 (max v.id (gr (l.take j) v.key) : Nat) ∧ R 7 = .int .i64 j ∧ j ≤ l.length) (fun j => l.length - j) 0 ?_ ?_
    · refine ⟨rfl, ?_⟩
      simp -implicitDefEqProofs only [op, ef, cl, sq, reduceIte, Int.reduceLT, Int.reduceLE, Int.reduceBEq, Int.reduceBNe, Int.reduceEq, Nat.reduceAdd, Nat.reduceLeDiff, Nat.reduceLT, Nat.reduceEqDiff, S1, h0, h4, h5]
      simp [gr]
    rintro j R _ ⟨rfl, g0, g4, g5, g6, g7, hj⟩
    by_cases hjl : j < l.length
    · obtain ⟨x, hx⟩ := getV hjl
      have wsj := wrap_succ (show j < 9223372036854775807 by omega)
      by_cases hm : max v.id (gr (l.take j) v.key) < x.id
      · simp -implicitDefEqProofs only [op, ef, cl, sq, reduceIte, Int.reduceLT, Int.reduceLE, Int.reduceBEq, Int.reduceBNe, Int.reduceEq, Nat.reduceAdd, Nat.reduceLeDiff, Nat.reduceLT, Nat.reduceEqDiff, S1, g0, g4, g5, g6, g7, encVs_len, hjl, iadV hx, iadV hv, encV, hm]
        refine callB_of _ _ _ _ _ _ _ _ (has26 x.kk x.keys v.key _ (by have := hs.2 x (List.mem_of_getElem? hx); omega)) ?_
        rintro u H4 ⟨hu, rfl⟩
        cases hu
        cases hb : memB x.keys v.key
        · simp -implicitDefEqProofs only [op, ef, cl, sq, reduceIte, Int.reduceLT, Int.reduceLE, Int.reduceBEq, Int.reduceBNe, Int.reduceEq, Nat.reduceAdd, Nat.reduceLeDiff, Nat.reduceLT, Nat.reduceEqDiff, S1, g0, g4, g5, g6, g7, wsj]
          refine ⟨j + 1, by omega, ?_, rfl, by omega⟩
          rw [take_snoc hx, gr_snoc, hb]; simp
        · simp -implicitDefEqProofs only [op, ef, cl, sq, reduceIte, Int.reduceLT, Int.reduceLE, Int.reduceBEq, Int.reduceBNe, Int.reduceEq, Nat.reduceAdd, Nat.reduceLeDiff, Nat.reduceLT, Nat.reduceEqDiff, S1, g0, g4, g5, g6, g7, wsj, iadV hx, encV]
          refine ⟨j + 1, by omega, ?_, rfl, by omega⟩
          rw [take_snoc hx, gr_snoc, hb]; simp; omega
      · simp -implicitDefEqProofs only [op, ef, cl, sq, reduceIte, Int.reduceLT, Int.reduceLE, Int.reduceBEq, Int.reduceBNe, Int.reduceEq, Nat.reduceAdd, Nat.reduceLeDiff, Nat.reduceLT, Nat.reduceEqDiff, S1, g0, g4, g5, g6, g7, encVs_len, hjl, iadV hx, iadV hv, encV, hm, wsj]
        refine ⟨j + 1, by omega, ?_, rfl, by omega⟩
        rw [take_snoc hx, gr_snoc]; split <;> (first | (congr 1; omega) | rfl)
    · have hjl' : j = l.length := by omega
      subst hjl'
      rw [List.take_length] at g6
      by_cases hlg : v.id < gr l v.key
      · have hwl : (wants' l (l.take i)).length ≤ 1024 := Nat.le_trans (wants_le l (l.take i)) (by simp; omega)
        obtain ⟨k', H', ha, hap', hst⟩ := app_ok (bytes := 24) (encWs (wants' l (l.take i))) [[T.str v.key, T.int .u64 (gr l v.key)]] hap hx3.len (by simp) (roomT (by simp -implicitDefEqProofs only [encWs_len, List.length_cons, List.length_nil]; omega))
        simp -implicitDefEqProofs only [op, ef, cl, sq, reduceIte, Int.reduceLT, Int.reduceLE, Int.reduceBEq, Int.reduceBNe, Int.reduceEq, Nat.reduceAdd, Nat.reduceLeDiff, Nat.reduceLT, Nat.reduceEqDiff, S1, wapp] at ha
        rw [Nat.max_eq_right (Nat.le_of_lt hlg)] at g6
        simp -implicitDefEqProofs only [op, ef, cl, sq, reduceIte, Int.reduceLT, Int.reduceLE, Int.reduceBEq, Int.reduceBNe, Int.reduceEq, Nat.reduceAdd, Nat.reduceLeDiff, Nat.reduceLT, Nat.reduceEqDiff, S1, S2, g0, g4, g5, g6, g7, encVs_len, hjl, iadV hv, encV, hlg, allW, ha, wsi]
        refine ⟨i + 1, by omega, .i ⟨k', ?_, hst.ext H (Nat.le_refl _) hx3, hap'⟩, by omega⟩
        simp -implicitDefEqProofs only [op, ef, cl, sq, reduceIte, Int.reduceLT, Int.reduceLE, Int.reduceBEq, Int.reduceBNe, Int.reduceEq, Nat.reduceAdd, Nat.reduceLeDiff, Nat.reduceLT, Nat.reduceEqDiff, S1, take_snoc hv, hsn, hlg]
      · rw [Nat.max_eq_left (by omega)] at g6
        have hno : ¬ v.id < v.id := by omega
        simp -implicitDefEqProofs only [op, ef, cl, sq, reduceIte, Int.reduceLT, Int.reduceLE, Int.reduceBEq, Int.reduceBNe, Int.reduceEq, Nat.reduceAdd, Nat.reduceLeDiff, Nat.reduceLT, Nat.reduceEqDiff, S1, S2, g0, g4, g5, g6, g7, encVs_len, hjl, iadV hv, encV, hno, wsi]
        refine ⟨i + 1, by omega, .i ⟨kw, ?_, hx3, hap⟩, by omega⟩
        simp -implicitDefEqProofs only [op, ef, cl, sq, reduceIte, Int.reduceLT, Int.reduceLE, Int.reduceBEq, Int.reduceBNe, Int.reduceEq, Nat.reduceAdd, Nat.reduceLeDiff, Nat.reduceLT, Nat.reduceEqDiff, S1, take_snoc hv, hsn, hlg, g4]
  · have hil : i = l.length := by omega
    subst hil
    simp -implicitDefEqProofs only [op, ef, cl, sq, reduceIte, Int.reduceLT, Int.reduceLE, Int.reduceBEq, Int.reduceBNe, Int.reduceEq, Nat.reduceAdd, Nat.reduceLeDiff, Nat.reduceLT, Nat.reduceEqDiff, S1, h0, h4, h5, encVs_len, hlt]
    exact ⟨hx3, kw, by simp [needs, needsE, hf, wants]⟩

/-! cuts -/
noncomputable def cutB (l : List Ver) : Bool := formed l && decide (wants l = [])
theorem cut14 (k : SK) (l : List Ver) (H : Heap) (hs : Small l) : W env (.call 14 [.sl k (encVs l)]) H (RetG (.bool (cutB l)) H) := by
  refine W.fnI rfl rfl rfl ?_
  simp -implicitDefEqProofs only [ir14, op, ef, cl, sq, reduceIte, Int.reduceLT, Int.reduceLE, Int.reduceBEq, Int.reduceBNe, Int.reduceEq, Nat.reduceAdd, Nat.reduceLeDiff, Nat.reduceLT, Nat.reduceEqDiff, S1]
  refine callB_of _ _ _ _ _ _ _ _ (needs9 k l _ hs) ?_
  rintro u H1 ⟨hx1, kw, hu⟩
  cases hu
  by_cases hf : Formed l
  · by_cases hw : (wants l) = []
    · simp -implicitDefEqProofs only [op, ef, cl, sq, reduceIte, Int.reduceLT, Int.reduceLE, Int.reduceBEq, Int.reduceBNe, Int.reduceEq, Nat.reduceAdd, Nat.reduceLeDiff, Nat.reduceLT, Nat.reduceEqDiff, S1, encWs_len, needs, needsE, hf, cutB, formed_t hf, hw, retg_ext hx1]
      try simp
    · have hw' : ¬ (wants l).length = 0 := by simp [hw]
      simp -implicitDefEqProofs only [op, ef, cl, sq, reduceIte, Int.reduceLT, Int.reduceLE, Int.reduceBEq, Int.reduceBNe, Int.reduceEq, Nat.reduceAdd, Nat.reduceLeDiff, Nat.reduceLT, Nat.reduceEqDiff, S1, encWs_len, needs, needsE, hf, cutB, formed_t hf, hw, retg_ext hx1]
      try simp [hw]
  · have e1 : ((((1 : Nat) : Int)) == 0) = false := by decide
    simp -implicitDefEqProofs only [op, ef, cl, sq, reduceIte, Int.reduceLT, Int.reduceLE, Int.reduceBEq, Int.reduceBNe, Int.reduceEq, Nat.reduceAdd, Nat.reduceLeDiff, Nat.reduceLT, Nat.reduceEqDiff, S1, encWs_len, needs, needsE, hf, cutB, formed_f hf, retg_ext hx1, e1, Bool.false_and]
theorem wants_nil (l : List Ver) : wants l = [] ↔ ∀ u ∈ l, ∀ v ∈ l, memB v.keys u.key = true → v.id ≤ u.id := by
  unfold wants wants'
  simp -implicitDefEqProofs only [List.map_eq_nil_iff, List.filter_eq_nil_iff, decide_eq_true_eq]
  constructor
  · intro h u hu v hv hm; have := h u hu; have := gr_ge hv hm; omega
  · intro h u hu hc
    rcases gr_is l u.key with h0 | ⟨v, hv, hm, he⟩
    · omega
    · have := h u hu v hv hm; omega
theorem cut15 (k : SK) (l : List Ver) (H : Heap) (hs : Small l) : W env (.call 15 [.sl k (encVs l)]) H (RetG (.bool (cutB l)) H) := by
  refine W.fnI rfl rfl rfl ?_
  have bad : ∀ u ∈ l, ∀ v ∈ l, u.id < v.id → memB v.keys u.key = true → cutB l = false := fun u hu v hv h1 h2 => by
    have : ¬ wants l = [] := fun h => by have := (wants_nil l).1 h u hu v hv h2; omega
    simp [cutB, this]
  have hsl := hs.1
  simp -implicitDefEqProofs only [ir15, op, ef, cl, sq, reduceIte, Int.reduceLT, Int.reduceLE, Int.reduceBEq, Int.reduceBNe, Int.reduceEq, Nat.reduceAdd, Nat.reduceLeDiff, Nat.reduceLT, Nat.reduceEqDiff, S1]
  refine W.loopI (fun (i : Nat) R H' => H' = H ∧ R 0 = .sl k (encVs l) ∧ R 3 = .int .i64 i ∧ i ≤ l.length ∧ ∀ p v, p < i → l[p]? = some v → ∀ u ∈ l, memB v.keys u.key = true → v.id ≤ u.id) (fun i => l.length - i) 0 ⟨rfl, rfl, rfl, Nat.zero_le _, fun p v hp => by omega⟩ ?_
  rintro i R _ ⟨rfl, h0, h3, hi, hg⟩
  by_cases hlt : i < l.length
  · obtain ⟨v, hv⟩ := getV hlt
    have hvm := List.mem_of_getElem? hv
    have wsi := wrap_succ (show i < 9223372036854775807 by omega)
    simp -implicitDefEqProofs only [op, ef, cl, sq, reduceIte, Int.reduceLT, Int.reduceLE, Int.reduceBEq, Int.reduceBNe, Int.reduceEq, Nat.reduceAdd, Nat.reduceLeDiff, Nat.reduceLT, Nat.reduceEqDiff, S1, h0, h3, encVs_len, hlt]
    refine W.loopI (fun (j : Nat) R H' => H' = _ ∧ R 0 = .sl k (encVs l) ∧ R 3 = .int .i64 i ∧ R 4 = .int .i64 j ∧ j ≤ l.length ∧ ∀ q u, q < j → l[q]? = some u → memB v.keys u.key = true → v.id ≤ u.id) (fun j => l.length - j) 0 ⟨rfl, by simp -implicitDefEqProofs only [op, ef, cl, sq, reduceIte, Int.reduceLT, Int.reduceLE, Int.reduceBEq, Int.reduceBNe, Int.reduceEq, Nat.reduceAdd, Nat.reduceLeDiff, Nat.reduceLT, Nat.reduceEqDiff, S1, h0], by simp -implicitDefEqProofs only [op, ef, cl, sq, reduceIte, Int.reduceLT, Int.reduceLE, Int.reduceBEq, Int.reduceBNe, Int.reduceEq, Nat.reduceAdd, Nat.reduceLeDiff, Nat.reduceLT, Nat.reduceEqDiff, S1, h3], rfl, Nat.zero_le _, fun p v hp => by omega⟩ ?_
    rintro j R _ ⟨rfl, g0, g3, g4, hj, hgj⟩
    by_cases hjl : j < l.length
    · obtain ⟨x, hx⟩ := getV hjl
      have wsj := wrap_succ (show j < 9223372036854775807 by omega)
      have next : (memB v.keys x.key = true → v.id ≤ x.id) → ∀ q u, q < j + 1 → l[q]? = some u → memB v.keys u.key = true → v.id ≤ u.id := fun h q u hq hu => by
        by_cases e : q = j
        · subst e; rw [hx] at hu; cases hu; exact h
        · exact hgj q u (by omega) hu
      by_cases hid : x.id < v.id
      · simp -implicitDefEqProofs only [op, ef, cl, sq, reduceIte, Int.reduceLT, Int.reduceLE, Int.reduceBEq, Int.reduceBNe, Int.reduceEq, Nat.reduceAdd, Nat.reduceLeDiff, Nat.reduceLT, Nat.reduceEqDiff, S1, g0, g3, g4, encVs_len, hjl, iadV hx, iadV hv, encV, hid]
        refine callB_of _ _ _ _ _ _ _ _ (has26 v.kk v.keys x.key _ (by have := hs.2 v hvm; omega)) ?_
        rintro u H4 ⟨hu, rfl⟩
        cases hu
        cases hb : memB v.keys x.key
        · simp -implicitDefEqProofs only [op, ef, cl, sq, reduceIte, Int.reduceLT, Int.reduceLE, Int.reduceBEq, Int.reduceBNe, Int.reduceEq, Nat.reduceAdd, Nat.reduceLeDiff, Nat.reduceLT, Nat.reduceEqDiff, S1, g0, g3, g4, wsj]
          exact ⟨j + 1, by omega, rfl, by omega, next (by rw [hb]; simp)⟩
        · simp -implicitDefEqProofs only [op, ef, cl, sq, reduceIte, Int.reduceLT, Int.reduceLE, Int.reduceBEq, Int.reduceBNe, Int.reduceEq, Nat.reduceAdd, Nat.reduceLeDiff, Nat.reduceLT, Nat.reduceEqDiff, S1, bad x (List.mem_of_getElem? hx) v hvm hid hb]
      · simp -implicitDefEqProofs only [op, ef, cl, sq, reduceIte, Int.reduceLT, Int.reduceLE, Int.reduceBEq, Int.reduceBNe, Int.reduceEq, Nat.reduceAdd, Nat.reduceLeDiff, Nat.reduceLT, Nat.reduceEqDiff, S1, g0, g3, g4, encVs_len, hjl, iadV hx, iadV hv, encV, hid, wsj]
        exact ⟨j + 1, by omega, rfl, by omega, next (fun _ => by omega)⟩
    · simp -implicitDefEqProofs only [op, ef, cl, sq, reduceIte, Int.reduceLT, Int.reduceLE, Int.reduceBEq, Int.reduceBNe, Int.reduceEq, Nat.reduceAdd, Nat.reduceLeDiff, Nat.reduceLT, Nat.reduceEqDiff, S1, g0, g3, g4, encVs_len, hjl, wsi]
      refine ⟨i + 1, by omega, rfl, by omega, fun p w hp hw u hu => ?_⟩
      by_cases e : p = i
      · subst e; rw [hv] at hw; cases hw
        obtain ⟨q, hq, eq⟩ := List.getElem_of_mem hu
        exact hgj q u (by omega) (by rw [List.getElem?_eq_getElem hq, eq])
      · exact hg p w (by omega) hw u hu
  · simp -implicitDefEqProofs only [op, ef, cl, sq, reduceIte, Int.reduceLT, Int.reduceLE, Int.reduceBEq, Int.reduceBNe, Int.reduceEq, Nat.reduceAdd, Nat.reduceLeDiff, Nat.reduceLT, Nat.reduceEqDiff, S1, h0, h3, encVs_len, hlt]
    refine callB_of _ _ _ _ _ _ _ _ (formed13 k l _ hs) ?_
    rintro u H1 ⟨hu, hx1⟩
    cases hu
    have hx1 : Ext _ H1 := hx1
    have hw : wants l = [] := (wants_nil l).2 fun u hu v hv h => by
      obtain ⟨p, hp, e⟩ := List.getElem_of_mem hv
      exact hg p v (by omega) (by rw [List.getElem?_eq_getElem hp, e]) u hu h
    simp -implicitDefEqProofs only [op, ef, cl, sq, reduceIte, Int.reduceLT, Int.reduceLE, Int.reduceBEq, Int.reduceBNe, Int.reduceEq, Nat.reduceAdd, Nat.reduceLeDiff, Nat.reduceLT, Nat.reduceEqDiff, S1, retg_ext hx1, cutB, hw, Bool.and_true]
end Go.Proofs.Ytobnjpgggocdlaa.Fx
end

/-! text FixJ -/
section
namespace Go.Proofs.Ytobnjpgggocdlaa.Fx
open Go.Rmp Go.Proofs.Ytobnjpgggocdlaa.Ir
set_option maxRecDepth 10000
abbrev rdy (n : Nat) (R0 : Regs) (ps : List Nat) (asg body : C) : B := .loop .ready Option.none n R0 ps asg body
abbrev bsy (n : Nat) (R0 : Regs) (ps : List Nat) (asg body : C) : B := .loop .busy Option.none n R0 ps asg body
theorem back43 {n : Nat} {R0 : Regs} {ps : List Nat} {asg body : C} (k : SK) (got : List Ver) (c b : Nat) (H : Heap) (I : Nat → Heap → Prop) (hps : ps.length = 2) (hl : got.length < 4611686018427387903) (h0 : I got.length H) (hb : H[b]? = some (rdy n R0 ps asg body))
    (hkeep : ∀ i H', I i H' → H'[c]? = some (.cells [.sl k (encVs got)]))
    (hstep : ∀ i v H', got[i]? = some v → I (i + 1) H' → H'[b]? = some (rdy n R0 ps asg body) → wpC env asg (setps R0 ps [.int .i64 (i : Int), .agg (encV v)]) H' (fun o H1 => ∃ R1, o = .ex .normal R1 ∧ H1[b]? = some (rdy n R0 ps asg body) ∧
      wpC env body R1 (H1.set b (bsy n R0 ps asg body)) (fun o H2 => ∃ R2, o = .ex .normal R2 ∧ H2[b]? = some (bsy n R0 ps asg body) ∧ I i (H2.set b (rdy n R0 ps asg body))))) :
    W env (.call 43 [.yld b, .ptr c 0]) H (fun _ H' => I 0 H' ∧ H'[b]? = some (rdy n R0 ps asg body)) := by
  refine W.fnI rfl rfl rfl ?_
  have hc := hkeep _ _ h0
  have w0 : IntKind.i64.wrap ((got.length : Int) - 1) = (got.length : Int) - 1 := wrap64 (by omega)
  simp -implicitDefEqProofs only [ir43, op, ef, cl, sq, reduceIte, Int.reduceLT, Int.reduceLE, Int.reduceBEq, Int.reduceBNe, Int.reduceEq, Nat.reduceAdd, Nat.reduceLeDiff, Nat.reduceLT, Nat.reduceEqDiff, S1, hc, encVs_len, w0]
  refine W.loopI (fun (x : Nat) R H' => At H' (fun H' => I x H' ∧ H'[b]? = some (rdy n R0 ps asg body)) ∧ R 0 = .yld b ∧ R 1 = .ptr c 0 ∧ R 3 = .int .i64 ((x : Int) - 1) ∧ x ≤ got.length) (fun x => x) got.length ⟨.i ⟨h0, hb⟩, rfl, rfl, rfl, Nat.le_refl _⟩ ?_
  rintro x R H1 ⟨⟨hI, hb1⟩, g0, g1, g3, hx⟩
  cases x with
  | zero =>
    have e : (((0 : Nat) : Int) - 1) = -1 := by decide
    have e2 : decide ((0 : Int) ≤ -1) = false := by decide
    rw [e] at g3
    simp -implicitDefEqProofs only [op, ef, cl, sq, reduceIte, Int.reduceLT, Int.reduceLE, Int.reduceBEq, Int.reduceBNe, Int.reduceEq, Nat.reduceAdd, Nat.reduceLeDiff, Nat.reduceLT, Nat.reduceEqDiff, S1, g3, e2]
    exact ⟨hI, hb1⟩
  | succ i =>
    obtain ⟨v, hv⟩ := getV (l := got) (i := i) (by omega)
    have e : (((i + 1 : Nat) : Int) - 1) = (i : Int) := by omega
    have e2 : decide ((0 : Int) ≤ (i : Int)) = true := by simp
    have w1 : IntKind.i64.wrap ((i : Int) - 1) = (i : Int) - 1 := wrap64 (by omega)
    rw [e] at g3
    have hc1 := hkeep _ _ hI
    simp -implicitDefEqProofs only [op, ef, cl, sq, reduceIte, Int.reduceLT, Int.reduceLE, Int.reduceBEq, Int.reduceBNe, Int.reduceEq, Nat.reduceAdd, Nat.reduceLeDiff, Nat.reduceLT, Nat.reduceEqDiff, S1, g0, g1, g3, e2, hc1, iadV hv, encV]
    refine b_yld (b := b) (n := n) (R0 := R0) (ps := ps) (asg := asg) (body := body) ?_ hb1 (by rw [hps]; rfl) ?_
    · simp -implicitDefEqProofs only [op, ef, cl, sq, reduceIte, Int.reduceLT, Int.reduceLE, Int.reduceBEq, Int.reduceBNe, Int.reduceEq, Nat.reduceAdd, Nat.reduceLeDiff, Nat.reduceLT, Nat.reduceEqDiff, S1]
    simp -implicitDefEqProofs only [op, ef, cl, sq, reduceIte, Int.reduceLT, Int.reduceLE, Int.reduceBEq, Int.reduceBNe, Int.reduceEq, Nat.reduceAdd, Nat.reduceLeDiff, Nat.reduceLT, Nat.reduceEqDiff, S1]
    refine wpC_mono _ _ _ (fun o H2 => ?_) (hstep i v H1 hv hI hb1)
    rintro ⟨R1, rfl, hr, hw⟩
    refine ⟨R1, rfl, hr, wpC_mono _ _ _ (fun o H3 => ?_) hw⟩
    rintro ⟨R2, rfl, hr2, hI2⟩
    have hb3 := glt hr2
    refine ⟨R2, rfl, hr2, ?_⟩
    simp -implicitDefEqProofs only [op, ef, cl, sq, reduceIte, Int.reduceLT, Int.reduceLE, Int.reduceBEq, Int.reduceBNe, Int.reduceEq, Nat.reduceAdd, Nat.reduceLeDiff, Nat.reduceLT, Nat.reduceEqDiff, S1, g0, g1, g3, w1]
    exact ⟨i, by omega, .i ⟨hI2, by simp [hb3]⟩, rfl, by omega⟩

/-! copies -/
def KOk (k : SK) (l : List ByteArray) : Prop := k = .nil → l = []
theorem allS (l : List ByteArray) : (encS l).all (fun c => c.length == 1) = true := all_map (n := 1) (fun _ => rfl) l
theorem encS_er (l : List ByteArray) : (encS l).map (fun c => c.map T.erase) = encS l := by simp [encS, T.erase]
theorem clone33 (k : SK) (l : List ByteArray) (H : Heap) (hk : KOk k l) (hl : l.length < 1099511627776) : W env (.call 33 [.sl k (encS l)]) H (fun o H' => Ext H H' ∧ ∃ k', KOk k' l ∧ o = .val (.sl k' (encS l))) := by
  refine W.fnI rfl rfl rfl ?_
  have app : l ≠ [] → ∃ k' H', appT H 16 .full [] (encS l) = some (.sl k' (encS l), H') ∧ Ext H H' ∧ k' ≠ .nil := fun hne => by
    obtain ⟨k', H', ha, hap, hst⟩ := app_ok (n0 := H.length) (H := H) (bytes := 16) (k := .full) [] (encS l) (.inr (.inl rfl)) (Nat.le_refl _) (by simpa [encS] using hne) (roomT (by simp -implicitDefEqProofs only [encS_len, List.length_nil]; omega))
    rw [List.nil_append, encS_er] at ha
    refine ⟨k', H', ha, hst.ext H (Nat.le_refl _) Ext.rfl', fun h => ?_⟩
    subst h
    unfold appT at ha
    cases hl : encS l with
    | nil => simp [encS] at hl; exact hne hl
    | cons c cs => rw [hl] at ha; simp only at ha; split at ha <;> simp at ha
  cases k with
  | nil =>
    have := hk rfl; subst this
    simp -implicitDefEqProofs only [ir33, op, ef, cl, sq, reduceIte, Int.reduceLT, Int.reduceLE, Int.reduceBEq, Int.reduceBNe, Int.reduceEq, Nat.reduceAdd, Nat.reduceLeDiff, Nat.reduceLT, Nat.reduceEqDiff, S1, encS, eqRef, nilOf]
    exact ⟨Ext.rfl', .nil, fun _ => rfl, rfl⟩
  | arg =>
    cases l with
    | nil =>
      simp -implicitDefEqProofs only [ir33, op, ef, cl, sq, reduceIte, Int.reduceLT, Int.reduceLE, Int.reduceBEq, Int.reduceBNe, Int.reduceEq, Nat.reduceAdd, Nat.reduceLeDiff, Nat.reduceLT, Nat.reduceEqDiff, S1, encS, eqRef, nilOf, Option.map_none]
      refine fun t => ?_
      cases t
      · simp -implicitDefEqProofs only [op, ef, cl, sq, reduceIte, Int.reduceLT, Int.reduceLE, Int.reduceBEq, Int.reduceBNe, Int.reduceEq, Nat.reduceAdd, Nat.reduceLeDiff, Nat.reduceLT, Nat.reduceEqDiff, S1, appT]
        exact ⟨Ext.rfl', .full, fun h => rfl, rfl⟩
      · simp -implicitDefEqProofs only [op, ef, cl, sq, reduceIte, Int.reduceLT, Int.reduceLE, Int.reduceBEq, Int.reduceBNe, Int.reduceEq, Nat.reduceAdd, Nat.reduceLeDiff, Nat.reduceLT, Nat.reduceEqDiff, S1]
        exact ⟨Ext.rfl', .nil, fun _ => rfl, rfl⟩
    | cons a l =>
      obtain ⟨k', H', ha, hx, hk'⟩ := app (by simp)
      have h1 := allS (a :: l)
      simp -implicitDefEqProofs only [encS, List.map_cons] at ha h1
      simp -implicitDefEqProofs only [ir33, op, ef, cl, sq, reduceIte, Int.reduceLT, Int.reduceLE, Int.reduceBEq, Int.reduceBNe, Int.reduceEq, Nat.reduceAdd, Nat.reduceLeDiff, Nat.reduceLT, Nat.reduceEqDiff, S1, encS, eqRef, nilOf, ha, h1]
      exact ⟨hx, k', fun h => absurd h hk', rfl⟩
  | full =>
    cases l with
    | nil =>
      simp -implicitDefEqProofs only [ir33, op, ef, cl, sq, reduceIte, Int.reduceLT, Int.reduceLE, Int.reduceBEq, Int.reduceBNe, Int.reduceEq, Nat.reduceAdd, Nat.reduceLeDiff, Nat.reduceLT, Nat.reduceEqDiff, S1, encS, eqRef, nilOf, appT]
      exact ⟨Ext.rfl', .full, fun h => rfl, rfl⟩
    | cons a l =>
      obtain ⟨k', H', ha, hx, hk'⟩ := app (by simp)
      have h1 := allS (a :: l)
      simp -implicitDefEqProofs only [encS, List.map_cons] at ha h1
      simp -implicitDefEqProofs only [ir33, op, ef, cl, sq, reduceIte, Int.reduceLT, Int.reduceLE, Int.reduceBEq, Int.reduceBNe, Int.reduceEq, Nat.reduceAdd, Nat.reduceLeDiff, Nat.reduceLT, Nat.reduceEqDiff, S1, encS, eqRef, nilOf, ha, h1]
      exact ⟨hx, k', fun h => absurd h hk', rfl⟩
  | own t e =>
    cases l with
    | nil =>
      simp -implicitDefEqProofs only [ir33, op, ef, cl, sq, reduceIte, Int.reduceLT, Int.reduceLE, Int.reduceBEq, Int.reduceBNe, Int.reduceEq, Nat.reduceAdd, Nat.reduceLeDiff, Nat.reduceLT, Nat.reduceEqDiff, S1, encS, eqRef, nilOf, appT]
      exact ⟨Ext.rfl', .full, fun h => rfl, rfl⟩
    | cons a l =>
      obtain ⟨k', H', ha, hx, hk'⟩ := app (by simp)
      have h1 := allS (a :: l)
      simp -implicitDefEqProofs only [encS, List.map_cons] at ha h1
      simp -implicitDefEqProofs only [ir33, op, ef, cl, sq, reduceIte, Int.reduceLT, Int.reduceLE, Int.reduceBEq, Int.reduceBNe, Int.reduceEq, Nat.reduceAdd, Nat.reduceLeDiff, Nat.reduceLT, Nat.reduceEqDiff, S1, encS, eqRef, nilOf, ha, h1]
      exact ⟨hx, k', fun h => absurd h hk', rfl⟩
end Go.Proofs.Ytobnjpgggocdlaa.Fx
end

/-! text FixK -/
section
namespace Go.Proofs.Ytobnjpgggocdlaa.Fx
open Go.Rmp Go.Proofs.Ytobnjpgggocdlaa.Ir
set_option maxRecDepth 10000
def setK (v : Ver) (k : SK) : Ver := { v with kk := k }
theorem own35 (v : Ver) (H : Heap) (hl : v.keys.length < 1099511627776) : W env (.call 35 [.agg (encV v)]) H (fun o H' => Ext H H' ∧ ∃ k', KOk k' v.keys ∧ o = .val (.agg (encV (setK v k')))) := by
  refine W.fnI rfl rfl rfl ?_
  have app : ∃ k' H', appT (H ++ [.cells (encV v)] ++ [.cells [.str ⟨#[]⟩, .int .u64 0, .str ⟨#[]⟩, .sl .nil []]]) 16 .nil [] (encS v.keys) = some (.sl k' (encS v.keys), H') ∧ Ext (H ++ [.cells (encV v)] ++ [.cells [.str ⟨#[]⟩, .int .u64 0, .str ⟨#[]⟩, .sl .nil []]]) H' ∧ KOk k' v.keys := by
    cases hk : v.keys with
    | nil => exact ⟨.nil, _, rfl, Ext.rfl', fun _ => rfl⟩
    | cons a l =>
      obtain ⟨k', H', ha, hap, hst⟩ := app_ok (n0 := (H ++ [B.cells (encV v)] ++ [B.cells [.str ⟨#[]⟩, .int .u64 0, .str ⟨#[]⟩, .sl .nil []]]).length) (H := H ++ [B.cells (encV v)] ++ [B.cells [.str ⟨#[]⟩, .int .u64 0, .str ⟨#[]⟩, .sl .nil []]]) (bytes := 16) (k := .nil) [] (encS v.keys) (.inl rfl) (Nat.le_refl _) (by rw [hk]; simp [encS]) (roomT (by simp -implicitDefEqProofs only [encS_len, List.length_nil]; omega))
      rw [List.nil_append, encS_er, hk] at ha
      refine ⟨k', H', ha, hst.ext _ (Nat.le_refl _) Ext.rfl', fun h => ?_⟩
      subst h
      simp -implicitDefEqProofs only [appT, encS, List.map_cons] at ha
      split at ha <;> simp at ha
  obtain ⟨k', H', ha, hx, hk'⟩ := app
  have g1 : H'[H.length]? = some (.cells (encV v)) := hx.get (by simp)
  have g2 : H'[H.length + 1]? = some (.cells [.str ⟨#[]⟩, .int .u64 0, .str ⟨#[]⟩, .sl .nil []]) := hx.get (by simp)
  have hxx : Ext H H' := ((Ext.rfl'.app _).app _).trans hx
  have m1 := glt g1
  have m2 := glt g2
  have n12 : H.length ≠ H.length + 1 := by omega
  have l1 : (H ++ [B.cells (encV v)]).length = H.length + 1 := by simp
  simp -implicitDefEqProofs only [encV] at ha g1 l1
  have q1 : H.length < H.length + 1 := by omega
  simp -implicitDefEqProofs only [ir35, op, ef, cl, sq, reduceIte, Int.reduceLT, Int.reduceLE, Int.reduceBEq, Int.reduceBNe, Int.reduceEq, Nat.reduceAdd, Nat.reduceLeDiff, Nat.reduceLT, Nat.reduceEqDiff, S1, S2, encV, l1, q1, allS, ha, g1, g2, m1, m2, n12]
  refine ⟨(hxx.set (Nat.le_refl _) _).set (by omega) _, k', hk', ?_⟩
  simp -implicitDefEqProofs only [setK]
theorem wanted34 (k : SK) (l : List (ByteArray × Nat)) (x : ByteArray) (H : Heap) (hl : l.length < 4611686018427387903) : W env (.call 34 [.sl k (encWs l), .str x]) H (Ret (.int .u64 ((l.find? fun w => decide (w.1 = x)).elim 0 (·.2) : Nat)) H) := by
  refine W.fnI rfl rfl rfl ?_
  simp -implicitDefEqProofs only [ir34, op, ef, cl, sq, reduceIte, Int.reduceLT, Int.reduceLE, Int.reduceBEq, Int.reduceBNe, Int.reduceEq, Nat.reduceAdd, Nat.reduceLeDiff, Nat.reduceLT, Nat.reduceEqDiff, S1]
  refine W.loopI (fun (i : Nat) R H' => H' = H ∧ R 0 = .sl k (encWs l) ∧ R 1 = .str x ∧ R 5 = .int .i64 i ∧ i ≤ l.length ∧ l.find? (fun w => decide (w.1 = x)) = (l.drop i).find? (fun w => decide (w.1 = x))) (fun i => l.length - i) 0 ⟨rfl, rfl, rfl, rfl, Nat.zero_le _, rfl⟩ ?_
  rintro i R _ ⟨rfl, h0, h1, h5, hi, he⟩
  by_cases hlt : i < l.length
  · obtain ⟨w, hw⟩ : ∃ w, l[i]? = some w := ⟨l[i], List.getElem?_eq_getElem hlt⟩
    have wsi := wrap_succ (show i < 9223372036854775807 by omega)
    have hd : l.drop i = w :: l.drop (i + 1) := by rw [List.drop_eq_getElem_cons hlt]; congr 1; exact (List.getElem?_eq_some_iff.1 hw).2
    have iw : iadT 2 i (.sl k (encWs l)) = some (.iptr [.str w.1, .int .u64 w.2]) := iad_map (enc := encW) hw rfl (by decide)
    rw [hd, List.find?_cons] at he
    by_cases hx : w.1 = x
    · simp -implicitDefEqProofs only [hx, decide_true] at he
      simp -implicitDefEqProofs only [op, ef, cl, sq, reduceIte, Int.reduceLT, Int.reduceLE, Int.reduceBEq, Int.reduceBNe, Int.reduceEq, Nat.reduceAdd, Nat.reduceLeDiff, Nat.reduceLT, Nat.reduceEqDiff, S1, h0, h1, h5, encWs_len, hlt, iw, hx, he, Option.elim]
    · simp -implicitDefEqProofs only [hx, decide_false] at he
      simp -implicitDefEqProofs only [op, ef, cl, sq, reduceIte, Int.reduceLT, Int.reduceLE, Int.reduceBEq, Int.reduceBNe, Int.reduceEq, Nat.reduceAdd, Nat.reduceLeDiff, Nat.reduceLT, Nat.reduceEqDiff, S1, h0, h1, h5, encWs_len, hlt, iw, hx, wsi]
      exact ⟨i + 1, by omega, rfl, by omega, he⟩
  · rw [List.drop_eq_nil_of_le (by omega)] at he
    simp -implicitDefEqProofs only [op, ef, cl, sq, reduceIte, Int.reduceLT, Int.reduceLE, Int.reduceBEq, Int.reduceBNe, Int.reduceEq, Nat.reduceAdd, Nat.reduceLeDiff, Nat.reduceLT, Nat.reduceEqDiff, S1, h0, h1, h5, encWs_len, hlt, he, List.find?_nil, Option.elim]
    try simp
end Go.Proofs.Ytobnjpgggocdlaa.Fx
end

/-! text FixL -/
section
namespace Go.Proofs.Ytobnjpgggocdlaa.Fx
open Go.Rmp Go.Proofs.Ytobnjpgggocdlaa.Ir
set_option maxRecDepth 10000
def kW (w : ByteArray × Nat) : T := .agg [.str w.1, .int .u64 w.2]
theorem kWok : KeyOk (.st [.str, .int]) kW := ⟨fun _ => rfl, fun a b => by
  simp -implicitDefEqProofs only [kW, keyEq, eqCells, eqSc, strEq_eq, if_true, deq, Option.some.injEq]
  rw [Bool.eq_iff_iff]; simp [Prod.ext_iff]⟩
theorem lkpB_W (z : T) (ok : Bool) (H : Heap) (es : List ((ByteArray × Nat) × T)) (s : ByteArray) (n : Nat) : lkpB (.st [.str, .int]) z ok H (some (.map (encK kW es))) (.agg [.str s, .int .u64 n]) = some (lkpT (mlook es (s, n)) z ok, H) := lkpB_K kWok z ok H es (s, n)
theorem upmB_W (H : Heap) (b : Nat) (es : List ((ByteArray × Nat) × T)) (s : ByteArray) (n : Nat) (v : T) : upmB (.st [.str, .int]) H b (some (.map (encK kW es))) (.agg [.str s, .int .u64 n]) v = some (undefT, H.set b (.map (encK kW (mput es (s, n) v)))) := upmB_K kWok H b es (s, n) v
def wOf (v : Ver) : ByteArray × Nat := (v.key, v.id)
def Fetched (got : List Ver) (i : Nat) (es : List ((ByteArray × Nat) × T)) : Prop := ∀ w, match mlook es w with
  | .none => ∀ (p : Nat) v, i ≤ p → got[p]? = some v → wOf v ≠ w
  | some t => ∃ p v, i ≤ p ∧ got[p]? = some v ∧ wOf v = w ∧ t = .int .i64 (p : Int) ∧ ∀ (q : Nat) u, i ≤ q → q < p → got[q]? = some u → wOf u ≠ w
theorem fetched_end (got : List Ver) : Fetched got got.length [] := fun w => by
  simp -implicitDefEqProofs only [mlook_nil]
  intro p v hp hv
  rw [List.getElem?_eq_none hp] at hv; cases hv
theorem fetched_put {got : List Ver} {i : Nat} {es : List ((ByteArray × Nat) × T)} {v : Ver} (hv : got[i]? = some v) (h : Fetched got (i + 1) es) : Fetched got i (mput es (v.key, v.id) (.int .i64 (i : Int))) := fun w => by
  rw [mlook_put]
  by_cases e : w = (v.key, v.id)
  · subst e; simp -implicitDefEqProofs only [if_true]
    exact ⟨i, v, Nat.le_refl _, hv, rfl, rfl, fun q u h1 h2 => by omega⟩
  · simp -implicitDefEqProofs only [e, if_false]
    have := h w
    have hne : wOf v ≠ w := fun h => e h.symm
    cases hl : mlook es w with
    | none =>
      rw [hl] at this
      intro p u hp hu
      by_cases hpi : p = i
      · subst hpi; rw [hv] at hu; cases hu; exact hne
      · exact this p u (by omega) hu
    | some t =>
      rw [hl] at this
      obtain ⟨p, u, h1, h2, h3, h4, h5⟩ := this
      refine ⟨p, u, by omega, h2, h3, h4, fun q x hq hqp hx => ?_⟩
      by_cases hpi : q = i
      · subst hpi; rw [hv] at hx; cases hx; exact hne
      · exact h5 q x (by omega) hqp hx
def gotOf (got : List Ver) (k : ByteArray) (n : Nat) : Option Ver := got.find? fun v => decide (v.key = k) && decide (v.id = n)
theorem fetched_no {got : List Ver} {es : List ((ByteArray × Nat) × T)} (h : Fetched got 0 es) {k : ByteArray} {n : Nat} (hl : mlook es (k, n) = Option.none) : gotOf got k n = Option.none := by
  have := h (k, n); rw [hl] at this
  unfold gotOf; rw [List.find?_eq_none]
  intro v hv
  obtain ⟨p, hp, e⟩ := List.getElem_of_mem hv
  have := this p v (Nat.zero_le _) (by rw [List.getElem?_eq_getElem hp, e])
  simp -implicitDefEqProofs only [wOf, ne_eq, Prod.mk.injEq] at this
  simpa using this
theorem fetched_yes {got : List Ver} {es : List ((ByteArray × Nat) × T)} (h : Fetched got 0 es) {k : ByteArray} {n : Nat} {t : T} (hl : mlook es (k, n) = some t) : ∃ (p : Nat) (v : Ver), got[p]? = some v ∧ t = .int .i64 (p : Int) ∧ gotOf got k n = some v := by
  have := h (k, n); rw [hl] at this
  obtain ⟨p, v, _, h2, h3, h4, h5⟩ := this
  refine ⟨p, v, h2, h4, ?_⟩
  unfold gotOf; rw [List.find?_eq_some_iff_getElem]
  have hp := (List.getElem?_eq_some_iff.1 h2).1
  simp -implicitDefEqProofs only [wOf, Prod.mk.injEq] at h3
  refine ⟨by simp [h3], p, hp, (List.getElem?_eq_some_iff.1 h2).2, fun j hj => ?_⟩
  have := h5 j got[j] (Nat.zero_le _) hj (List.getElem?_eq_getElem _)
  simp -implicitDefEqProofs only [wOf, ne_eq, Prod.mk.injEq] at this
  simp -implicitDefEqProofs only [Bool.not_eq_true', Bool.and_eq_false_iff, decide_eq_false_iff_not]
  exact Classical.not_and_iff_not_or_not.1 this

def mendOne (l got : List Ver) (u : Ver) : Option Ver := if u.id < gr l u.key then gotOf got u.key (gr l u.key) else some u
def mendO (l got : List Ver) (u : Ver) : Option Ver := (mendOne l got u).map (setK · .arg)
def mends (f : Ver → Option Ver) : List Ver → Option (List Ver)
  | [] => some []
  | u :: m => match f u, mends f m with
    | some a, some b => some (a :: b)
    | _, _ => .none
theorem mends_snoc (f : Ver → Option Ver) {m : List Ver} {u v : Ver} {out : List Ver} (h : mends f m = some out) (hv : f u = some v) : mends f (m ++ [u]) = some (out ++ [v]) := by
  induction m generalizing out with
  | nil => simp -implicitDefEqProofs only [mends, Option.some.injEq] at h; subst h; simp [mends, hv]
  | cons x m ih =>
    simp -implicitDefEqProofs only [mends, List.cons_append] at h ⊢
    cases h1 : f x with
    | none => rw [h1] at h; simp at h
    | some a =>
      cases h2 : mends f m with
      | none => rw [h1, h2] at h; simp at h
      | some b => rw [h1, h2] at h; simp -implicitDefEqProofs only [Option.some.injEq] at h; subst h; rw [ih h2]; rfl
theorem mends_no (f : Ver → Option Ver) {m : List Ver} {u : Ver} (hu : u ∈ m) (hv : f u = .none) : mends f m = .none := by
  induction m with
  | nil => cases hu
  | cons x m ih =>
    simp -implicitDefEqProofs only [mends]
    rcases List.mem_cons.1 hu with rfl | h
    · rw [hv]
    · rw [ih h]; cases f x <;> rfl
theorem mends_len (f : Ver → Option Ver) : ∀ {m out : List Ver}, mends f m = some out → out.length = m.length
  | [], out, h => by simp -implicitDefEqProofs only [mends, Option.some.injEq] at h; subst h; rfl
  | x :: m, out, h => by
    simp -implicitDefEqProofs only [mends] at h
    cases h1 : f x with
    | none => rw [h1] at h; simp at h
    | some a =>
      cases h2 : mends f m with
      | none => rw [h1, h2] at h; simp at h
      | some b => rw [h1, h2] at h; simp -implicitDefEqProofs only [Option.some.injEq] at h; subst h; simp [mends_len f h2]
open Classical in
noncomputable def mendL (l got : List Ver) : List Ver := if Formed l then (mends (mendO l got) l).getD [] else []
open Classical in
noncomputable def mendE (l got : List Ver) : Nat := if Formed l then if (mends (mendO l got) l).isSome then 0 else 110 else 1
def MendQ (l got : List Ver) (H : Heap) : Out → Heap → Prop := fun o H' => Ext H H' ∧ ∃ k, o = .val (.tup [.sl k (encVs (mendL l got)), .int .i64 (mendE l got)])
def NilOk (l : List Ver) : Prop := ∀ v ∈ l, KOk v.kk v.keys ∧ v.keys.length < 1099511627776
theorem allV (l : List Ver) : (encVs l).all (fun c => c.length == 4) = true := all_map (n := 4) (fun _ => rfl) l
theorem vapp (l : List Ver) (v : Ver) : encVs l ++ [[T.str v.key, T.int .u64 v.id, T.str v.val, T.sl .arg (encS v.keys)]] = encVs (l ++ [setK v .arg]) := by simp [encVs, encV, setK]
theorem back32 (k : SK) (got : List Ver) (H : Heap) : W env (.call 32 [.sl k (encVs got)]) H (fun o H' => H' = H ++ [.cells [.sl k (encVs got)]] ∧ o = .val (.fn 43 [.ptr H.length 0])) := by
  refine W.fnI rfl rfl rfl ?_
  simp -implicitDefEqProofs only [ir32, op, ef, cl, sq, reduceIte, Int.reduceLT, Int.reduceLE, Int.reduceBEq, Int.reduceBNe, Int.reduceEq, Nat.reduceAdd, Nat.reduceLeDiff, Nat.reduceLT, Nat.reduceEqDiff, S1, capsT]
end Go.Proofs.Ytobnjpgggocdlaa.Fx
end

/-! text FixM -/
section
namespace Go.Proofs.Ytobnjpgggocdlaa.Fx
open Go.Rmp Go.Proofs.Ytobnjpgggocdlaa.Ir
set_option maxRecDepth 10000
theorem mend16 (k kg : SK) (l got : List Ver) (H : Heap) (hs : Small l) (hn : NilOk l) (hng : NilOk got) (hgl : got.length < 4611686018427387903) : W env (.call 16 [.sl k (encVs l), .sl kg (encVs got)]) H (MendQ l got H) := by
  refine W.fnrI rfl rfl ?_
  simp -implicitDefEqProofs only [ir16, op, ef, cl, sq, reduceIte, Int.reduceLT, Int.reduceLE, Int.reduceBEq, Int.reduceBNe, Int.reduceEq, Nat.reduceAdd, Nat.reduceLeDiff, Nat.reduceLT, Nat.reduceEqDiff, S1]
  refine callB_of _ _ _ _ _ _ _ _ (formed12 k l _ hs) ?_
  rintro u H1 ⟨hu, hx1⟩
  cases hu
  have hx1 : Ext H H1 := hx1
  by_cases hf : ¬ Formed l
  · simp -implicitDefEqProofs only [op, ef, cl, sq, reduceIte, Int.reduceLT, Int.reduceLE, Int.reduceBEq, Int.reduceBNe, Int.reduceEq, Nat.reduceAdd, Nat.reduceLeDiff, Nat.reduceLT, Nat.reduceEqDiff, S1, formed_f hf]
    refine endR_0 rfl ?_
    simp -implicitDefEqProofs only [op, ef, cl, sq, reduceIte, Int.reduceLT, Int.reduceLE, Int.reduceBEq, Int.reduceBNe, Int.reduceEq, Nat.reduceAdd, Nat.reduceLeDiff, Nat.reduceLT, Nat.reduceEqDiff, S1]
    exact ⟨hx1, .nil, by simp [mendL, mendE, hf, encVs]⟩
  have hf := Classical.not_not.1 hf
  have hln := hf.2.1
  have q0 : (H1 ++ [B.map []]).length = H1.length + 1 := by simp
  have q1 : H1.length < H1.length + 1 := by omega
  simp -implicitDefEqProofs only [op, ef, cl, sq, reduceIte, Int.reduceLT, Int.reduceLE, Int.reduceBEq, Int.reduceBNe, Int.reduceEq, Nat.reduceAdd, Nat.reduceLeDiff, Nat.reduceLT, Nat.reduceEqDiff, S1, S2, formed_t hf, q0]
  refine callB_of _ _ _ _ _ _ _ _ (back32 kg got _) ?_
  rintro u H2 ⟨rfl, hu⟩
  cases hu
  simp -implicitDefEqProofs only [op, ef, cl, sq, reduceIte, Int.reduceLT, Int.reduceLE, Int.reduceBEq, Int.reduceBNe, Int.reduceEq, Nat.reduceAdd, Nat.reduceLeDiff, Nat.reduceLT, Nat.reduceEqDiff, S1]
  have q2 : (H1 ++ [B.map []] ++ [B.cells [T.map H1.length]]).length = H1.length + 2 := by simp
  rw [q2]
  generalize hH2 : H1 ++ [B.map []] ++ [B.cells [T.map H1.length]] ++ [B.cells [T.sl kg (encVs got)]] = H2
  generalize hR : upd _ 20 _ = R0
  refine W.rangeI (f := 43) (cs := [.ptr (H1.length + 2) 0]) (by rw [← hR]; simp -implicitDefEqProofs only [op, ef, cl, sq, reduceIte, Int.reduceLT, Int.reduceLE, Int.reduceBEq, Int.reduceBNe, Int.reduceEq, Nat.reduceAdd, Nat.reduceLeDiff, Nat.reduceLT, Nat.reduceEqDiff, S1]) ?_
  have a1 : H2.length = H1.length + 3 := by rw [← hH2]; simp
  have a2 : H2[H1.length]? = some (.map (encK kW [])) := by rw [← hH2]; simp [encK]
  have a3 : H2[H1.length + 1]? = some (.cells [.map H1.length]) := by rw [← hH2]; simp
  have a4 : H2[H1.length + 2]? = some (.cells [.sl kg (encVs got)]) := by rw [← hH2]; simp
  have a5 : Ext H H2 := by rw [← hH2]; exact ((hx1.app _).app _).app _
  have r0 : R0 0 = .sl k (encVs l) := by rw [← hR]; simp -implicitDefEqProofs only [op, ef, cl, sq, reduceIte, Int.reduceLT, Int.reduceLE, Int.reduceBEq, Int.reduceBNe, Int.reduceEq, Nat.reduceAdd, Nat.reduceLeDiff, Nat.reduceLT, Nat.reduceEqDiff, S1]
  have r1 : R0 1 = .sl kg (encVs got) := by rw [← hR]; simp -implicitDefEqProofs only [op, ef, cl, sq, reduceIte, Int.reduceLT, Int.reduceLE, Int.reduceBEq, Int.reduceBNe, Int.reduceEq, Nat.reduceAdd, Nat.reduceLeDiff, Nat.reduceLT, Nat.reduceEqDiff, S1]
  have r6 : R0 6 = .ptr (H1.length + 1) 0 := by rw [← hR]; simp -implicitDefEqProofs only [op, ef, cl, sq, reduceIte, Int.reduceLT, Int.reduceLE, Int.reduceBEq, Int.reduceBNe, Int.reduceEq, Nat.reduceAdd, Nat.reduceLeDiff, Nat.reduceLT, Nat.reduceEqDiff, S1]
  have r71 : R0 71 = .tup [] := by rw [← hR]; rfl
  rw [r71, push0, a1]
  have hl1 := hx1.len
  have e1 : H1.length + 3 + 1 = H1.length + 4 := rfl
  rw [e1]
  generalize hnn : H1.length = f at *
  have n01 : ¬ f = f + 1 := by omega
  have n02 : ¬ f = f + 2 := by omega
  have n03 : ¬ f = f + 3 := by omega
  have n04 : ¬ f + 4 = f := by omega
  have n14 : ¬ f + 4 = f + 1 := by omega
  have n24 : ¬ f + 4 = f + 2 := by omega
  have n34 : ¬ f + 4 = f + 3 := by omega
  have n40 : ¬ f = f + 4 := by omega
  have hbl : ∀ x y : B, (H2 ++ [y, x])[f + 4]? = some x := fun x y => by
    rw [List.getElem?_append_right (by omega), a1]
    have : f + 4 - (f + 3) = 1 := by omega
    rw [this]; rfl
  refine W.use (back43 (hb := hbl _ _) kg got (f + 2) (f + 4) _ (fun i H' => At H' fun H' => Ext H H' ∧ H'[f + 1]? = some (.cells [.map f]) ∧ H'[f + 2]? = some (.cells [.sl kg (encVs got)]) ∧ H'[f + 3]? = some .dfr ∧ ∃ es, H'[f]? = some (.map (encK kW es)) ∧ Fetched got i es) rfl hgl ?_ ?_ ?_) ?_
  · refine .i ⟨a5.app _, ?_, ?_, g_tail a1.symm, [], ?_, fetched_end got⟩
    · rw [g_app (by omega)]; exact a3
    · rw [g_app (by omega)]; exact a4
    · rw [g_app (by omega)]; exact a2
  · rintro i H' ⟨_, _, h, _⟩; exact h
  · rintro i v H3 hv ⟨h1, h2, h3, h4, es, h5, h6⟩ hb
    have m4 := glt hb
    have m0 := glt h5
    have m1 := glt h2
    have m3 := glt h3
    have t4 : ¬ f + 4 = H3.length := by omega
    simp -implicitDefEqProofs only [op, ef, cl, sq, reduceIte, Int.reduceLT, Int.reduceLE, Int.reduceBEq, Int.reduceBNe, Int.reduceEq, Nat.reduceAdd, Nat.reduceLeDiff, Nat.reduceLT, Nat.reduceEqDiff, S1, S2, setps, r6, encV]
    refine ⟨_, rfl, ?_, ?_⟩
    · rw [g_app m4]; exact hb
    simp -implicitDefEqProofs only [op, ef, cl, sq, reduceIte, Int.reduceLT, Int.reduceLE, Int.reduceBEq, Int.reduceBNe, Int.reduceEq, Nat.reduceAdd, Nat.reduceLeDiff, Nat.reduceLT, Nat.reduceEqDiff, S1, S2, r6, m4, m0, m1, t4, n04, n14, n24, n34, n40, h2, h5, upmB_W]
    have lq : H.length ≤ f := by omega
    refine ⟨_, rfl, .i ⟨(((h1.set (by omega) _).set lq _).set (by omega) _).app _, ?_, ?_, ?_, _, ?_, fetched_put hv h6⟩⟩
    · simp -implicitDefEqProofs only [S2, m4, m0, m1, n04, n14, n01, h2]
    · simp -implicitDefEqProofs only [S2, m4, m0, m3, n04, n24, n02, h3]
    · have := glt h4; simp -implicitDefEqProofs only [S2, m4, m0, this, n04, n34, n03, h4]
    · simp -implicitDefEqProofs only [S2, m4, m0, n04]
  rintro o H3 ⟨⟨h1, h2, h3, h4, es, h5, h6⟩, hb⟩
  refine ⟨hb, ?_⟩
  have m4 := glt hb
  simp -implicitDefEqProofs only [op, ef, cl, sq, reduceIte, Int.reduceLT, Int.reduceLE, Int.reduceBEq, Int.reduceBNe, Int.reduceEq, Nat.reduceAdd, Nat.reduceLeDiff, Nat.reduceLT, Nat.reduceEqDiff, S1, r0, r1, r6]
  refine callB_of _ _ _ _ _ _ _ _ (greatest25 k l _ hs hf) ?_
  rintro u H4 ⟨hx4, b, hu, hbo, hbH⟩
  cases hu
  have p0 : H4[f]? = some (.map (encK kW es)) := hx4.get (by simp -implicitDefEqProofs only [S2, n04, h5])
  have p1 : H4[f + 1]? = some (.cells [.map f]) := hx4.get (by simp -implicitDefEqProofs only [S2, n14, h2])
  have p3 : H4[f + 3]? = some .dfr := hx4.get (by simp -implicitDefEqProofs only [S2, n34, h4])
  have px : Ext H H4 := (h1.set (by omega) _).trans hx4
  simp -implicitDefEqProofs only [op, ef, cl, sq, reduceIte, Int.reduceLT, Int.reduceLE, Int.reduceBEq, Int.reduceBNe, Int.reduceEq, Nat.reduceAdd, Nat.reduceLeDiff, Nat.reduceLT, Nat.reduceEqDiff, S1, r0, r1, r6]
  refine W.loopI (fun (i : Nat) R H' => At H' (fun H' => ∃ kw out, mends (mendO l got) (l.take i) = some out ∧ R 9 = .sl kw (encVs out) ∧ Ext H H' ∧ H'[b]? = some (.cells (msC eU (grs l))) ∧ H'[f]? = some (.map (encK kW es)) ∧ H'[f + 1]? = some (.cells [.map f]) ∧ H'[f + 3]? = some .dfr ∧ Apd H.length H' kw) ∧ R 0 = .sl k (encVs l) ∧ R 1 = .sl kg (encVs got) ∧ R 6 = .ptr (f + 1) 0 ∧ R 31 = .msl b 0 l.length 1 ∧ R 32 = .int .i64 l.length ∧ R 33 = .int .i64 i ∧ R 71 = .tup [.ptr (f + 3) 0] ∧ i ≤ l.length) (fun i => l.length - i) 0 ?_ ?_
  · refine ⟨.i ⟨.nil, [], rfl, rfl, px, hbo, p0, p1, p3, apd_nil _ _⟩, ?_⟩
    simp -implicitDefEqProofs only [op, ef, cl, sq, reduceIte, Int.reduceLT, Int.reduceLE, Int.reduceBEq, Int.reduceBNe, Int.reduceEq, Nat.reduceAdd, Nat.reduceLeDiff, Nat.reduceLT, Nat.reduceEqDiff, S1, r0, r1, r6]
    exact ⟨rfl, Nat.zero_le _⟩
  rintro i R H5 ⟨⟨kw, out, hout, g9, hx5, c0, c1, c2, c3, hap⟩, g0, g1, g6, g31, g32, g33, g71, hi⟩
  by_cases hlt : i < l.length
  · obtain ⟨v, hv⟩ := getV hlt
    have hvm := List.mem_of_getElem? hv
    have wsi := wrap_succ (show i < 9223372036854775807 by omega)
    have hg := getG rfl hv
    have lb := glt c0
    have lf := glt c1
    have lf1 := glt c2
    have lf3 := glt c3
    by_cases hlg : v.id < gr l v.key
    · have nf5 : ¬ f + 1 = H5.length := by omega
      cases ho : mlook es (v.key, gr l v.key) with
      | none =>
        simp -implicitDefEqProofs only [op, ef, cl, sq, reduceIte, Int.reduceLT, Int.reduceLE, Int.reduceBEq, Int.reduceBNe, Int.reduceEq, Nat.reduceAdd, Nat.reduceLeDiff, Nat.reduceLT, Nat.reduceEqDiff, S1, S2, g0, g1, g6, g31, g32, g33, hlt, natOf_nat, iad_m, c0, c1, c2, lb, lf, lf1, msU_get hg, iadV hv, encV, hlg, lkpB_W, ho]
        refine endR_r (b := f + 3) (by simp -implicitDefEqProofs only [op, ef, cl, sq, reduceIte, Int.reduceLT, Int.reduceLE, Int.reduceBEq, Int.reduceBNe, Int.reduceEq, Nat.reduceAdd, Nat.reduceLeDiff, Nat.reduceLT, Nat.reduceEqDiff, S1, g71]) (by simp -implicitDefEqProofs only [S2, lf3, c3]) ?_
        simp -implicitDefEqProofs only [op, ef, cl, sq, reduceIte, Int.reduceLT, Int.reduceLE, Int.reduceBEq, Int.reduceBNe, Int.reduceEq, Nat.reduceAdd, Nat.reduceLeDiff, Nat.reduceLT, Nat.reduceEqDiff, S1]
        refine ⟨(hx5.app _).set (by omega) _, .nil, ?_⟩
        have hno := mends_no (mendO l got) hvm (by simp [mendO, mendOne, hlg, fetched_no h6 ho])
        simp [mendL, mendE, hf, hno, encVs]
      | some t =>
      obtain ⟨p, w, hpw, rfl, hgo⟩ := fetched_yes h6 ho
      have hwm := List.mem_of_getElem? hpw
      simp -implicitDefEqProofs only [op, ef, cl, sq, reduceIte, Int.reduceLT, Int.reduceLE, Int.reduceBEq, Int.reduceBNe, Int.reduceEq, Nat.reduceAdd, Nat.reduceLeDiff, Nat.reduceLT, Nat.reduceEqDiff, S1, S2, g0, g1, g6, g31, g32, g33, hlt, natOf_nat, iad_m, c0, c1, c2, lb, lf, lf1, msU_get hg, iadV hv, iadV hpw, encV, hlg, lkpB_W, ho]
      refine callB_of _ _ _ _ _ _ _ _ (clone33 w.kk w.keys _ (hng w hwm).1 (hng w hwm).2) ?_
      rintro u H6 ⟨hx6, k', hk', hu⟩
      cases hu
      have s0 : H6[H5.length]? = some (.cells (encV w)) := hx6.get (by simp -implicitDefEqProofs only [S2, encV])
      have sc0 : H6[b]? = some (.cells (msC eU (grs l))) := hx6.get (by simp -implicitDefEqProofs only [S2, lb, c0])
      have sc1 : H6[f]? = some (.map (encK kW es)) := hx6.get (by simp -implicitDefEqProofs only [S2, lf, c1])
      have sc2 : H6[f + 1]? = some (.cells [.map f]) := hx6.get (by simp -implicitDefEqProofs only [S2, lf1, c2])
      have sc3 : H6[f + 3]? = some .dfr := hx6.get (by simp -implicitDefEqProofs only [S2, lf3, c3])
      have sx : Ext H H6 := (hx5.app _).trans hx6
      have sap : Apd H.length H6 kw := (hap.ext ⟨_, rfl⟩).ext hx6
      have sl := glt s0
      have lo : out.length ≤ 1024 := by rw [mends_len _ hout]; simp; omega
      obtain ⟨k2, H7, ha, hap', hst⟩ := app_ok (bytes := 64) (H := H6.set H5.length (.cells [T.str w.key, T.int .u64 w.id, T.str w.val, T.sl k' (encS w.keys)])) (encVs out) [[T.str w.key, T.int .u64 w.id, T.str w.val, T.sl .arg (encS w.keys)]] (sap.set s0 (by simp) _) (by simp; exact sx.len) (by simp) (roomT (by simp -implicitDefEqProofs only [encVs_len, List.length_cons, List.length_nil]; omega))
      simp -implicitDefEqProofs only [op, ef, cl, sq, reduceIte, Int.reduceLT, Int.reduceLE, Int.reduceBEq, Int.reduceBNe, Int.reduceEq, Nat.reduceAdd, Nat.reduceLeDiff, Nat.reduceLT, Nat.reduceEqDiff, S1, vapp] at ha
      simp -implicitDefEqProofs only [encV] at s0
      simp -implicitDefEqProofs only [op, ef, cl, sq, reduceIte, Int.reduceLT, Int.reduceLE, Int.reduceBEq, Int.reduceBNe, Int.reduceEq, Nat.reduceAdd, Nat.reduceLeDiff, Nat.reduceLT, Nat.reduceEqDiff, S1, S2, g9, s0, sl, allV, ha, g33, wsi]
      have n1 : ¬ H5.length = b := by omega
      have n2 : ¬ H5.length = f := by omega
      have n3 : ¬ H5.length = f + 1 := by omega
      have n4 : ¬ H5.length = f + 3 := by omega
      have sap2 := sap.set s0 (by simp) (B.cells [T.str w.key, T.int .u64 w.id, T.str w.val, T.sl k' (encS w.keys)])
      refine ⟨i + 1, by omega, .i ⟨k2, out ++ [setK w .arg], ?_, by simp -implicitDefEqProofs only [op, ef, cl, sq, reduceIte, Int.reduceLT, Int.reduceLE, Int.reduceBEq, Int.reduceBNe, Int.reduceEq, Nat.reduceAdd, Nat.reduceLeDiff, Nat.reduceLT, Nat.reduceEqDiff, S1], hst.ext H (Nat.le_refl _) (sx.set (by omega) _), hst.cells sap2 (by simp -implicitDefEqProofs only [S2, n1, sc0]) (by simp), hst.cells sap2 (by simp -implicitDefEqProofs only [S2, n2, sc1]) (by simp), hst.cells sap2 (by simp -implicitDefEqProofs only [S2, n3, sc2]) (by simp), hst.cells sap2 (by simp -implicitDefEqProofs only [S2, n4, sc3]) (by simp), hap'⟩, ?_⟩
      · rw [take_snoc hv]
        exact mends_snoc _ hout (by simp [mendO, mendOne, hlg, hgo])
      · simp -implicitDefEqProofs only [g0, g1, g6, g31, g32, g71, true_and]; omega
    · simp -implicitDefEqProofs only [op, ef, cl, sq, reduceIte, Int.reduceLT, Int.reduceLE, Int.reduceBEq, Int.reduceBNe, Int.reduceEq, Nat.reduceAdd, Nat.reduceLeDiff, Nat.reduceLT, Nat.reduceEqDiff, S1, S2, g0, g1, g6, g31, g32, g33, hlt, natOf_nat, iad_m, c0, c1, c2, lb, lf, lf1, msU_get hg, iadV hv, encV, hlg]
      refine callB_of _ _ _ _ _ _ _ _ (clone33 v.kk v.keys _ (hn v hvm).1 (hn v hvm).2) ?_
      rintro u H6 ⟨hx6, k', hk', hu⟩
      cases hu
      have s0 : H6[H5.length]? = some (.cells (encV v)) := hx6.get (by simp -implicitDefEqProofs only [S2, encV])
      have sc0 : H6[b]? = some (.cells (msC eU (grs l))) := hx6.get (by simp -implicitDefEqProofs only [S2, lb, c0])
      have sc1 : H6[f]? = some (.map (encK kW es)) := hx6.get (by simp -implicitDefEqProofs only [S2, lf, c1])
      have sc2 : H6[f + 1]? = some (.cells [.map f]) := hx6.get (by simp -implicitDefEqProofs only [S2, lf1, c2])
      have sc3 : H6[f + 3]? = some .dfr := hx6.get (by simp -implicitDefEqProofs only [S2, lf3, c3])
      have sx : Ext H H6 := (hx5.app _).trans hx6
      have sap : Apd H.length H6 kw := (hap.ext ⟨_, rfl⟩).ext hx6
      have sl := glt s0
      have lo : out.length ≤ 1024 := by rw [mends_len _ hout]; simp; omega
      obtain ⟨k2, H7, ha, hap', hst⟩ := app_ok (bytes := 64) (H := H6.set H5.length (.cells [T.str v.key, T.int .u64 v.id, T.str v.val, T.sl k' (encS v.keys)])) (encVs out) [[T.str v.key, T.int .u64 v.id, T.str v.val, T.sl .arg (encS v.keys)]] (sap.set s0 (by simp) _) (by simp; exact sx.len) (by simp) (roomT (by simp -implicitDefEqProofs only [encVs_len, List.length_cons, List.length_nil]; omega))
      simp -implicitDefEqProofs only [op, ef, cl, sq, reduceIte, Int.reduceLT, Int.reduceLE, Int.reduceBEq, Int.reduceBNe, Int.reduceEq, Nat.reduceAdd, Nat.reduceLeDiff, Nat.reduceLT, Nat.reduceEqDiff, S1, vapp] at ha
      simp -implicitDefEqProofs only [encV] at s0
      simp -implicitDefEqProofs only [op, ef, cl, sq, reduceIte, Int.reduceLT, Int.reduceLE, Int.reduceBEq, Int.reduceBNe, Int.reduceEq, Nat.reduceAdd, Nat.reduceLeDiff, Nat.reduceLT, Nat.reduceEqDiff, S1, S2, g9, s0, sl, allV, ha, g33, wsi]
      have n1 : ¬ H5.length = b := by omega
      have n2 : ¬ H5.length = f := by omega
      have n3 : ¬ H5.length = f + 1 := by omega
      have n4 : ¬ H5.length = f + 3 := by omega
      have sap2 := sap.set s0 (by simp) (B.cells [T.str v.key, T.int .u64 v.id, T.str v.val, T.sl k' (encS v.keys)])
      refine ⟨i + 1, by omega, .i ⟨k2, out ++ [setK v .arg], ?_, by simp -implicitDefEqProofs only [op, ef, cl, sq, reduceIte, Int.reduceLT, Int.reduceLE, Int.reduceBEq, Int.reduceBNe, Int.reduceEq, Nat.reduceAdd, Nat.reduceLeDiff, Nat.reduceLT, Nat.reduceEqDiff, S1], hst.ext H (Nat.le_refl _) (sx.set (by omega) _), hst.cells sap2 (by simp -implicitDefEqProofs only [S2, n1, sc0]) (by simp), hst.cells sap2 (by simp -implicitDefEqProofs only [S2, n2, sc1]) (by simp), hst.cells sap2 (by simp -implicitDefEqProofs only [S2, n3, sc2]) (by simp), hst.cells sap2 (by simp -implicitDefEqProofs only [S2, n4, sc3]) (by simp), hap'⟩, ?_⟩
      · rw [take_snoc hv]
        exact mends_snoc _ hout (by simp [mendO, mendOne, hlg])
      · simp -implicitDefEqProofs only [g0, g1, g6, g31, g32, g71, true_and]; omega
  · have hil : i = l.length := by omega
    subst hil
    rw [List.take_length] at hout
    simp -implicitDefEqProofs only [op, ef, cl, sq, reduceIte, Int.reduceLT, Int.reduceLE, Int.reduceBEq, Int.reduceBNe, Int.reduceEq, Nat.reduceAdd, Nat.reduceLeDiff, Nat.reduceLT, Nat.reduceEqDiff, S1, g9, g32, g33, hlt]
    refine endR_r (b := f + 3) (by simp -implicitDefEqProofs only [op, ef, cl, sq, reduceIte, Int.reduceLT, Int.reduceLE, Int.reduceBEq, Int.reduceBNe, Int.reduceEq, Nat.reduceAdd, Nat.reduceLeDiff, Nat.reduceLT, Nat.reduceEqDiff, S1, g71]) c3 ?_
    simp -implicitDefEqProofs only [op, ef, cl, sq, reduceIte, Int.reduceLT, Int.reduceLE, Int.reduceBEq, Int.reduceBNe, Int.reduceEq, Nat.reduceAdd, Nat.reduceLeDiff, Nat.reduceLT, Nat.reduceEqDiff, S1, g9]
    refine ⟨hx5.set (by omega) _, kw, ?_⟩
    simp [mendL, mendE, hf, hout]
end Go.Proofs.Ytobnjpgggocdlaa.Fx
end

/-! text FixN -/
section
namespace Go.Proofs.Ytobnjpgggocdlaa.Fx
open Go.Rmp Go.Proofs.Ytobnjpgggocdlaa.Ir
set_option maxRecDepth 10000
/-- what the first of the wanted of a key says -/
theorem wanted_of {l : List Ver} (hf : Formed l) {v : Ver} (hv : v ∈ l) : ((wants l).find? fun w => decide (w.1 = v.key)).elim 0 (·.2) = if v.id < gr l v.key then gr l v.key else 0 := by
  by_cases h : v.id < gr l v.key
  · have hm : (v.key, gr l v.key) ∈ wants l := by
      unfold wants wants'
      exact List.mem_map.2 ⟨v, by simp [hv, h], rfl⟩
    cases hfi : (wants l).find? fun w => decide (w.1 = v.key) with
    | none => have := List.find?_eq_none.1 hfi _ hm; simp at this
    | some w =>
      have h1 := List.find?_some hfi
      have h2 := List.mem_of_find?_eq_some hfi
      unfold wants wants' at h2
      obtain ⟨u, _, rfl⟩ := List.mem_map.1 h2
      simp -implicitDefEqProofs only [decide_eq_true_eq] at h1
      simp [h, h1]
  · cases hfi : (wants l).find? fun w => decide (w.1 = v.key) with
    | none => simp [h]
    | some w =>
      have h1 := List.find?_some hfi
      have h2 := List.mem_of_find?_eq_some hfi
      unfold wants wants' at h2
      obtain ⟨u, hu, rfl⟩ := List.mem_map.1 h2
      simp -implicitDefEqProofs only [decide_eq_true_eq, List.mem_filter] at h1 hu
      obtain ⟨p, hp, e⟩ := List.getElem_of_mem hu.1
      obtain ⟨q, hq, e'⟩ := List.getElem_of_mem hv
      have := key_one hf (u := u) (w := v) (by rw [List.getElem?_eq_getElem hp, e]) (by rw [List.getElem?_eq_getElem hq, e']) h1.symm
      subst this
      rw [e] at e'; subst e'
      exact absurd hu.2 h
/-- the last of what was found among the places from i on -/
def gotF (got : List Ver) (i : Nat) (k : ByteArray) (n : Nat) : Option Ver := gotOf (got.drop i) k n
theorem gotF_succ {got : List Ver} {i : Nat} {v : Ver} (hv : got[i]? = some v) (k : ByteArray) (n : Nat) : gotF got i k n = if decide (v.key = k) && decide (v.id = n) then some v else gotF got (i + 1) k n := by
  have hi := (List.getElem?_eq_some_iff.1 hv).1
  unfold gotF gotOf
  rw [List.drop_eq_getElem_cons hi, List.find?_cons, (List.getElem?_eq_some_iff.1 hv).2]
  cases decide (v.key = k) && decide (v.id = n) <;> simp
theorem mend17 (k kg : SK) (l got : List Ver) (H : Heap) (hs : Small l) (hn : NilOk l) (hng : NilOk got) (hgl : got.length < 4611686018427387903) : W env (.call 17 [.sl k (encVs l), .sl kg (encVs got)]) H (MendQ l got H) := by
  refine W.fnI rfl rfl rfl ?_
  simp -implicitDefEqProofs only [ir17, op, ef, cl, sq, reduceIte, Int.reduceLT, Int.reduceLE, Int.reduceBEq, Int.reduceBNe, Int.reduceEq, Nat.reduceAdd, Nat.reduceLeDiff, Nat.reduceLT, Nat.reduceEqDiff, S1]
  refine callB_of _ _ _ _ _ _ _ _ (needs10 k l _ hs) ?_
  rintro u H1 ⟨hx1, kn, hu⟩
  cases hu
  by_cases hf : ¬ Formed l
  · have e1 : (((1 : Nat) : Int) != 0) = true := by decide
    have e2 : ((1 : Nat) : Int) = 1 := rfl
    simp -implicitDefEqProofs only [op, ef, cl, sq, reduceIte, Int.reduceLT, Int.reduceLE, Int.reduceBEq, Int.reduceBNe, Int.reduceEq, Nat.reduceAdd, Nat.reduceLeDiff, Nat.reduceLT, Nat.reduceEqDiff, S1, needs, needsE, hf, e1, e2]
    exact ⟨hx1, .nil, by simp [mendL, mendE, hf, encVs]⟩
  have hf := Classical.not_not.1 hf
  have hln := hf.2.1
  have hwl : (wants l).length ≤ 1024 := Nat.le_trans (wants_le l l) hln
  simp -implicitDefEqProofs only [op, ef, cl, sq, reduceIte, Int.reduceLT, Int.reduceLE, Int.reduceBEq, Int.reduceBNe, Int.reduceEq, Nat.reduceAdd, Nat.reduceLeDiff, Nat.reduceLT, Nat.reduceEqDiff, S1, needs, needsE, hf]
  refine W.loopI (fun (i : Nat) R H' => At H' (fun H' => ∃ kw out, mends (mendO l got) (l.take i) = some out ∧ R 8 = .sl kw (encVs out) ∧ Ext H H' ∧ Apd H.length H' kw) ∧ R 0 = .sl k (encVs l) ∧ R 1 = .sl kg (encVs got) ∧ R 6 = .sl kn (encWs (wants l)) ∧ R 9 = .int .i64 i ∧ i ≤ l.length) (fun i => l.length - i) 0 ⟨.i ⟨.nil, [], rfl, rfl, hx1, apd_nil _ _⟩, rfl, rfl, rfl, rfl, Nat.zero_le _⟩ ?_
  rintro i R H5 ⟨⟨kw, out, hout, g8, hx5, hap⟩, g0, g1, g6, g9, hi⟩
  by_cases hlt : i < l.length
  · obtain ⟨v, hv⟩ := getV hlt
    have hvm := List.mem_of_getElem? hv
    have wsi := wrap_succ (show i < 9223372036854775807 by omega)
    have wl : IntKind.i64.wrap ((got.length : Int) - 1) = (got.length : Int) - 1 := wrap64 (by omega)
    simp -implicitDefEqProofs only [op, ef, cl, sq, reduceIte, Int.reduceLT, Int.reduceLE, Int.reduceBEq, Int.reduceBNe, Int.reduceEq, Nat.reduceAdd, Nat.reduceLeDiff, Nat.reduceLT, Nat.reduceEqDiff, S1, g0, g1, g6, g9, encVs_len, hlt, iadV hv, encV]
    refine callB_of _ _ _ _ _ _ _ _ (wanted34 kn (wants l) v.key _ (by omega)) ?_
    rintro u H6 ⟨hu, rfl⟩
    rw [wanted_of hf hvm] at hu
    cases hu
    generalize hid : (if v.id < gr l v.key then gr l v.key else 0) = id
    simp -implicitDefEqProofs only [op, ef, cl, sq, reduceIte, Int.reduceLT, Int.reduceLE, Int.reduceBEq, Int.reduceBNe, Int.reduceEq, Nat.reduceAdd, Nat.reduceLeDiff, Nat.reduceLT, Nat.reduceEqDiff, S1, S2, g0, g1, g6, g9, encVs_len, iadV hv, encV, wl]
    refine W.loopI (fun (x : Nat) R H' => At H' (fun H' => ∃ w fl, H'[H6.length]? = some (.cells (encV w)) ∧ R 12 = .bool fl ∧ Ext H H' ∧ Apd H.length H' kw ∧ (if id = 0 then fl = true ∧ w = v else match gotF got x v.key id with | .none => fl = false | some u => fl = true ∧ w = u)) ∧ R 0 = .sl k (encVs l) ∧ R 1 = .sl kg (encVs got) ∧ R 6 = .sl kn (encWs (wants l)) ∧ R 8 = .sl kw (encVs out) ∧ R 9 = .int .i64 i ∧ R 10 = .int .u64 id ∧ R 11 = .ptr H6.length 0 ∧ R 13 = .int .i64 ((x : Int) - 1) ∧ x ≤ got.length) (fun x => x) got.length ?_ ?_
    · refine ⟨.i ⟨v, decide (id = 0), g_tail rfl, rfl, hx5.app _, hap.ext ⟨_, rfl⟩, ?_⟩, ?_⟩
      · by_cases h : id = 0
        · simp [h]
        · simp [h, gotF, gotOf]
      · simp -implicitDefEqProofs only [op, ef, cl, sq, reduceIte, Int.reduceLT, Int.reduceLE, Int.reduceBEq, Int.reduceBNe, Int.reduceEq, Nat.reduceAdd, Nat.reduceLeDiff, Nat.reduceLT, Nat.reduceEqDiff, S1, g0, g1, g6, g8, g9]
        exact Nat.le_refl _
    rintro x R H7 ⟨⟨w, fl, c0, d12, hx7, hap7, hwf⟩, d0, d1, d6, d8, d9, d10, d11, d13, hx⟩
    have lc := glt c0
    cases x with
    | succ j =>
      obtain ⟨u, hu⟩ := getV (l := got) (i := j) (by omega)
      have e : (((j + 1 : Nat) : Int) - 1) = (j : Int) := by omega
      have e2 : decide ((0 : Int) ≤ (j : Int)) = true := by simp
      have w1 : IntKind.i64.wrap ((j : Int) - 1) = (j : Int) - 1 := wrap64 (by omega)
      rw [e] at d13
      have hgs := gotF_succ hu v.key id
      by_cases hid0 : id = 0
      · simp -implicitDefEqProofs only [op, ef, cl, sq, reduceIte, Int.reduceLT, Int.reduceLE, Int.reduceBEq, Int.reduceBNe, Int.reduceEq, Nat.reduceAdd, Nat.reduceLeDiff, Nat.reduceLT, Nat.reduceEqDiff, S1, S2, d0, d1, d6, d8, d9, d10, d11, d13, e2, hid0, iadV hu, iadV hv, encV, w1]
        refine ⟨j, by omega, .i ⟨w, fl, c0, d12, hx7, hap7, by simpa [hid0] using hwf⟩, rfl, by omega⟩
      simp -implicitDefEqProofs only [hid0, if_false] at hwf
      by_cases hk : u.key = v.key
      · by_cases hi2 : u.id = id
        · simp -implicitDefEqProofs only [op, ef, cl, sq, reduceIte, Int.reduceLT, Int.reduceLE, Int.reduceBEq, Int.reduceBNe, Int.reduceEq, Nat.reduceAdd, Nat.reduceLeDiff, Nat.reduceLT, Nat.reduceEqDiff, S1, S2, d0, d1, d6, d8, d9, d10, d11, d13, e2, hid0, iadV hu, iadV hv, encV, w1, hk, hi2, lc, c0]
          refine ⟨j, by omega, .i ⟨u, true, by rw [g_eq lc]; simp -implicitDefEqProofs only [encV, hk, hi2], rfl, hx7.set hx5.len _, hap7.set c0 (by simp) _, ?_⟩, rfl, by omega⟩
          simp -implicitDefEqProofs only [hid0, if_false, hgs, hk, hi2]; simp
        · simp -implicitDefEqProofs only [op, ef, cl, sq, reduceIte, Int.reduceLT, Int.reduceLE, Int.reduceBEq, Int.reduceBNe, Int.reduceEq, Nat.reduceAdd, Nat.reduceLeDiff, Nat.reduceLT, Nat.reduceEqDiff, S1, S2, d0, d1, d6, d8, d9, d10, d11, d13, e2, hid0, iadV hu, iadV hv, encV, w1, hk, hi2]
          refine ⟨j, by omega, .i ⟨w, fl, c0, d12, hx7, hap7, ?_⟩, rfl, by omega⟩
          simp -implicitDefEqProofs only [hid0, if_false, hgs, hk, hi2]; simpa using hwf
      · simp -implicitDefEqProofs only [op, ef, cl, sq, reduceIte, Int.reduceLT, Int.reduceLE, Int.reduceBEq, Int.reduceBNe, Int.reduceEq, Nat.reduceAdd, Nat.reduceLeDiff, Nat.reduceLT, Nat.reduceEqDiff, S1, S2, d0, d1, d6, d8, d9, d10, d11, d13, e2, hid0, iadV hu, iadV hv, encV, w1, hk]
        refine ⟨j, by omega, .i ⟨w, fl, c0, d12, hx7, hap7, ?_⟩, rfl, by omega⟩
        simp -implicitDefEqProofs only [hid0, if_false, hgs, hk]; simpa using hwf
    | zero =>
      have e : (((0 : Nat) : Int) - 1) = -1 := by decide
      have e2 : decide ((0 : Int) ≤ -1) = false := by decide
      rw [e] at d13
      have hg0 : gotF got 0 v.key id = gotOf got v.key id := by simp [gotF]
      rw [hg0] at hwf
      cases fl with
      | false =>
        simp -implicitDefEqProofs only [op, ef, cl, sq, reduceIte, Int.reduceLT, Int.reduceLE, Int.reduceBEq, Int.reduceBNe, Int.reduceEq, Nat.reduceAdd, Nat.reduceLeDiff, Nat.reduceLT, Nat.reduceEqDiff, S1, S2, d13, e2, d12]
        refine ⟨hx7, .nil, ?_⟩
        have hid0 : ¬ id = 0 := fun h => by simp [h] at hwf
        simp -implicitDefEqProofs only [hid0, if_false] at hwf
        have hlg : v.id < gr l v.key := Classical.byContradiction fun h => hid0 (by rw [← hid]; simp [h])
        simp -implicitDefEqProofs only [hlg, if_true] at hid
        have hgo : gotOf got v.key id = Option.none := by
          cases hgo : gotOf got v.key id with
          | none => rfl
          | some u => rw [hgo] at hwf; simp at hwf
        have hno := mends_no (mendO l got) hvm (by rw [mendO, mendOne, if_pos hlg, hid, hgo]; rfl)
        simp [mendL, mendE, hf, hno, encVs]
      | true =>
        have hw : mendOne l got v = some w ∧ KOk w.kk w.keys ∧ w.keys.length < 1099511627776 := by
          by_cases hlg : v.id < gr l v.key
          · simp -implicitDefEqProofs only [hlg, if_true] at hid
            have hid0 : ¬ id = 0 := by omega
            simp -implicitDefEqProofs only [hid0, if_false] at hwf
            cases hgo : gotOf got v.key id with
            | none => rw [hgo] at hwf; simp at hwf
            | some u =>
              rw [hgo] at hwf
              simp -implicitDefEqProofs only [true_and] at hwf; subst hwf
              exact ⟨by rw [mendOne, if_pos hlg, hid]; exact hgo, hng _ (List.mem_of_find?_eq_some hgo)⟩
          · simp -implicitDefEqProofs only [hlg, if_false] at hid
            subst hid
            simp -implicitDefEqProofs only [if_true, true_and] at hwf
            subst hwf
            exact ⟨by simp [mendOne, hlg], hn _ hvm⟩
        simp -implicitDefEqProofs only [encV] at c0
        simp -implicitDefEqProofs only [op, ef, cl, sq, reduceIte, Int.reduceLT, Int.reduceLE, Int.reduceBEq, Int.reduceBNe, Int.reduceEq, Nat.reduceAdd, Nat.reduceLeDiff, Nat.reduceLT, Nat.reduceEqDiff, S1, S2, d13, e2, d12, d11, c0]
        refine callB_of _ _ _ _ _ _ _ _ (own35 w _ hw.2.2) ?_
        rintro u H8 ⟨hx8, k', hk', hu⟩
        cases hu
        have lo : out.length ≤ 1024 := by rw [mends_len _ hout]; simp; omega
        obtain ⟨k2, H9, ha, hap', hst⟩ := app_ok (bytes := 64) (encVs out) [[T.str w.key, T.int .u64 w.id, T.str w.val, T.sl .arg (encS w.keys)]] (hap7.ext hx8) (hx7.trans hx8).len (by simp) (roomT (by simp -implicitDefEqProofs only [encVs_len, List.length_cons, List.length_nil]; omega))
        simp -implicitDefEqProofs only [op, ef, cl, sq, reduceIte, Int.reduceLT, Int.reduceLE, Int.reduceBEq, Int.reduceBNe, Int.reduceEq, Nat.reduceAdd, Nat.reduceLeDiff, Nat.reduceLT, Nat.reduceEqDiff, S1, vapp] at ha
        simp -implicitDefEqProofs only [op, ef, cl, sq, reduceIte, Int.reduceLT, Int.reduceLE, Int.reduceBEq, Int.reduceBNe, Int.reduceEq, Nat.reduceAdd, Nat.reduceLeDiff, Nat.reduceLT, Nat.reduceEqDiff, S1, S2, setK, encV, d8, d9, allV, ha, wsi]
        refine ⟨i + 1, by omega, .i ⟨k2, out ++ [setK w .arg], ?_, by simp -implicitDefEqProofs only [op, ef, cl, sq, reduceIte, Int.reduceLT, Int.reduceLE, Int.reduceBEq, Int.reduceBNe, Int.reduceEq, Nat.reduceAdd, Nat.reduceLeDiff, Nat.reduceLT, Nat.reduceEqDiff, S1, setK], hst.ext H (Nat.le_refl _) (hx7.trans hx8), hap'⟩, ?_⟩
        · rw [take_snoc hv]
          exact mends_snoc _ hout (by simp [mendO, hw.1])
        · simp -implicitDefEqProofs only [d0, d1, d6, true_and]; omega
  · have hil : i = l.length := by omega
    subst hil
    rw [List.take_length] at hout
    simp -implicitDefEqProofs only [op, ef, cl, sq, reduceIte, Int.reduceLT, Int.reduceLE, Int.reduceBEq, Int.reduceBNe, Int.reduceEq, Nat.reduceAdd, Nat.reduceLeDiff, Nat.reduceLT, Nat.reduceEqDiff, S1, g0, g8, g9, encVs_len, hlt]
    exact ⟨hx5, kw, by simp [mendL, mendE, hf, hout]⟩
end Go.Proofs.Ytobnjpgggocdlaa.Fx
end

/-! text FixO -/
section
namespace Go.Proofs.Ytobnjpgggocdlaa.Fx
open Go.Rmp Go.Proofs.Ytobnjpgggocdlaa.Ir
set_option maxRecDepth 10000
/-! two lists -/
def core (v : Ver) : ByteArray × Nat × ByteArray × List ByteArray := (v.key, v.id, v.val, v.keys)
def Same (a b : List Ver) : Prop := a.map core = b.map core
theorem core_eq {u v : Ver} : core u = core v ↔ u.key = v.key ∧ u.id = v.id ∧ u.val = v.val ∧ u.keys = v.keys := by simp [core]
open Classical in
noncomputable def sameB (a b : List Ver) : Bool := decide (Same a b)
theorem same_t {a b : List Ver} (h : Same a b) : sameB a b = true := by simp [sameB, h]
theorem same_f {a b : List Ver} (h : ¬ Same a b) : sameB a b = false := by simp [sameB, h]
theorem same18 (k k' : SK) (a b : List Ver) (H : Heap) (ha : a.length < 4611686018427387903) (hk : ∀ v ∈ a, v.keys.length < 4611686018427387903) : W env (.call 18 [.sl k (encVs a), .sl k' (encVs b)]) H (Ret (.bool (sameB a b)) H) := by
  refine W.fnI rfl rfl rfl ?_
  by_cases hab : a.length = b.length
  · simp -implicitDefEqProofs only [ir18, op, ef, cl, sq, reduceIte, Int.reduceLT, Int.reduceLE, Int.reduceBEq, Int.reduceBNe, Int.reduceEq, Nat.reduceAdd, Nat.reduceLeDiff, Nat.reduceLT, Nat.reduceEqDiff, S1, encVs_len, hab]
    refine W.loopI (fun (i : Nat) R H' => H' = H ∧ R 0 = .sl k (encVs a) ∧ R 1 = .sl k' (encVs b) ∧ R 5 = .int .i64 i ∧ i ≤ a.length ∧ ∀ (p : Nat) u v, p < i → a[p]? = some u → b[p]? = some v → core u = core v) (fun i => a.length - i) 0 ⟨rfl, rfl, rfl, rfl, Nat.zero_le _, fun p u v h => by omega⟩ ?_
    rintro i R _ ⟨rfl, h0, h1, h5, hi, hg⟩
    by_cases hlt : i < a.length
    · obtain ⟨u, hu⟩ := getV hlt
      obtain ⟨v, hv⟩ := getV (l := b) (i := i) (by omega)
      have wsi := wrap_succ (show i < 9223372036854775807 by omega)
      have bad : core u ≠ core v → ¬ Same a b := fun hne hs => hne (by
        have : (a.map core)[i]? = (b.map core)[i]? := by rw [hs]
        simpa [hu, hv] using this)
      by_cases e1 : u.key = v.key
      · by_cases e2 : u.id = v.id
        · by_cases e3 : u.val = v.val
          · simp -implicitDefEqProofs only [op, ef, cl, sq, reduceIte, Int.reduceLT, Int.reduceLE, Int.reduceBEq, Int.reduceBNe, Int.reduceEq, Nat.reduceAdd, Nat.reduceLeDiff, Nat.reduceLT, Nat.reduceEqDiff, S1, h0, h1, h5, encVs_len, hlt, iadV hu, iadV hv, encV, e1, e2, e3]
            refine callB_of _ _ _ _ _ _ _ _ (eq36 u.kk v.kk u.keys v.keys _ (by have := hk u (List.mem_of_getElem? hu); omega)) ?_
            rintro w H4 ⟨hw, rfl⟩
            cases hw
            by_cases e4 : u.keys = v.keys
            · simp -implicitDefEqProofs only [op, ef, cl, sq, reduceIte, Int.reduceLT, Int.reduceLE, Int.reduceBEq, Int.reduceBNe, Int.reduceEq, Nat.reduceAdd, Nat.reduceLeDiff, Nat.reduceLT, Nat.reduceEqDiff, S1, h0, h1, h5, e4, wsi]
              refine ⟨i + 1, by omega, rfl, by omega, fun p x y hp hx hy => ?_⟩
              by_cases e : p = i
              · subst e; rw [hu] at hx; rw [hv] at hy; cases hx; cases hy; exact core_eq.2 ⟨e1, e2, e3, e4⟩
              · exact hg p x y (by omega) hx hy
            · have hb := bad (by rw [ne_eq, core_eq]; simp [e4])
              simp -implicitDefEqProofs only [op, ef, cl, sq, reduceIte, Int.reduceLT, Int.reduceLE, Int.reduceBEq, Int.reduceBNe, Int.reduceEq, Nat.reduceAdd, Nat.reduceLeDiff, Nat.reduceLT, Nat.reduceEqDiff, S1, e4, same_f hb]
          · have hb := bad (by rw [ne_eq, core_eq]; simp [e3])
            simp -implicitDefEqProofs only [op, ef, cl, sq, reduceIte, Int.reduceLT, Int.reduceLE, Int.reduceBEq, Int.reduceBNe, Int.reduceEq, Nat.reduceAdd, Nat.reduceLeDiff, Nat.reduceLT, Nat.reduceEqDiff, S1, h0, h1, h5, encVs_len, hlt, iadV hu, iadV hv, encV, e1, e2, e3, same_f hb]
        · have hb := bad (by rw [ne_eq, core_eq]; simp [e2])
          simp -implicitDefEqProofs only [op, ef, cl, sq, reduceIte, Int.reduceLT, Int.reduceLE, Int.reduceBEq, Int.reduceBNe, Int.reduceEq, Nat.reduceAdd, Nat.reduceLeDiff, Nat.reduceLT, Nat.reduceEqDiff, S1, h0, h1, h5, encVs_len, hlt, iadV hu, iadV hv, encV, e1, e2, same_f hb]
      · have hb := bad (by rw [ne_eq, core_eq]; simp [e1])
        simp -implicitDefEqProofs only [op, ef, cl, sq, reduceIte, Int.reduceLT, Int.reduceLE, Int.reduceBEq, Int.reduceBNe, Int.reduceEq, Nat.reduceAdd, Nat.reduceLeDiff, Nat.reduceLT, Nat.reduceEqDiff, S1, h0, h1, h5, encVs_len, hlt, iadV hu, iadV hv, encV, e1, same_f hb]
    · have hb : Same a b := List.ext_getElem? fun p => by
        by_cases hp : p < a.length
        · obtain ⟨u, hu⟩ := getV hp
          obtain ⟨v, hv⟩ := getV (l := b) (i := p) (by omega)
          simp [hu, hv, hg p u v (by omega) hu hv]
        · rw [List.getElem?_eq_none (by simp; omega), List.getElem?_eq_none (by simp; omega)]
      simp -implicitDefEqProofs only [op, ef, cl, sq, reduceIte, Int.reduceLT, Int.reduceLE, Int.reduceBEq, Int.reduceBNe, Int.reduceEq, Nat.reduceAdd, Nat.reduceLeDiff, Nat.reduceLT, Nat.reduceEqDiff, S1, h0, h1, h5, encVs_len, hlt, same_t hb]
  · have hb : ¬ Same a b := fun h => hab (by have := congrArg List.length h; simpa using this)
    simp -implicitDefEqProofs only [ir18, op, ef, cl, sq, reduceIte, Int.reduceLT, Int.reduceLE, Int.reduceBEq, Int.reduceBNe, Int.reduceEq, Nat.reduceAdd, Nat.reduceLeDiff, Nat.reduceLT, Nat.reduceEqDiff, S1, encVs_len, hab, same_f hb]
/-! arguments read -/
theorem hasS {B : Nat} {t : T} (h : HasSh B .str t) : ∃ s, t = .str s ∧ s.size ≤ B := by
  cases h with | str h hB => exact ⟨_, rfl, hB⟩
theorem hasU {B : Nat} {t : T} (h : HasSh B (.int .u64) t) : ∃ n : Nat, t = .int .u64 n ∧ n < 18446744073709551616 := by
  cases h with | int h => 
    rename_i n
    have hx : 0 ≤ n ∧ n ≤ 18446744073709551615 := by simpa [Lit.wf, IntKind.min, IntKind.max, IntKind.signed, IntKind.bits] using h
    exact ⟨n.toNat, by rw [Int.toNat_of_nonneg hx.1], by omega⟩
theorem map_of {α : Type} {P : α → Prop} (enc : α → List T) (es : List (List T)) (h : ∀ c ∈ es, ∃ x, c = enc x ∧ P x) : ∃ l : List α, es = l.map enc ∧ ∀ x ∈ l, P x := by
  induction es with
  | nil => exact ⟨[], rfl, by simp⟩
  | cons c es ih =>
    obtain ⟨l, rfl, hl⟩ := ih (fun c hc => h c (List.mem_cons_of_mem _ hc))
    obtain ⟨x, rfl, hx⟩ := h _ List.mem_cons_self
    exact ⟨x :: l, rfl, fun y hy => by rcases List.mem_cons.1 hy with rfl | hy; exact hx; exact hl y hy⟩
theorem hasSs {B : Nat} {t : T} (h : HasSh B (.sl [.str]) t) : ∃ k l, t = .sl k (encS l) ∧ KOk k l ∧ l.length ≤ B := by
  cases h with
  | nil => exact ⟨.nil, [], rfl, fun _ => rfl, Nat.zero_le _⟩
  | sl hl hB h0 h =>
    rename_i es
    obtain ⟨l, rfl, -⟩ := map_of (P := fun _ => True) (fun s : ByteArray => [T.str s]) es fun c hc => by
      have hc1 := h0 c hc
      match c, hc1 with
      | [a], _ => obtain ⟨s, rfl, _⟩ := hasS (h _ hc 0 .str a rfl rfl); exact ⟨s, rfl, trivial⟩
    exact ⟨.arg, l, rfl, fun h => (by cases h), by simpa using hB⟩
theorem hasVs {B : Nat} {t : T} (h : HasSh B (.sl [.str, .int .u64, .str, .sl [.str]]) t) : ∃ k l, t = .sl k (encVs l) ∧ l.length ≤ B ∧ ∀ v ∈ l, KOk v.kk v.keys ∧ v.keys.length ≤ B := by
  cases h with
  | nil => exact ⟨.nil, [], rfl, Nat.zero_le _, by simp⟩
  | sl hl hB h0 h =>
    rename_i es
    obtain ⟨l, rfl, hP⟩ := map_of (P := fun v : Ver => KOk v.kk v.keys ∧ v.keys.length ≤ B) encV es fun c hc => by
      have hc1 := h0 c hc
      match c, hc1 with
      | [a, b, c, d], _ =>
        obtain ⟨s, rfl, _⟩ := hasS (h _ hc 0 .str a rfl rfl)
        obtain ⟨n, rfl, _⟩ := hasU (h _ hc 1 (.int .u64) b rfl rfl)
        obtain ⟨s', rfl, _⟩ := hasS (h _ hc 2 .str c rfl rfl)
        obtain ⟨k, l, rfl, hk, hl⟩ := hasSs (h _ hc 3 (.sl [.str]) d rfl rfl)
        exact ⟨⟨s, n, s', k, l⟩, rfl, hk, hl⟩
    exact ⟨.arg, l, rfl, by simpa using hB, hP⟩
end Go.Proofs.Ytobnjpgggocdlaa.Fx
end

/-! text FixP -/
section
namespace Go.Proofs.Ytobnjpgggocdlaa.Fx
open Go.Rmp Go.Proofs.Ytobnjpgggocdlaa.Ir
set_option maxRecDepth 10000
theorem version27 (s : ByteArray) (n : Nat) (k : SK) (l : List ByteArray) (H : Heap) : W env (.call 27 [.str s, .int .u64 n, .sl k (encS l)]) H (RetG (.agg (encV ⟨s, n, if n = 0 then ⟨#[]⟩ else ⟨#[118]⟩, k, l⟩)) H) := by
  refine W.fnI rfl rfl rfl ?_
  have q1 : H.length < H.length + 1 := by omega
  by_cases h : n = 0
  · simp -implicitDefEqProofs only [ir27, op, ef, cl, sq, reduceIte, Int.reduceLT, Int.reduceLE, Int.reduceBEq, Int.reduceBNe, Int.reduceEq, Nat.reduceAdd, Nat.reduceLeDiff, Nat.reduceLT, Nat.reduceEqDiff, S1, S2, S3, q1, h, encV]
    exact ⟨rfl, (Ext.rfl'.app _).app _⟩
  · simp -implicitDefEqProofs only [ir27, op, ef, cl, sq, reduceIte, Int.reduceLT, Int.reduceLE, Int.reduceBEq, Int.reduceBNe, Int.reduceEq, Nat.reduceAdd, Nat.reduceLeDiff, Nat.reduceLT, Nat.reduceEqDiff, S1, S2, S3, q1, h, encV]
    exact ⟨rfl, (Ext.rfl'.app _).app _⟩
def tA : ByteArray := ⟨#[97]⟩
def tB : ByteArray := ⟨#[98]⟩
def tC : ByteArray := ⟨#[99]⟩
def v1 : Ver := ⟨tA, 65536, ⟨#[118]⟩, .arg, [tA, tB]⟩
def v2 : Ver := ⟨tB, 131072, ⟨#[118]⟩, .arg, [tB, tC]⟩
def v3 : Ver := ⟨tC, 0, ⟨#[]⟩, .arg, []⟩
def v4 : Ver := ⟨tC, 131072, ⟨#[118]⟩, .arg, [tB, tC]⟩
theorem ab : strLt tA tB = true := by simp [strLt, tA, tB, Go.ByteArray.toList_eq, Op.bytesLess]
theorem bc : strLt tB tC = true := by simp [strLt, tB, tC, Go.ByteArray.toList_eq, Op.bytesLess]
theorem nab : tA ≠ tB := by simp [tA, tB]
theorem nac : tA ≠ tC := by simp [tA, tC]
theorem nbc : tB ≠ tC := by simp [tB, tC]
theorem f_iff (l : List Ver) : Formed l ↔ 1 ≤ l.length ∧ l.length ≤ 1024 ∧ (∀ v ∈ l, may v = true) ∧ ∀ i k : Nat, ∀ u v, k < i → l[k]? = some u → l[i]? = some v → ok2 u v = true := by
  constructor
  · rintro ⟨h1, h2, h3⟩
    refine ⟨h1, h2, fun v hv => ?_, fun i k u v hki hu hv => ((h3 i (List.getElem?_eq_some_iff.1 hv).1) v hv).2 k u hki hu⟩
    obtain ⟨i, hi, e⟩ := List.getElem_of_mem hv
    exact ((h3 i hi) v (by rw [List.getElem?_eq_getElem hi, e])).1
  · rintro ⟨h1, h2, h3, h4⟩
    exact ⟨h1, h2, fun i hi v hv => ⟨h3 v (List.mem_of_getElem? hv), fun k u hk hu => h4 i k u v hk hu hv⟩⟩
theorem m1 : may v1 = true := by simp [may, v1, rises, ab, memB]
theorem m2 : may v2 = true := by simp [may, v2, rises, bc, memB]
theorem m3 : may v3 = true := by simp [may, v3]
theorem m4 : may v4 = true := by simp [may, v4, rises, bc, memB]
theorem f3 (x y z : Ver) (hx : may x = true) (hy : may y = true) (hz : may z = true) (h1 : ok2 x y = true) (h2 : ok2 x z = true) (h3 : ok2 y z = true) : Formed [x, y, z] := by
  rw [f_iff]
  refine ⟨by simp, by simp, by simp [hx, hy, hz], fun i k u v hki hu hv => ?_⟩
  match i, k, hki with
  | 0, k, h => omega
  | 1, 0, _ => simp at hu hv; subst hu; subst hv; exact h1
  | 2, 0, _ => simp at hu hv; subst hu; subst hv; exact h2
  | 2, 1, _ => simp at hu hv; subst hu; subst hv; exact h3
  | n + 3, _, _ => simp at hv
def kL : List Ver := [v1, v2, v3]
def kM : List Ver := [v1, v2, v4]
theorem fL : Formed kL := f3 _ _ _ m1 m2 m3 (by simp [ok2, v1, v2, nab]) (by simp [ok2, v1, v3, nac]) (by simp [ok2, v2, v3, nbc])
theorem fM : Formed kM := f3 _ _ _ m1 m2 m4 (by simp [ok2, v1, v2, nab]) (by simp [ok2, v1, v4, nac]) (by simp [ok2, v2, v4, nbc])
theorem f0 : ¬ Formed [] := fun h => by have := h.1; simp at this
theorem grA : gr kL tA = 65536 := by simp [gr, kL, v1, v2, v3, memB, nab, nac, nbc, nab.symm, nac.symm, nbc.symm]
theorem grB : gr kL tB = 131072 := by simp [gr, kL, v1, v2, v3, memB, nab, nac, nbc, nab.symm, nac.symm, nbc.symm]
theorem grC : gr kL tC = 131072 := by simp [gr, kL, v1, v2, v3, memB, nab, nac, nbc, nab.symm, nac.symm, nbc.symm]
theorem wL : wants kL = [(tC, 131072)] := by
  unfold wants wants'
  have a := grA; have b := grB; have c := grC
  simp -implicitDefEqProofs only [kL, v1, v2, v3] at a b c ⊢
  simp [List.filter_cons, a, b, c]
theorem wM : wants kM = [] := by
  rw [wants_nil]
  simp [kM, v1, v2, v4, memB, nab, nac, nbc, nab.symm, nac.symm, nbc.symm]
theorem needsL : needs kL = [(tC, 131072)] := by rw [needs, if_pos fL, wL]
theorem needsEL : needsE kL = 0 := by rw [needsE, if_pos fL]
theorem o1 (got : List Ver) : mendO kL got v1 = some v1 := by
  have a := grA
  simp [mendO, mendOne, v1, setK, a]
theorem o2 (got : List Ver) : mendO kL got v2 = some v2 := by
  have a := grB
  simp [mendO, mendOne, v2, setK, a]
theorem o3 (got : List Ver) : mendO kL got v3 = (gotOf got tC 131072).map (setK · .arg) := by
  have a := grC
  simp [mendO, mendOne, v3, a]
theorem ml4 : mendL kL [v4] = kM ∧ mendE kL [v4] = 0 := by
  have : mends (mendO kL [v4]) kL = some kM := by
    show mends (mendO kL [v4]) [v1, v2, v3] = _
    simp [mends, o1, o2, o3, gotOf, v4, setK, kM]
  simp [mendL, mendE, fL, this]
theorem ml0 : mendL kL [] = [] ∧ mendE kL [] = 110 := by
  have : mends (mendO kL []) kL = Option.none := by
    show mends (mendO kL []) [v1, v2, v3] = _
    simp [mends, o1, o2, o3, gotOf]
  simp [mendL, mendE, fL, this]
theorem cutL : cutB kL = false := by simp [cutB, wL]
theorem cutM : cutB kM = true := by simp [cutB, wM, formed_t fM]
theorem sL : Small kL := ⟨by simp [kL], by simp [kL, v1, v2, v3]⟩
theorem sM : Small kM := ⟨by simp [kM], by simp [kM, v1, v2, v4]⟩
theorem nL : NilOk kL := by simp [NilOk, kL, v1, v2, v3, KOk]
theorem n4 : NilOk [v4] := by simp [NilOk, v4, KOk]
theorem ev1 (k : SK) : encV ⟨⟨#[97]⟩, 65536, if (65536 : Nat) = 0 then ⟨#[]⟩ else ⟨#[118]⟩, k, [⟨#[97]⟩, ⟨#[98]⟩]⟩ = encV (setK v1 k) := rfl
theorem ev2 (k : SK) : encV ⟨⟨#[98]⟩, 131072, if (131072 : Nat) = 0 then ⟨#[]⟩ else ⟨#[118]⟩, k, [⟨#[98]⟩, ⟨#[99]⟩]⟩ = encV (setK v2 k) := rfl
theorem ev3 (k : SK) : encV ⟨⟨#[99]⟩, 0, if (0 : Nat) = 0 then ⟨#[]⟩ else ⟨#[118]⟩, k, []⟩ = encV (setK v3 k) := rfl
theorem ev4 (k : SK) : encV ⟨⟨#[99]⟩, 131072, if (131072 : Nat) = 0 then ⟨#[]⟩ else ⟨#[118]⟩, k, [⟨#[98]⟩, ⟨#[99]⟩]⟩ = encV (setK v4 k) := rfl
theorem known11 (H : Heap) : W env (.call 11 []) H (RetG (.bool true) H) := by
  refine W.fnI rfl rfl rfl ?_
  simp -implicitDefEqProofs only [ir11, op, ef, cl, sq, reduceIte, Int.reduceLT, Int.reduceLE, Int.reduceBEq, Int.reduceBNe, Int.reduceEq, Nat.reduceAdd, Nat.reduceLeDiff, Nat.reduceLT, Nat.reduceEqDiff, S1]
  refine callB_of _ _ _ _ _ _ _ _ (version27 ⟨#[97]⟩ 65536 .full [⟨#[97]⟩, ⟨#[98]⟩] _) ?_
  rintro u H1 ⟨hu, hx1⟩
  rw [ev1] at hu
  cases hu
  simp -implicitDefEqProofs only [op, ef, cl, sq, reduceIte, Int.reduceLT, Int.reduceLE, Int.reduceBEq, Int.reduceBNe, Int.reduceEq, Nat.reduceAdd, Nat.reduceLeDiff, Nat.reduceLT, Nat.reduceEqDiff, S1]
  refine callB_of _ _ _ _ _ _ _ _ (version27 ⟨#[98]⟩ 131072 .full [⟨#[98]⟩, ⟨#[99]⟩] _) ?_
  rintro u H2 ⟨hu, hx2⟩
  rw [ev2] at hu
  cases hu
  simp -implicitDefEqProofs only [op, ef, cl, sq, reduceIte, Int.reduceLT, Int.reduceLE, Int.reduceBEq, Int.reduceBNe, Int.reduceEq, Nat.reduceAdd, Nat.reduceLeDiff, Nat.reduceLT, Nat.reduceEqDiff, S1]
  refine callB_of _ _ _ _ _ _ _ _ (version27 ⟨#[99]⟩ 0 .nil [] _) ?_
  rintro u H3 ⟨hu, hx3⟩
  rw [ev3] at hu
  cases hu
  have hx : Ext H H3 := (Ext.trans hx1 hx2).trans hx3
  simp -implicitDefEqProofs only [op, ef, cl, sq, reduceIte, Int.reduceLT, Int.reduceLE, Int.reduceBEq, Int.reduceBNe, Int.reduceEq, Nat.reduceAdd, Nat.reduceLeDiff, Nat.reduceLT, Nat.reduceEqDiff, S1, encV, setK]
  refine callB_of _ _ _ _ _ _ _ _ (needs9 .full kL _ sL) ?_
  rintro u H4 ⟨hx4, kn, hu⟩
  rw [needsL, needsEL] at hu
  cases hu
  simp -implicitDefEqProofs only [op, ef, cl, sq, reduceIte, Int.reduceLT, Int.reduceLE, Int.reduceBEq, Int.reduceBNe, Int.reduceEq, Nat.reduceAdd, Nat.reduceLeDiff, Nat.reduceLT, Nat.reduceEqDiff, S1]
  refine callB_of _ _ _ _ _ _ _ _ (version27 ⟨#[99]⟩ 131072 .full [⟨#[98]⟩, ⟨#[99]⟩] _) ?_
  rintro u H5 ⟨hu, hx5⟩
  rw [ev4] at hu
  cases hu
  have hx5 : Ext H4 H5 := hx5
  simp -implicitDefEqProofs only [op, ef, cl, sq, reduceIte, Int.reduceLT, Int.reduceLE, Int.reduceBEq, Int.reduceBNe, Int.reduceEq, Nat.reduceAdd, Nat.reduceLeDiff, Nat.reduceLT, Nat.reduceEqDiff, S1, encV, setK]
  refine callB_of _ _ _ _ _ _ _ _ (mend16 .full .full kL [v4] _ sL nL n4 (by simp)) ?_
  rintro u H6 ⟨hx6, km, hu⟩
  rw [ml4.1, ml4.2] at hu
  cases hu
  simp -implicitDefEqProofs only [op, ef, cl, sq, reduceIte, Int.reduceLT, Int.reduceLE, Int.reduceBEq, Int.reduceBNe, Int.reduceEq, Nat.reduceAdd, Nat.reduceLeDiff, Nat.reduceLT, Nat.reduceEqDiff, S1]
  refine callB_of _ _ _ _ _ _ _ _ (mend16 .full .nil kL [] _ sL nL (by simp [NilOk]) (by simp)) ?_
  rintro u H7 ⟨hx7, km', hu⟩
  rw [ml0.1, ml0.2] at hu
  cases hu
  have hxx : Ext H H7 := (((hx.trans hx4).trans hx5).trans hx6).trans hx7
  have lM : (encVs kM).length = 3 := rfl
  have i0 : iadT 2 0 (.sl kn (encWs [(tC, 131072)])) = some (.iptr [.str tC, .int .u64 131072]) := rfl
  have e0 : eqCells [T.str tC, T.int .u64 131072] [T.str ⟨#[99]⟩, T.int .u64 131072] = some true := by
    have : strEq tC ⟨#[99]⟩ = true := by rw [strEq_eq]; rfl
    simp [eqCells, eqSc, this]
  have j2 : iadT 4 2 (.sl km (encVs kM)) = some (.iptr [.str tC, .int .u64 131072, .str ⟨#[118]⟩, .sl .arg (encS [tB, tC])]) := rfl
  have j1 : iadT 4 1 (.sl km (encVs kM)) = some (.iptr [.str tB, .int .u64 131072, .str ⟨#[118]⟩, .sl .arg (encS [tB, tC])]) := rfl
  have j0 : iadT 4 0 (.sl km (encVs kM)) = some (.iptr [.str tA, .int .u64 65536, .str ⟨#[118]⟩, .sl .arg (encS [tA, tB])]) := rfl
  have n0 : natOf (.int .i64 0) = some 0 := rfl
  have n1 : natOf (.int .i64 1) = some 1 := rfl
  have n2 : natOf (.int .i64 2) = some 2 := rfl
  have h0 : encVs [] = [] := rfl
  have hw : hasAll [Ty1.str, Ty1.int] [T.str tC, T.int .u64 131072] = true := rfl
  simp -implicitDefEqProofs only [op, ef, cl, sq, reduceIte, Int.reduceLT, Int.reduceLE, Int.reduceBEq, Int.reduceBNe, Int.reduceEq, Nat.reduceAdd, Nat.reduceLeDiff, Nat.reduceLT, Nat.reduceEqDiff, S1, encWs_len, lM, h0, i0, e0, n0, hw]
  refine callB_of _ _ _ _ _ _ _ _ (cut14 .full kL _ sL) ?_
  rintro u H8 ⟨hu, hx8⟩
  rw [cutL] at hu
  cases hu
  simp -implicitDefEqProofs only [op, ef, cl, sq, reduceIte, Int.reduceLT, Int.reduceLE, Int.reduceBEq, Int.reduceBNe, Int.reduceEq, Nat.reduceAdd, Nat.reduceLeDiff, Nat.reduceLT, Nat.reduceEqDiff, S1]
  refine callB_of _ _ _ _ _ _ _ _ (cut14 km kM _ sM) ?_
  rintro u H9 ⟨hu, hx9⟩
  rw [cutM] at hu
  cases hu
  simp -implicitDefEqProofs only [op, ef, cl, sq, reduceIte, Int.reduceLT, Int.reduceLE, Int.reduceBEq, Int.reduceBNe, Int.reduceEq, Nat.reduceAdd, Nat.reduceLeDiff, Nat.reduceLT, Nat.reduceEqDiff, S1]
  refine callB_of _ _ _ _ _ _ _ _ (formed12 .full kL _ sL) ?_
  rintro u H10 ⟨hu, hx10⟩
  rw [formed_t fL] at hu
  cases hu
  simp -implicitDefEqProofs only [op, ef, cl, sq, reduceIte, Int.reduceLT, Int.reduceLE, Int.reduceBEq, Int.reduceBNe, Int.reduceEq, Nat.reduceAdd, Nat.reduceLeDiff, Nat.reduceLT, Nat.reduceEqDiff, S1]
  refine callB_of _ _ _ _ _ _ _ _ (formed12 .nil [] _ ⟨by simp, by simp⟩) ?_
  rintro u H11 ⟨hu, hx11⟩
  rw [formed_f f0] at hu
  cases hu
  simp -implicitDefEqProofs only [op, ef, cl, sq, reduceIte, Int.reduceLT, Int.reduceLE, Int.reduceBEq, Int.reduceBNe, Int.reduceEq, Nat.reduceAdd, Nat.reduceLeDiff, Nat.reduceLT, Nat.reduceEqDiff, S1, n0, n1, n2, j0, j1, j2, retg_ext ((((hxx.trans hx8).trans hx9).trans hx10).trans hx11)]
end Go.Proofs.Ytobnjpgggocdlaa.Fx
end

/-! text FixQ -/
section
namespace Go.Proofs.Ytobnjpgggocdlaa.Fx
open Go.Rmp Go.Proofs.Ytobnjpgggocdlaa.Ir
set_option maxRecDepth 10000
/-- of a law: true is told -/
def Tru : Out → Heap → Prop := fun o _ => o = .val (.bool true)
theorem tru_val (v : T) (H : Heap) : Tru (.val v) H = (v = .bool true) := by simp [Tru]
theorem asks3 (k : SK) (l : List Ver) (H : Heap) (hs : Small l) : W env (.call 3 [.sl k (encVs l)]) H Tru := by
  refine W.fnI rfl rfl rfl ?_
  simp -implicitDefEqProofs only [ir3, op, ef, cl, sq, reduceIte, Int.reduceLT, Int.reduceLE, Int.reduceBEq, Int.reduceBNe, Int.reduceEq, Nat.reduceAdd, Nat.reduceLeDiff, Nat.reduceLT, Nat.reduceEqDiff, S1]
  refine callB_of _ _ _ _ _ _ _ _ (needs9 k l _ hs) ?_
  rintro u H1 ⟨hx1, kn, hu⟩
  cases hu
  simp -implicitDefEqProofs only [op, ef, cl, sq, reduceIte, Int.reduceLT, Int.reduceLE, Int.reduceBEq, Int.reduceBNe, Int.reduceEq, Nat.reduceAdd, Nat.reduceLeDiff, Nat.reduceLT, Nat.reduceEqDiff, S1]
  refine callB_of _ _ _ _ _ _ _ _ (needs10 k l _ hs) ?_
  rintro u H2 ⟨hx2, kn', hu⟩
  cases hu
  simp -implicitDefEqProofs only [op, ef, cl, sq, reduceIte, Int.reduceLT, Int.reduceLE, Int.reduceBEq, Int.reduceBNe, Int.reduceEq, Nat.reduceAdd, Nat.reduceLeDiff, Nat.reduceLT, Nat.reduceEqDiff, S1]
  refine callB_of _ _ _ _ _ _ _ _ (known11 _) ?_
  rintro u H3 ⟨hu, hx3⟩
  cases hu
  simp -implicitDefEqProofs only [op, ef, cl, sq, reduceIte, Int.reduceLT, Int.reduceLE, Int.reduceBEq, Int.reduceBNe, Int.reduceEq, Nat.reduceAdd, Nat.reduceLeDiff, Nat.reduceLT, Nat.reduceEqDiff, S1]
  refine callB_of _ _ _ _ _ _ _ _ (formed12 k l _ hs) ?_
  rintro u H4 ⟨hu, hx4⟩
  cases hu
  simp -implicitDefEqProofs only [op, ef, cl, sq, reduceIte, Int.reduceLT, Int.reduceLE, Int.reduceBEq, Int.reduceBNe, Int.reduceEq, Nat.reduceAdd, Nat.reduceLeDiff, Nat.reduceLT, Nat.reduceEqDiff, S1]
  refine callB_of _ _ _ _ _ _ _ _ (formed13 k l _ hs) ?_
  rintro u H5 ⟨hu, hx5⟩
  cases hu
  simp -implicitDefEqProofs only [op, ef, cl, sq, reduceIte, Int.reduceLT, Int.reduceLE, Int.reduceBEq, Int.reduceBNe, Int.reduceEq, Nat.reduceAdd, Nat.reduceLeDiff, Nat.reduceLT, Nat.reduceEqDiff, S1]
  refine callB_of _ _ _ _ _ _ _ _ (cut14 k l _ hs) ?_
  rintro u H6 ⟨hu, hx6⟩
  cases hu
  simp -implicitDefEqProofs only [op, ef, cl, sq, reduceIte, Int.reduceLT, Int.reduceLE, Int.reduceBEq, Int.reduceBNe, Int.reduceEq, Nat.reduceAdd, Nat.reduceLeDiff, Nat.reduceLT, Nat.reduceEqDiff, S1]
  refine callB_of _ _ _ _ _ _ _ _ (cut15 k l _ hs) ?_
  rintro u H7 ⟨hu, hx7⟩
  cases hu
  simp -implicitDefEqProofs only [op, ef, cl, sq, reduceIte, Int.reduceLT, Int.reduceLE, Int.reduceBEq, Int.reduceBNe, Int.reduceEq, Nat.reduceAdd, Nat.reduceLeDiff, Nat.reduceLT, Nat.reduceEqDiff, S1]
  have hnl : (needs l).length ≤ l.length := by
    unfold needs; split
    · exact wants_le l l
    · exact Nat.zero_le _
  have hsl := hs.1
  refine W.loopI (fun (i : Nat) R H' => R 3 = .sl kn (encWs (needs l)) ∧ R 5 = .sl kn' (encWs (needs l)) ∧ R 7 = .int .i64 i ∧ i ≤ (needs l).length) (fun i => (needs l).length - i) 0 ⟨rfl, rfl, rfl, Nat.zero_le _⟩ ?_
  rintro i R H8 ⟨h3, h5, h7, hi⟩
  by_cases hlt : i < (needs l).length
  · obtain ⟨w, hw⟩ : ∃ w, (needs l)[i]? = some w := ⟨(needs l)[i], List.getElem?_eq_getElem hlt⟩
    have wsi := wrap_succ (show i < 9223372036854775807 by omega)
    have iw : iadT 2 i (.sl kn (encWs (needs l))) = some (.iptr [.str w.1, .int .u64 w.2]) := iad_map (enc := encW) hw rfl (by decide)
    have iw' : iadT 2 i (.sl kn' (encWs (needs l))) = some (.iptr [.str w.1, .int .u64 w.2]) := iad_map (enc := encW) hw rfl (by decide)
    have e0 : eqCells [T.str w.1, T.int .u64 w.2] [T.str w.1, T.int .u64 w.2] = some true := by simp [eqCells, eqSc, strEq_eq]
    have hh : hasAll [Ty1.str, Ty1.int] [T.str w.1, T.int .u64 w.2] = true := rfl
    simp -implicitDefEqProofs only [op, ef, cl, sq, reduceIte, Int.reduceLT, Int.reduceLE, Int.reduceBEq, Int.reduceBNe, Int.reduceEq, Nat.reduceAdd, Nat.reduceLeDiff, Nat.reduceLT, Nat.reduceEqDiff, S1, h3, h5, h7, encWs_len, hlt, iw, iw', e0, hh, wsi]
    exact ⟨i + 1, by omega, rfl, by omega⟩
  · simp -implicitDefEqProofs only [op, ef, cl, sq, reduceIte, Int.reduceLT, Int.reduceLE, Int.reduceBEq, Int.reduceBNe, Int.reduceEq, Nat.reduceAdd, Nat.reduceLeDiff, Nat.reduceLT, Nat.reduceEqDiff, S1, h3, h5, h7, encWs_len, hlt, tru_val]
theorem mends_mem (f : Ver → Option Ver) : ∀ {m out : List Ver}, mends f m = some out → ∀ v ∈ out, ∃ u ∈ m, f u = some v
  | [], out, h, v, hv => by simp -implicitDefEqProofs only [mends, Option.some.injEq] at h; subst h; cases hv
  | x :: m, out, h, v, hv => by
    simp -implicitDefEqProofs only [mends] at h
    cases h1 : f x with
    | none => rw [h1] at h; simp at h
    | some a =>
      cases h2 : mends f m with
      | none => rw [h1, h2] at h; simp at h
      | some b =>
        rw [h1, h2] at h; simp -implicitDefEqProofs only [Option.some.injEq] at h; subst h
        rcases List.mem_cons.1 hv with rfl | hv
        · exact ⟨x, by simp, h1⟩
        · obtain ⟨u, hu, hf⟩ := mends_mem f h2 v hv; exact ⟨u, by simp [hu], hf⟩
theorem mendO_from {l got : List Ver} {u v : Ver} (hu : u ∈ l) (h : mendO l got u = some v) : ∃ x, (x ∈ l ∨ x ∈ got) ∧ v = setK x .arg := by
  unfold mendO mendOne at h
  split at h
  · cases hg : gotOf got u.key (gr l u.key) with
    | none => rw [hg] at h; simp at h
    | some x => rw [hg] at h; simp at h; exact ⟨x, .inr (List.mem_of_find?_eq_some hg), h.symm⟩
  · simp at h; exact ⟨u, .inl hu, h.symm⟩
theorem mendL_ok {l got : List Ver} (hn : NilOk l) (hng : NilOk got) : (mendL l got).length ≤ l.length ∧ NilOk (mendL l got) := by
  unfold mendL; split
  · cases h : mends (mendO l got) l with
    | none => exact ⟨Nat.zero_le _, by simp [NilOk]⟩
    | some out =>
      refine ⟨Nat.le_of_eq (mends_len _ h), fun v hv => ?_⟩
      obtain ⟨u, hu, hf⟩ := mends_mem _ h v hv
      obtain ⟨x, hx, rfl⟩ := mendO_from hu hf
      refine ⟨fun h => by simp [setK] at h, ?_⟩
      rcases hx with hx | hx
      · exact (hn x hx).2
      · exact (hng x hx).2
  · exact ⟨Nat.zero_le _, by simp [NilOk]⟩
theorem mends4 (k k' : SK) (l got : List Ver) (H : Heap) (hs : Small l) (hn : NilOk l) (hng : NilOk got) (hgl : got.length < 4611686018427387903) : W env (.call 4 [.sl k (encVs l), .sl k' (encVs got)]) H Tru := by
  refine W.fnI rfl rfl rfl ?_
  simp -implicitDefEqProofs only [ir4, op, ef, cl, sq, reduceIte, Int.reduceLT, Int.reduceLE, Int.reduceBEq, Int.reduceBNe, Int.reduceEq, Nat.reduceAdd, Nat.reduceLeDiff, Nat.reduceLT, Nat.reduceEqDiff, S1]
  refine callB_of _ _ _ _ _ _ _ _ (mend16 k k' l got _ hs hn hng hgl) ?_
  rintro u H1 ⟨hx1, kn, hu⟩
  cases hu
  simp -implicitDefEqProofs only [op, ef, cl, sq, reduceIte, Int.reduceLT, Int.reduceLE, Int.reduceBEq, Int.reduceBNe, Int.reduceEq, Nat.reduceAdd, Nat.reduceLeDiff, Nat.reduceLT, Nat.reduceEqDiff, S1]
  refine callB_of _ _ _ _ _ _ _ _ (mend17 k k' l got _ hs hn hng hgl) ?_
  rintro u H2 ⟨hx2, kn', hu⟩
  cases hu
  simp -implicitDefEqProofs only [op, ef, cl, sq, reduceIte, Int.reduceLT, Int.reduceLE, Int.reduceBEq, Int.reduceBNe, Int.reduceEq, Nat.reduceAdd, Nat.reduceLeDiff, Nat.reduceLT, Nat.reduceEqDiff, S1]
  refine callB_of _ _ _ _ _ _ _ _ (known11 _) ?_
  rintro u H3 ⟨hu, hx3⟩
  cases hu
  simp -implicitDefEqProofs only [op, ef, cl, sq, reduceIte, Int.reduceLT, Int.reduceLE, Int.reduceBEq, Int.reduceBNe, Int.reduceEq, Nat.reduceAdd, Nat.reduceLeDiff, Nat.reduceLT, Nat.reduceEqDiff, S1]
  have hok := mendL_ok hn hng
  have hsl := hs.1
  refine callB_of _ _ _ _ _ _ _ _ (same18 kn kn' _ _ _ (by omega) (fun v hv => by have := (hok.2 v hv).2; omega)) ?_
  rintro u H4 ⟨hu, rfl⟩
  cases hu
  simp -implicitDefEqProofs only [op, ef, cl, sq, reduceIte, Int.reduceLT, Int.reduceLE, Int.reduceBEq, Int.reduceBNe, Int.reduceEq, Nat.reduceAdd, Nat.reduceLeDiff, Nat.reduceLT, Nat.reduceEqDiff, S1, tru_val, same_t (show Same (mendL l got) (mendL l got) from rfl)]
end Go.Proofs.Ytobnjpgggocdlaa.Fx
end

/-! text FixR -/
section
namespace Go.Proofs.Ytobnjpgggocdlaa
open Go.ChangeShapes Go.WideShapes Go.ChangeAt Go.RowKit
namespace Law
theorem own : ownKnob Try.prog.godebug = none := by kernel_rfl
theorem kids : Kids Try.prog (· < Try.prog.types.size) := kids_rows (by kernel_rfl) (by kernel_rfl)
noncomputable def hzB : Bool := (List.range Try.prog.types.size).all fun t => match Try.prog.underlying t with
  | some (.slice e) => decide (0 < Try.prog.cellsOf e)
  | _ => true
theorem hzB_ok : hzB = true := by kernel_rfl
theorem hz : ∀ t e, t < Try.prog.types.size → Try.prog.underlying t = some (.slice e) → 0 < Try.prog.cellsOf e := fun t e ht h => by
  have := (List.all_eq_true.1 hzB_ok) t (List.mem_range.2 ht)
  rw [h] at this
  simpa using this
mutual
theorem bulk_eq {H : Type} : ∀ d : DataW H, Go.Rmp.bulkW d = Rows.uptoBulk d
  | .lit l => by cases l <;> simp [Go.Rmp.bulkW, Rows.uptoBulk]
  | .nil => by simp [Go.Rmp.bulkW, Rows.uptoBulk]
  | .ptr d => by simp [Go.Rmp.bulkW, Rows.uptoBulk, bulk_eq d]
  | .slice elems spare => by simp [Go.Rmp.bulkW, Rows.uptoBulk, bulks_eq elems, bulks_eq spare]
  | .agg parts => by simp [Go.Rmp.bulkW, Rows.uptoBulk, bulks_eq parts]
  | .iface _ d => by simp [Go.Rmp.bulkW, Rows.uptoBulk, bulk_eq d]
  | .map entries => by simp [Go.Rmp.bulkW, Rows.uptoBulk, bulkE_eq entries]
  | .held _ => by simp [Go.Rmp.bulkW, Rows.uptoBulk]
theorem bulks_eq {H : Type} : ∀ l : List (DataW H), Go.Rmp.bulkAllW l = Rows.uptoBulkAll l
  | [] => by simp [Go.Rmp.bulkAllW, Rows.uptoBulkAll]
  | d :: r => by simp [Go.Rmp.bulkAllW, Rows.uptoBulkAll, bulk_eq d, bulks_eq r]
theorem bulkE_eq {H : Type} : ∀ l : List (Lit × DataW H), Go.Rmp.bulkEntriesW l = Rows.uptoBulkEntries l
  | [] => by simp [Go.Rmp.bulkEntriesW, Rows.uptoBulkEntries]
  | x :: r => by simp [Go.Rmp.bulkEntriesW, Rows.uptoBulkEntries, bulkEn_eq x, bulkE_eq r]
theorem bulkEn_eq {H : Type} : ∀ x : Lit × DataW H, Go.Rmp.bulkEntryW x = Rows.uptoBulkEntry x
  | (l, d) => by cases l <;> simp [Go.Rmp.bulkEntryW, Rows.uptoBulkEntry, bulk_eq d]
end
theorem bulk_ok {H : Type} {ds : List (DataW H)} (h : Rows.uptoSmall H ds = true) : Go.Rmp.bulkAllW ds ≤ 1048576 := by
  rw [bulks_eq]; simpa [Rows.uptoSmall] using h
/-! the rows -/
theorem fixAsks_w (as' : List Go.Rmp.T) (hs : Go.Rmp.HasShs 1048576 [Go.Rmp.Sh.sl [.str, .int .u64, .str, .sl [.str]]] as') : Go.Rmp.W Ir.env (.call 3 as') [] (fun o _ => o = .val (.bool true)) := by
  cases hs with | cons h hs =>
  cases hs
  obtain ⟨k, l, rfl, hl, hv⟩ := Fx.hasVs h
  exact Fx.asks3 k l [] ⟨by omega, fun v hm => by have := (hv v hm).2; omega⟩

theorem fixAsks_fn (H : Type) : ∀ ds : List (DataW H), ds.length = Try.f3.params.toList.length → Rows.fixAsksSpec.fn H ds = { results := [.lit (.bool true)], args := ds } := by
  have hn : Try.f3.params.toList.length = 1 := by kernel_rfl
  rw [hn]
  intro ds hds
  cases ds with | nil => simp at hds | cons d0 ds =>
  cases ds with | cons => simp at hds | nil =>
  rfl
set_option maxRecDepth 100000 in
theorem fixAsks_lifted (os : Os) (started : os.Started) (H : Type) (enc : TypeId × Value → H) (F : Stop.Interp) :
    ReturnsInHanded {} Try.checked os 3 .any ((Rows.OpenSpec.upto Rows.fixAsksSpec).pre6 enc Try.prog Try.f3 Rows.fixAsksUptoRow.domain false) (((Rows.OpenSpec.upto Rows.fixAsksSpec).at F).post enc Try.prog Try.f3 false true false false) := by
  refine returnsInHanded_of_cond (C := Try.checked) (s := Rows.OpenSpec.upto Rows.fixAsksSpec) (k := Rows.uptoSmall) rfl own started (by kernel_rfl) Try.func3
    (OpenSpec.witness (enc := enc) (C := Try.checked) (s := Rows.OpenSpec.upto Rows.fixAsksSpec) (k := Rows.uptoSmall) rfl false ⟨#[], #[.slice .none 0 0], []⟩ 8 (by kernel_rfl) (by kernel_rfl) (by kernel_rfl)
      (x := ([.nil], [], [])) (by kernel_rfl) rfl (by kernel_rfl)) ?_
  intro W base args ds gs before hval hW _ hk _
  exact Go.Rmp.law_contract (s := Rows.fixAsksSpec) (shs := [Go.Rmp.Sh.sl [.str, .int .u64, .str, .sl [.str]]]) (B := 1048576) (tb := Try.f3.resultTypes[0]!) Ir.envOk kids hz (by kernel_rfl) (by intro t ht; exact of_decide_eq_true ((List.all_eq_true.1 (show Try.f3.params.toList.all (fun t => decide (t < Try.prog.types.size)) = true by kernel_rfl)) t ht)) (by kernel_rfl) (by kernel_rfl) rfl (fixAsks_fn H) fixAsks_w base args ds gs before hval hW (bulk_ok hk)
theorem fixAsks_over : Rows.fixAsksUptoRow.holds Try.pinned (Rows.OpenSpec.upto Rows.fixAsksSpec) :=
  OpenClaim.holds_of_cond 3 Try.f3 rfl rfl rfl rfl rfl rfl rfl ⟨rfl, rfl, rfl, rfl, rfl⟩ rfl rfl rfl rfl rfl (by kernel_rfl) Try.func3 (by kernel_rfl)
    (of_decide_eq_true (by kernel_rfl)) (by unfold Func.isWrapper; first | (rw [if_pos (by decide +kernel)]; kernel_rfl) | (rw [if_neg (by decide +kernel)]; exact ⟨rfl, rfl⟩))
    (fun os started H enc _ F => fixAsks_lifted os started H enc F)
theorem fixAsks_proved : Rows.FixAsksUptoSaid := fixAsks_over
theorem fixMends_w (as' : List Go.Rmp.T) (hs : Go.Rmp.HasShs 1048576 [Go.Rmp.Sh.sl [.str, .int .u64, .str, .sl [.str]], .sl [.str, .int .u64, .str, .sl [.str]]] as') : Go.Rmp.W Ir.env (.call 4 as') [] (fun o _ => o = .val (.bool true)) := by
  cases hs with | cons h hs =>
  cases hs with | cons h' hs =>
  cases hs
  obtain ⟨k, l, rfl, hl, hv⟩ := Fx.hasVs h
  obtain ⟨k', l', rfl, hl', hv'⟩ := Fx.hasVs h'
  exact Fx.mends4 k k' l l' [] ⟨by omega, fun v hm => by have := (hv v hm).2; omega⟩ (fun v hm => ⟨(hv v hm).1, by have := (hv v hm).2; omega⟩) (fun v hm => ⟨(hv' v hm).1, by have := (hv' v hm).2; omega⟩) (by omega)

theorem fixMends_fn (H : Type) : ∀ ds : List (DataW H), ds.length = Try.f4.params.toList.length → Rows.fixMendsSpec.fn H ds = { results := [.lit (.bool true)], args := ds } := by
  have hn : Try.f4.params.toList.length = 2 := by kernel_rfl
  rw [hn]
  intro ds hds
  cases ds with | nil => simp at hds | cons d0 ds =>
  cases ds with | nil => simp at hds | cons d1 ds =>
  cases ds with | cons => simp at hds | nil =>
  rfl
set_option maxRecDepth 100000 in
theorem fixMends_lifted (os : Os) (started : os.Started) (H : Type) (enc : TypeId × Value → H) (F : Stop.Interp) :
    ReturnsInHanded {} Try.checked os 4 .any ((Rows.OpenSpec.upto Rows.fixMendsSpec).pre6 enc Try.prog Try.f4 Rows.fixMendsUptoRow.domain false) (((Rows.OpenSpec.upto Rows.fixMendsSpec).at F).post enc Try.prog Try.f4 false true false false) := by
  refine returnsInHanded_of_cond (C := Try.checked) (s := Rows.OpenSpec.upto Rows.fixMendsSpec) (k := Rows.uptoSmall) rfl own started (by kernel_rfl) Try.func4
    (OpenSpec.witness (enc := enc) (C := Try.checked) (s := Rows.OpenSpec.upto Rows.fixMendsSpec) (k := Rows.uptoSmall) rfl false ⟨#[], #[.slice .none 0 0, .slice .none 0 0], []⟩ 8 (by kernel_rfl) (by kernel_rfl) (by kernel_rfl)
      (x := ([.nil, .nil], [], [])) (by kernel_rfl) rfl (by kernel_rfl)) ?_
  intro W base args ds gs before hval hW _ hk _
  exact Go.Rmp.law_contract (s := Rows.fixMendsSpec) (shs := [Go.Rmp.Sh.sl [.str, .int .u64, .str, .sl [.str]], .sl [.str, .int .u64, .str, .sl [.str]]]) (B := 1048576) (tb := Try.f4.resultTypes[0]!) Ir.envOk kids hz (by kernel_rfl) (by intro t ht; exact of_decide_eq_true ((List.all_eq_true.1 (show Try.f4.params.toList.all (fun t => decide (t < Try.prog.types.size)) = true by kernel_rfl)) t ht)) (by kernel_rfl) (by kernel_rfl) rfl (fixMends_fn H) fixMends_w base args ds gs before hval hW (bulk_ok hk)
theorem fixMends_over : Rows.fixMendsUptoRow.holds Try.pinned (Rows.OpenSpec.upto Rows.fixMendsSpec) :=
  OpenClaim.holds_of_cond 4 Try.f4 rfl rfl rfl rfl rfl rfl rfl ⟨rfl, rfl, rfl, rfl, rfl⟩ rfl rfl rfl rfl rfl (by kernel_rfl) Try.func4 (by kernel_rfl)
    (of_decide_eq_true (by kernel_rfl)) (by unfold Func.isWrapper; first | (rw [if_pos (by decide +kernel)]; kernel_rfl) | (rw [if_neg (by decide +kernel)]; exact ⟨rfl, rfl⟩))
    (fun os started H enc _ F => fixMends_lifted os started H enc F)
theorem fixMends_proved : Rows.FixMendsUptoSaid := fixMends_over
end Law
end Go.Proofs.Ytobnjpgggocdlaa
end
