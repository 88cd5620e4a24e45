/- Part of a proof of a law of this seat: the machine of plain values, its simulation, and the contracts of the functions that the law reaches. Conditions: none beyond the given row. -/
import Derived.Test.YtobnjpgggocdlaaM1
import Derived.Test.YtobnjpgggocdlaaProg
import Derived.KernelRfl
set_option linter.unusedSimpArgs false
set_option linter.unusedVariables false
set_option maxHeartbeats 4000000
/-! text RmpY -/
section
/- WRITTEN SLICES: their cells as a list of elements. -/
namespace Go.Rmp
section
variable {α : Type} {enc : α → List T} {n : Nat}
def msC (enc : α → List T) (xs : List α) : List T := xs.flatMap enc
theorem msC_len (hn : ∀ x, (enc x).length = n) : ∀ xs : List α, (msC enc xs).length = xs.length * n
  | [] => by simp [msC]
  | x :: xs => by
    have := msC_len hn xs
    simp only [msC, List.flatMap_cons, List.length_append, hn, List.length_cons] at this ⊢
    rw [this, Nat.add_mul]; omega
theorem msC_drop (hn : ∀ x, (enc x).length = n) : ∀ (xs : List α) (i : Nat), (msC enc xs).drop (i * n) = msC enc (xs.drop i)
  | xs, 0 => by simp
  | [], i + 1 => by simp [msC]
  | x :: xs, i + 1 => by
    have := msC_drop hn xs i
    simp only [msC, List.flatMap_cons, List.drop_succ_cons] at this ⊢
    rw [show (i + 1) * n = (enc x).length + i * n by rw [hn, Nat.add_mul]; omega, List.drop_append, List.drop_eq_nil_of_le (by omega)]
    simp [this]
theorem msC_take (hn : ∀ x, (enc x).length = n) : ∀ (xs : List α) (i : Nat), (msC enc xs).take (i * n) = msC enc (xs.take i)
  | xs, 0 => by simp [msC]
  | [], i + 1 => by simp [msC]
  | x :: xs, i + 1 => by
    have := msC_take hn xs i
    simp only [msC, List.flatMap_cons, List.take_succ_cons] at this ⊢
    rw [show (i + 1) * n = (enc x).length + i * n by rw [hn, Nat.add_mul]; omega, List.take_append, List.take_of_length_le (by omega)]
    simp [this]
theorem msC_get (hn : ∀ x, (enc x).length = n) {xs : List α} {i : Nat} {x : α} (hx : xs[i]? = some x) (off m : Nat) (h : off + m ≤ n) : ldcB m (i * n + off) (some (.cells (msC enc xs))) = some (((enc x).drop off).take m) := by
  have hi := (List.getElem?_eq_some_iff.1 hx).1
  have h1 : i * n + n ≤ xs.length * n := by rw [← Nat.succ_mul]; exact Nat.mul_le_mul_right n hi
  have e : (msC enc xs).drop (i * n) = enc x ++ msC enc (xs.drop (i + 1)) := by
    rw [msC_drop hn, List.drop_eq_getElem_cons hi]
    have : xs[i] = x := (List.getElem?_eq_some_iff.1 hx).2
    rw [this]; rfl
  rw [ldcB_c, if_pos (by rw [msC_len hn]; omega), ← List.drop_drop, e, List.drop_append, List.take_append, hn]
  rw [show m - ((enc x).drop off).length = 0 by rw [List.length_drop, hn]; omega]
  simp
theorem msC_set (hn : ∀ x, (enc x).length = n) {xs : List α} {i : Nat} {x y : α} (hx : xs[i]? = some x) (H : Heap) (b : Nat) (vs : List T) (off : Nat) (h : off + vs.length ≤ n) (hy : enc y = (enc x).take off ++ vs ++ (enc x).drop (off + vs.length)) :
    stcB H b vs (i * n + off) (some (.cells (msC enc xs))) = some (H.set b (.cells (msC enc (xs.set i y)))) := by
  have hi := (List.getElem?_eq_some_iff.1 hx).1
  have hxi : xs[i] = x := (List.getElem?_eq_some_iff.1 hx).2
  have h1 : i * n + n ≤ xs.length * n := by rw [← Nat.succ_mul]; exact Nat.mul_le_mul_right n hi
  rw [stcB_c, if_pos (by rw [msC_len hn]; omega)]
  have e : (msC enc xs).drop (i * n) = enc x ++ msC enc (xs.drop (i + 1)) := by
    rw [msC_drop hn, List.drop_eq_getElem_cons hi, hxi]; rfl
  have t : (msC enc xs).take (i * n + off) = msC enc (xs.take i) ++ (enc x).take off := by
    rw [List.take_add, msC_take hn, e, List.take_append, hn, show off - n = 0 by omega]; simp
  have d : (msC enc xs).drop (i * n + off + vs.length) = (enc x).drop (off + vs.length) ++ msC enc (xs.drop (i + 1)) := by
    rw [Nat.add_assoc, ← List.drop_drop, e, List.drop_append, hn, show off + vs.length - n = 0 by omega]; simp
  rw [t, d]
  have : xs.set i y = xs.take i ++ y :: xs.drop (i + 1) := by rw [List.set_eq_take_append_cons_drop, if_pos hi]
  rw [this]
  simp only [msC, List.flatMap_append, List.flatMap_cons, hy, List.append_assoc]
theorem msC_rep (k : Nat) (z : α) : (List.replicate k (enc z)).flatten = msC enc (List.replicate k z) := by
  induction k with
  | zero => rfl
  | succ k ih => simp only [List.replicate_succ, List.flatten_cons, ih, msC, List.flatMap_cons]
end
theorem iad_m (n i b off len : Nat) : iadT n i (.msl b off len n) = if i < len then if n = 0 then none else some (.ptr b (off + i * n)) else none := by
  simp only [iadT, true_and, ne_eq]
  by_cases h : i < len <;> by_cases h' : n = 0 <;> simp [h, h']
def eU (n : Nat) : List T := [.int .u64 n]
def eI (n : Nat) : List T := [.int .i64 n]
theorem eU_len (x : Nat) : (eU x).length = 1 := rfl
theorem eI_len (x : Nat) : (eI x).length = 1 := rfl
theorem msU_get {xs : List Nat} {i x : Nat} (hx : xs[i]? = some x) : ldcB 1 (i * 1) (some (.cells (msC eU xs))) = some [.int .u64 x] := msC_get eU_len hx 0 1 (by decide)
theorem msU_set {xs : List Nat} {i x : Nat} (hx : xs[i]? = some x) (H : Heap) (b y : Nat) : stcB H b [.int .u64 y] (i * 1) (some (.cells (msC eU xs))) = some (H.set b (.cells (msC eU (xs.set i y)))) := msC_set (y := y) eU_len hx H b [.int .u64 y] 0 (by simp) rfl
/-! slices that grow and are not written -/
def Apd (n0 : Nat) (H : Heap) (k : SK) : Prop := k = .nil ∨ k = .full ∨ ∃ t e, k = .own t e ∧ n0 ≤ t ∧ H[t]? = some (.tok e)
/-- what an append leaves as it was -/
structure Stay (n0 : Nat) (H : Heap) (k : SK) (H' : Heap) : Prop where
  len : H.length ≤ H'.length
  get : ∀ b x, H[b]? = some x → (∀ e, k ≠ .own b e) → H'[b]? = some x
  ext : ∀ H0 : Heap, H0.length ≤ n0 → Ext H0 H → Ext H0 H'
theorem Stay.cells {n0 : Nat} {H H' : Heap} {k : SK} (h : Stay n0 H k H') (ha : Apd n0 H k) {b : Nat} {x : B} (hx : H[b]? = some x) (ht : ∀ e, x ≠ .tok e) : H'[b]? = some x := h.get b x hx fun e he => by
  rcases ha with h | h | ⟨t, e', h, _, h'⟩
  · rw [he] at h; cases h
  · rw [he] at h; cases h
  · rw [he] at h; cases h; rw [hx] at h'; cases h'; exact ht _ rfl
theorem app_ok {n0 : Nat} {H : Heap} {k : SK} {bytes : Nat} (es new : List (List T)) (hk : Apd n0 H k) (hn0 : n0 ≤ H.length) (hnew : new ≠ []) (hr : roomOk (es.length + new.length) bytes = true) :
    ∃ k' H', appT H bytes k es new = some (.sl k' (es ++ new.map (·.map T.erase)), H') ∧ Apd n0 H' k' ∧ Stay n0 H k H' := by
  unfold appT
  cases new with
  | nil => exact absurd rfl hnew
  | cons c new =>
    simp only [hr, if_true]
    rcases hk with rfl | rfl | ⟨t, e, rfl, ht, hg⟩
    · exact ⟨_, _, rfl, .inr (.inr ⟨_, _, rfl, hn0, g_tail rfl⟩), ⟨by simp, fun b x hx _ => by rw [g_app (glt hx)]; exact hx, fun H0 _ h => h.app _⟩⟩
    · exact ⟨_, _, rfl, .inr (.inr ⟨_, _, rfl, hn0, g_tail rfl⟩), ⟨by simp, fun b x hx _ => by rw [g_app (glt hx)]; exact hx, fun H0 _ h => h.app _⟩⟩
    · simp only [hg, if_true]
      refine ⟨_, _, rfl, .inr (.inr ⟨_, _, rfl, ht, g_eq (glt hg)⟩), ⟨by simp, fun b x hx hne => ?_, fun H0 h0 h => h.set (Nat.le_trans h0 ht) _⟩⟩
      have : t ≠ b := fun h => hne e (by rw [h])
      rw [g_ne this]; exact hx
theorem apd_nil (n0 : Nat) (H : Heap) : Apd n0 H .nil := .inl rfl
theorem Apd.ext {n0 : Nat} {H H' : Heap} {k : SK} (h : Apd n0 H k) (hx : Ext H H') : Apd n0 H' k := by
  rcases h with h | h | ⟨t, e, h, h1, h2⟩
  · exact .inl h
  · exact .inr (.inl h)
  · exact .inr (.inr ⟨t, e, h, h1, hx.get h2⟩)
theorem Apd.set {n0 : Nat} {H : Heap} {k : SK} (h : Apd n0 H k) {c : Nat} {x : B} (hx : H[c]? = some x) (ht : ∀ e, x ≠ .tok e) (y : B) : Apd n0 (H.set c y) k := by
  rcases h with h | h | ⟨t, e, h, h1, h2⟩
  · exact .inl h
  · exact .inr (.inl h)
  · refine .inr (.inr ⟨t, e, h, h1, ?_⟩)
    have : c ≠ t := fun he => by subst he; rw [hx] at h2; cases h2; exact ht _ rfl
    rw [g_ne this]; exact h2
theorem endR_r {n b : Nat} {res : List Rs} {Q : Out → Heap → Prop} {R : Regs} {H : Heap} (h : R n = .tup [.ptr b 0]) (hd : H[b]? = some .dfr)
    (hq : match resT R (H.set b .dead) res with | some v => Q (.val v) (H.set b .dead) | none => False) : endR n res Q (.ex .ret R) H :=
  ⟨[b], by rw [h]; rfl, by simp, by simp [hd], hq⟩
theorem endR_n {n b : Nat} {res : List Rs} {Q : Out → Heap → Prop} {R : Regs} {H : Heap} (h : R n = .tup [.ptr b 0]) (hd : H[b]? = some .dfr)
    (hq : match resT R (H.set b .dead) res with | some v => Q (.val v) (H.set b .dead) | none => False) : endR n res Q (.ex .normal R) H :=
  ⟨[b], by rw [h]; rfl, by simp, by simp [hd], hq⟩
theorem endR_0 {n : Nat} {res : List Rs} {Q : Out → Heap → Prop} {R : Regs} {H : Heap} (h : R n = .tup [])
    (hq : match resT R H res with | some v => Q (.val v) H | none => False) : endR n res Q (.ex .ret R) H :=
  ⟨[], by rw [h]; rfl, by simp, by simp, hq⟩
theorem push0 (b : Nat) : pushMark (.tup []) b = .tup [.ptr b 0] := rfl
theorem roomT {n m : Nat} (h : (n + n / 4 + 512) * m ≤ 281474976710656) : roomOk n m = true := by simp [roomOk, h]
theorem all_map {α : Type} {enc : α → List T} {n : Nat} (hn : ∀ x, (enc x).length = n) (l : List α) : (l.map enc).all (fun c => c.length == n) = true := by simp [hn]
/-! slices that grow and are written -/
def Mut {α : Type} (enc : α → List T) (n n0 : Nat) (H : Heap) (t : T) (l : List α) : Prop :=
  (l = [] ∧ t = .sl .nil []) ∨ ∃ b, t = .msl b 0 l.length n ∧ H[b]? = some (.cells (msC enc l)) ∧ n0 ≤ b
theorem mut_nil {α : Type} (enc : α → List T) (n n0 : Nat) (H : Heap) : Mut enc n n0 H (.sl .nil []) [] := .inl ⟨rfl, rfl⟩
theorem Mut.ext {α : Type} {enc : α → List T} {n n0 : Nat} {H H' : Heap} {t : T} {l : List α} (h : Mut enc n n0 H t l) (hx : Ext H H') : Mut enc n n0 H' t l := by
  rcases h with h | ⟨b, h1, h2, h3⟩
  · exact .inl h
  · exact .inr ⟨b, h1, hx.get h2, h3⟩
theorem Mut.len {α : Type} {enc : α → List T} {n n0 : Nat} {H : Heap} {t : T} {l : List α} (h : Mut enc n n0 H t l) : lenT H .sl t = some l.length := by
  rcases h with ⟨rfl, rfl⟩ | ⟨b, rfl, _, _⟩ <;> rfl
/-- what an append to a written slice leaves as it was -/
structure StayM (n0 : Nat) (H : Heap) (t : T) (H' : Heap) : Prop where
  len : H.length ≤ H'.length
  get : ∀ b x, H[b]? = some x → (∀ off len n, t ≠ .msl b off len n) → H'[b]? = some x
  ext : ∀ H0 : Heap, H0.length ≤ n0 → Ext H0 H → Ext H0 H'
theorem appM_ok {α : Type} {enc : α → List T} {n n0 : Nat} (hn : ∀ x, (enc x).length = n) {H : Heap} {t : T} {l : List α} {bytes : Nat} (new : List α) (h : Mut enc n n0 H t l) (hn0 : n0 ≤ H.length) (hnew : new ≠ []) (hr : roomOk (l.length + new.length) bytes = true) :
    ∃ t' H', appM H n bytes t (new.map enc) = some (t', H') ∧ Mut enc n n0 H' t' (l ++ new) ∧ StayM n0 H t H' := by
  have hfl : (new.map enc).flatten = msC enc new := by simp [msC, List.flatMap]
  have happ : ∀ l : List α, msC enc l ++ msC enc new = msC enc (l ++ new) := fun l => by simp [msC]
  unfold appM
  cases new with
  | nil => exact absurd rfl hnew
  | cons c new =>
    rcases h with ⟨rfl, rfl⟩ | ⟨b, rfl, hb, hb0⟩
    · simp only [List.map_cons, List.length_cons, List.length_nil, List.length_map, Nat.zero_add] at hr hfl ⊢
      simp only [hr, and_true, if_true]
      refine ⟨_, _, rfl, .inr ⟨H.length, by simp, ?_, hn0⟩, ⟨by simp, fun b x hx _ => by rw [g_app (glt hx)]; exact hx, fun H0 _ h => h.app _⟩⟩
      rw [g_tail rfl, hfl]; rfl
    · have hc : l.length * n = (msC enc l).length := (msC_len hn l).symm
      simp only [List.map_cons, List.length_cons, List.length_map] at hr hfl ⊢
      simp only [hb, hc, hr, and_self, if_true]
      refine ⟨_, _, rfl, .inr ⟨H.length, by simp, ?_, hn0⟩, ⟨by simp, fun b' x hx hne => ?_, fun H0 h0 h => (h.set (Nat.le_trans h0 hb0) _).app _⟩⟩
      · rw [g_tail (by simp), hfl, happ]
      · have hbb : b ≠ b' := fun e => hne 0 l.length n (by rw [e])
        rw [g_app (by rw [List.length_set]; exact glt hx), g_ne hbb]; exact hx
theorem frzE_ms {α : Type} {enc : α → List T} {n : Nat} (hn : ∀ x, (enc x).length = n) (l : List α) : frzE (msC enc l) 0 l.length n = l.map enc := by
  unfold frzE
  refine List.ext_getElem? fun i => ?_
  by_cases hi : i < l.length
  · have := msC_get hn (List.getElem?_eq_getElem hi) 0 n (by omega)
    rw [ldcB_c] at this
    split at this
    · simp only [Option.some.injEq, Nat.add_zero, List.drop_zero] at this
      simp only [List.getElem?_map, List.getElem?_range hi, Option.map_some, Nat.zero_add, this, List.getElem?_eq_getElem hi]
      rw [List.take_of_length_le (by rw [hn]; omega)]
    · cases this
  · rw [List.getElem?_eq_none (by simp; omega), List.getElem?_eq_none (by simp; omega)]
/-- a written slice that is told, and then only read -/
theorem W.frz1 {α : Type} {enc : α → List T} {n : Nat} (hn : ∀ x, (enc x).length = n) {E : Env} {f : Nat} {az : List T} {H : Heap} {l : List α} {Q : Out → Heap → Prop}
    (h : W E (.call f az) H (fun o H' => ∃ b, o = .val (.msl b 0 l.length n) ∧ H'[b]? = some (.cells (msC enc l)) ∧ Q (.val (.sl .arg (l.map enc))) (H'.set b .dead))) : W E (.call f az) H Q := by
  refine .frz _ h fun o H' ⟨b, ho, hb, hq⟩ => ⟨_, b, _, ho, rfl, hb, ?_⟩
  have hc : 0 + l.length * n ≤ (msC enc l).length := by rw [msC_len hn]; omega
  simp only [frzV, Go.Rmp.frz1, hc, and_self, if_true, frzE_ms hn]
  exact hq
end Go.Rmp
end

/-! text FixIr -/
section
/- THE IR OF THIS SEAT's FUNCTIONS, as our own program printed it (wip/gen). -/
namespace Go.Proofs.Ytobnjpgggocdlaa.Ir
open Go.Rmp
set_option maxRecDepth 100000
abbrev op (d : Nat) (b : Bo) : O := ⟨some d, .b b, none, []⟩
abbrev ef (b : Bo) : O := ⟨none, .b b, none, []⟩
abbrev cl (d f : Nat) (az : List X) : O := ⟨some d, .call f az, none, []⟩
abbrev sq (a b : C) : C := .seq a b

-- rampart/rampartlaw17.FixAsks
def an3 : An := ⟨[], [(8, [(0, true), (1, true), (2, true), (3, true), (4, true), (5, true), (6, true), (7, true), (8, true)])]⟩
def ir3 : Go.Rmp.Fn := ⟨61, 1, [.t 2],
  sq (.ops [op 2 (.mov (.c (.bool false)))]) <|
  sq (.ops [op 9 (.mov (.r 0)), cl 10 9 [(.r 9)], op 8 (.mov (.r 10)), op 11 (.ext 0 (.r 8)), op 12 (.ext 1 (.r 8)), op 3 (.mov (.r 11)), op 4 (.mov (.r 12))]) <|
  sq (.ops [op 14 (.mov (.r 0)), cl 15 10 [(.r 14)], op 13 (.mov (.r 15)), op 16 (.ext 0 (.r 13)), op 17 (.ext 1 (.r 13)), op 5 (.mov (.r 16)), op 6 (.mov (.r 17))]) <|
  sq (sq (.ops [cl 18 11 [], op 19 (.un .not (.r 18)), op 20 (.mov (.r 19)), ⟨(some 21), .b (.mov (.r 4)), (some (20, false)), []⟩, ⟨(some 22), .b (.mov (.r 6)), (some (20, false)), []⟩, ⟨(some 23), .b (.bin .neq (.r 21) (.r 22)), (some (20, false)), []⟩, op 24 (.pick (.r 20) (.c (.bool true)) (.r 23)), op 25 (.mov (.r 24)), ⟨(some 26), .b (.mov (.r 3)), (some (25, false)), []⟩, ⟨(some 27), .b (.len .sl (.r 26)), (some (25, false)), []⟩, ⟨(some 28), .b (.mov (.r 5)), (some (25, false)), []⟩, ⟨(some 29), .b (.len .sl (.r 28)), (some (25, false)), []⟩, ⟨(some 30), .b (.bin .neq (.r 27) (.r 29)), (some (25, false)), []⟩, op 31 (.pick (.r 25) (.c (.bool true)) (.r 30)), op 32 (.mov (.r 31)), ⟨(some 33), .b (.mov (.r 0)), (some (32, false)), []⟩, ⟨(some 34), .call 12 [(.r 33)], (some (32, false)), []⟩, ⟨(some 35), .b (.mov (.r 0)), (some (32, false)), []⟩, ⟨(some 36), .call 13 [(.r 35)], (some (32, false)), []⟩, ⟨(some 37), .b (.beq true (.r 34) (.r 36)), (some (32, false)), []⟩, op 38 (.pick (.r 32) (.c (.bool true)) (.r 37)), op 39 (.mov (.r 38)), ⟨(some 40), .b (.mov (.r 0)), (some (39, false)), []⟩, ⟨(some 41), .call 14 [(.r 40)], (some (39, false)), []⟩, ⟨(some 42), .b (.mov (.r 0)), (some (39, false)), []⟩, ⟨(some 43), .call 15 [(.r 42)], (some (39, false)), []⟩, ⟨(some 44), .b (.beq true (.r 41) (.r 43)), (some (39, false)), []⟩, op 45 (.pick (.r 39) (.c (.bool true)) (.r 44))]) <|
  .cond (.r 45)
    (sq (.ops [op 2 (.mov (.c (.bool false)))]) <|
    .ret)
    (.skip)) <|
  sq (sq (.ops [op 7 (.mov (.c (.int .i64 0)))]) <|
  .block 0 (
    .loop (
      sq (sq (.ops [op 46 (.mov (.r 7)), op 47 (.mov (.r 3)), op 48 (.len .sl (.r 47)), op 49 (.bin .lss (.r 46) (.r 48))]) <|
      .cond (.r 49)
        (.skip)
        (.exit 0)) <|
      sq (.block 1 (
        sq (.ops [op 52 (.mov (.r 3)), op 53 (.mov (.r 7)), op 54 (.iad 2 (.r 52) (.r 53)), op 55 (.ld 2 true (.r 54)), op 56 (.mov (.r 5)), op 57 (.mov (.r 7)), op 58 (.iad 2 (.r 56) (.r 57)), op 59 (.ld 2 true (.r 58)), op 60 (.eqs true [.str, .int] (.r 55) (.r 59))]) <|
        .cond (.r 60)
          (sq (.ops [op 2 (.mov (.c (.bool false)))]) <|
          .ret)
          (.skip))) <|
      .ops [op 50 (.mov (.r 7)), op 51 (.bin .add (.r 50) (.c (.int .i64 1))), op 7 (.mov (.r 51))]))) <|
  sq (.ops [op 2 (.mov (.c (.bool true)))]) <|
  .ret⟩

-- rampart/rampartlaw17.FixMends
def an4 : An := ⟨[], []⟩
def ir4 : Go.Rmp.Fn := ⟨32, 2, [.t 4],
  sq (.ops [op 4 (.mov (.c (.bool false)))]) <|
  sq (.ops [op 10 (.mov (.r 0)), op 11 (.mov (.r 1)), cl 12 16 [(.r 10), (.r 11)], op 9 (.mov (.r 12)), op 13 (.ext 0 (.r 9)), op 14 (.ext 1 (.r 9)), op 5 (.mov (.r 13)), op 6 (.mov (.r 14))]) <|
  sq (.ops [op 16 (.mov (.r 0)), op 17 (.mov (.r 1)), cl 18 17 [(.r 16), (.r 17)], op 15 (.mov (.r 18)), op 19 (.ext 0 (.r 15)), op 20 (.ext 1 (.r 15)), op 7 (.mov (.r 19)), op 8 (.mov (.r 20))]) <|
  sq (.ops [cl 21 11 [], op 22 (.mov (.r 21)), ⟨(some 23), .b (.mov (.r 6)), (some (22, true)), []⟩, ⟨(some 24), .b (.mov (.r 8)), (some (22, true)), []⟩, ⟨(some 25), .b (.bin .eql (.r 23) (.r 24)), (some (22, true)), []⟩, op 26 (.pick (.r 22) (.r 25) (.c (.bool false))), op 27 (.mov (.r 26)), ⟨(some 28), .b (.mov (.r 5)), (some (27, true)), []⟩, ⟨(some 29), .b (.mov (.r 7)), (some (27, true)), []⟩, ⟨(some 30), .call 18 [(.r 28), (.r 29)], (some (27, true)), []⟩, op 31 (.pick (.r 27) (.r 30) (.c (.bool false))), op 4 (.mov (.r 31))]) <|
  .ret⟩

-- rampart/rampartlaw17.FixWhole
def an5 : An := ⟨[], [(16, [(0, true), (1, true), (2, true), (3, true), (4, true), (5, true), (6, true), (7, true), (8, true), (9, true), (10, true), (11, true), (12, true), (14, true), (15, true), (16, true), (17, true), (18, true), (13, false), (19, false), (20, true), (21, true)]), (28, [(0, true), (1, true), (2, true), (3, true), (4, true), (5, true), (6, true), (7, true), (8, true), (9, true), (10, false), (11, true), (12, true), (13, true), (14, true), (15, true), (16, true), (17, true), (18, true), (19, true), (20, true), (21, true), (22, true), (23, true)]), (34, [(0, true), (1, true), (2, true), (3, true), (4, true), (5, true), (6, true), (7, true), (8, true), (9, true), (10, true), (11, true), (12, true), (13, true), (14, false)]), (39, [(0, true), (1, true), (2, true), (3, true), (4, true), (5, true), (6, true), (7, true), (8, true), (9, true), (10, true), (11, true), (12, true), (13, true), (14, false)]), (40, [(0, true), (1, true), (2, true), (3, true), (4, true), (5, true), (6, true), (7, true), (8, true), (9, true), (10, true), (11, true), (12, true), (13, true), (14, true), (15, true), (16, true), (17, true), (18, true), (19, true), (20, true), (21, true), (22, true), (23, true), (24, true), (25, true), (26, true), (27, true), (28, true), (29, true), (30, true), (31, true), (32, true), (33, true), (34, true), (35, true), (36, true), (37, true), (38, true), (39, true), (40, true), (41, true), (42, false), (43, true), (44, true), (45, true), (46, true), (47, true), (48, true), (49, true), (50, true), (51, true), (52, true), (53, true), (54, true), (55, true), (56, true), (57, true), (58, true), (59, true), (60, true), (61, true)])]⟩
def ir5 : Go.Rmp.Fn := ⟨338, 5, [.t 10],
  sq (.ops [op 10 (.mov (.c (.bool false)))]) <|
  sq (.ops [op 31 (.mov (.r 0)), op 32 (.mov (.r 0)), op 33 (.len .sl (.r 32)), op 34 (.mn (.r 33) (.c (.int .i64 60))), op 35 (.sll 1 (.r 31) none (some (.r 34)) none), op 0 (.mov (.r 35))]) <|
  sq (.ops [op 36 (.mov (.r 0)), op 37 (.mov (.r 1)), op 38 (.mov (.r 2)), op 39 (.mov (.r 3)), cl 40 19 [(.r 36), (.r 37), (.r 38), (.r 39)], op 11 (.mov (.r 40))]) <|
  sq (.ops [op 42 (.mov (.r 11)), cl 43 9 [(.r 42)], op 41 (.mov (.r 43)), op 44 (.ext 0 (.r 41)), op 45 (.ext 1 (.r 41)), op 12 (.mov (.r 44)), op 13 (.mov (.r 45))]) <|
  sq (sq (.ops [cl 46 11 [], op 47 (.un .not (.r 46)), op 48 (.mov (.r 47)), ⟨(some 49), .b (.mov (.r 13)), (some (48, false)), []⟩, ⟨(some 50), .b (.bin .neq (.r 49) (.c (.int .i64 0))), (some (48, false)), []⟩, op 51 (.pick (.r 48) (.c (.bool true)) (.r 50)), op 52 (.mov (.r 51)), ⟨(some 53), .b (.mov (.r 11)), (some (52, false)), []⟩, ⟨(some 54), .call 12 [(.r 53)], (some (52, false)), []⟩, ⟨(some 55), .b (.un .not (.r 54)), (some (52, false)), []⟩, op 56 (.pick (.r 52) (.c (.bool true)) (.r 55)), op 57 (.mov (.r 56)), ⟨(some 58), .b (.mov (.r 11)), (some (57, false)), []⟩, ⟨(some 59), .call 14 [(.r 58)], (some (57, false)), []⟩, ⟨(some 60), .b (.mov (.r 12)), (some (57, false)), []⟩, ⟨(some 61), .b (.len .sl (.r 60)), (some (57, false)), []⟩, ⟨(some 62), .b (.bin .eql (.r 61) (.c (.int .i64 0))), (some (57, false)), []⟩, ⟨(some 63), .b (.beq true (.r 59) (.r 62)), (some (57, false)), []⟩, op 64 (.pick (.r 57) (.c (.bool true)) (.r 63))]) <|
  .cond (.r 64)
    (sq (.ops [op 10 (.mov (.c (.bool false)))]) <|
    .ret)
    (.skip)) <|
  sq (.ops [op 14 (.mov (.c (.sl .nil [])))]) <|
  sq (sq (.ops [op 15 (.mov (.c (.int .i64 0)))]) <|
  .block 0 (
    .loop (
      sq (sq (.ops [op 65 (.mov (.r 15)), op 66 (.mov (.r 4)), op 67 (.len .sl (.r 66)), op 68 (.bin .lss (.r 65) (.r 67)), op 69 (.mov (.r 68)), ⟨(some 70), .b (.mov (.r 0)), (some (69, true)), []⟩, ⟨(some 71), .b (.len .sl (.r 70)), (some (69, true)), []⟩, ⟨(some 72), .b (.bin .gtr (.r 71) (.c (.int .i64 0))), (some (69, true)), []⟩, op 73 (.pick (.r 69) (.r 72) (.c (.bool false))), op 74 (.mov (.r 73)), ⟨(some 75), .b (.mov (.r 15)), (some (74, true)), []⟩, ⟨(some 76), .b (.bin .lss (.r 75) (.c (.int .i64 20))), (some (74, true)), []⟩, op 77 (.pick (.r 74) (.r 76) (.c (.bool false)))]) <|
      .cond (.r 77)
        (.skip)
        (.exit 0)) <|
      sq (.block 1 (
        sq (.ops [op 80 (.mov (.r 4)), op 81 (.mov (.r 15)), op 82 (.iad 1 (.r 80) (.r 81)), op 83 (.ld 1 false (.r 82)), op 84 (.mov (.r 0)), op 85 (.len .sl (.r 84)), op 86 (.bin .sub (.r 85) (.c (.int .i64 1))), cl 87 20 [(.r 83), (.r 86)], op 16 (.mov (.r 87))]) <|
        .ops [op 88 (.mov (.r 14)), op 89 (.mov (.r 0)), op 90 (.mov (.r 16)), op 91 (.mov (.r 0)), op 92 (.mov (.r 16)), op 93 (.iad 1 (.r 91) (.r 92)), op 94 (.ld 1 false (.r 93)), cl 95 22 [(.r 94)], op 96 (.iad 1 (.r 95) (.c (.int .i64 0))), op 97 (.ld 1 false (.r 96)), cl 98 21 [(.r 89), (.r 90), (.r 97)], op 99 (.bsl 1 [.str ⟨#[]⟩, .int .u64 0, .str ⟨#[]⟩, .sl .nil []] [(0, (.r 98))]), op 100 (.app 4 64 false (.r 88) (.r 99)), op 14 (.mov (.r 100))])) <|
      .ops [op 78 (.mov (.r 15)), op 79 (.bin .add (.r 78) (.c (.int .i64 1))), op 15 (.mov (.r 79))]))) <|
  sq (sq (.ops [op 101 (.mov (.r 12)), op 102 (.len .sl (.r 101)), op 103 (.bin .sub (.r 102) (.c (.int .i64 1))), op 17 (.mov (.r 103))]) <|
  .block 2 (
    .loop (
      sq (sq (.ops [op 104 (.mov (.r 17)), op 105 (.bin .geq (.r 104) (.c (.int .i64 0)))]) <|
      .cond (.r 105)
        (.skip)
        (.exit 2)) <|
      sq (.block 3 (
        sq (.ops [op 108 (.mov (.r 12)), op 109 (.mov (.r 17)), op 110 (.iad 2 (.r 108) (.r 109)), op 111 (.fad 1 (.r 110)), op 112 (.ld 1 false (.r 111)), op 113 (.bin .quo (.r 112) (.c (.int .u64 65536))), op 114 (.cvi .i64 (.r 113)), op 115 (.bin .sub (.r 114) (.c (.int .i64 1))), op 18 (.mov (.r 115))]) <|
        sq (sq (.ops [op 116 (.mov (.r 18)), op 117 (.bin .lss (.r 116) (.c (.int .i64 0))), op 118 (.mov (.r 117)), ⟨(some 119), .b (.mov (.r 18)), (some (118, false)), []⟩, ⟨(some 120), .b (.mov (.r 0)), (some (118, false)), []⟩, ⟨(some 121), .b (.len .sl (.r 120)), (some (118, false)), []⟩, ⟨(some 122), .b (.bin .geq (.r 119) (.r 121)), (some (118, false)), []⟩, op 123 (.pick (.r 118) (.c (.bool true)) (.r 122)), op 124 (.mov (.r 123)), ⟨(some 125), .b (.mov (.r 0)), (some (124, false)), []⟩, ⟨(some 126), .b (.mov (.r 18)), (some (124, false)), []⟩, ⟨(some 127), .b (.iad 1 (.r 125) (.r 126)), (some (124, false)), []⟩, ⟨(some 128), .b (.ld 1 false (.r 127)), (some (124, false)), []⟩, ⟨(some 130), .b (.mov (.r 12)), (some (124, false)), []⟩, ⟨(some 131), .b (.mov (.r 17)), (some (124, false)), []⟩, ⟨(some 132), .b (.iad 2 (.r 130) (.r 131)), (some (124, false)), []⟩, ⟨(some 133), .b (.fad 0 (.r 132)), (some (124, false)), []⟩, ⟨(some 134), .b (.ld 1 false (.r 133)), (some (124, false)), []⟩, ⟨(some 129), .call 22 [(.r 128)], (some (124, false)), [⟨134, .ld 1 false (.r 133), (some (124, false))⟩]⟩, ⟨(some 135), .call 23 [(.r 129), (.r 134)], (some (124, false)), []⟩, ⟨(some 136), .b (.un .not (.r 135)), (some (124, false)), []⟩, op 137 (.pick (.r 124) (.c (.bool true)) (.r 136))]) <|
        .cond (.r 137)
          (sq (.ops [op 10 (.mov (.c (.bool false)))]) <|
          .ret)
          (.skip)) <|
        .ops [op 138 (.mov (.r 14)), op 139 (.mov (.r 0)), op 140 (.mov (.r 18)), op 141 (.mov (.r 12)), op 142 (.mov (.r 17)), op 143 (.iad 2 (.r 141) (.r 142)), op 144 (.fad 0 (.r 143)), op 145 (.ld 1 false (.r 144)), cl 146 21 [(.r 139), (.r 140), (.r 145)], op 147 (.bsl 1 [.str ⟨#[]⟩, .int .u64 0, .str ⟨#[]⟩, .sl .nil []] [(0, (.r 146))]), op 148 (.app 4 64 false (.r 138) (.r 147)), op 14 (.mov (.r 148))])) <|
      .ops [op 106 (.mov (.r 17)), op 107 (.bin .sub (.r 106) (.c (.int .i64 1))), op 17 (.mov (.r 107))]))) <|
  sq (.ops [op 150 (.mov (.r 11)), op 151 (.mov (.r 14)), cl 152 16 [(.r 150), (.r 151)], op 149 (.mov (.r 152)), op 153 (.ext 0 (.r 149)), op 154 (.ext 1 (.r 149)), op 19 (.mov (.r 153)), op 20 (.mov (.r 154))]) <|
  sq (sq (.ops [op 155 (.mov (.r 20)), op 156 (.bin .neq (.r 155) (.c (.int .i64 0))), op 157 (.mov (.r 156)), ⟨(some 158), .b (.mov (.r 19)), (some (157, false)), []⟩, ⟨(some 159), .b (.len .sl (.r 158)), (some (157, false)), []⟩, ⟨(some 160), .b (.mov (.r 11)), (some (157, false)), []⟩, ⟨(some 161), .b (.len .sl (.r 160)), (some (157, false)), []⟩, ⟨(some 162), .b (.bin .neq (.r 159) (.r 161)), (some (157, false)), []⟩, op 163 (.pick (.r 157) (.c (.bool true)) (.r 162)), op 164 (.mov (.r 163)), ⟨(some 165), .b (.mov (.r 19)), (some (164, false)), []⟩, ⟨(some 166), .call 12 [(.r 165)], (some (164, false)), []⟩, ⟨(some 167), .b (.un .not (.r 166)), (some (164, false)), []⟩, op 168 (.pick (.r 164) (.c (.bool true)) (.r 167)), op 169 (.mov (.r 168)), ⟨(some 170), .b (.mov (.r 19)), (some (169, false)), []⟩, ⟨(some 171), .call 14 [(.r 170)], (some (169, false)), []⟩, ⟨(some 172), .b (.un .not (.r 171)), (some (169, false)), []⟩, op 173 (.pick (.r 169) (.c (.bool true)) (.r 172))]) <|
  .cond (.r 173)
    (sq (.ops [op 10 (.mov (.c (.bool false)))]) <|
    .ret)
    (.skip)) <|
  sq (sq (.ops [op 21 (.mov (.c (.int .i64 0)))]) <|
  .block 4 (
    .loop (
      sq (sq (.ops [op 174 (.mov (.r 21)), op 175 (.mov (.r 19)), op 176 (.len .sl (.r 175)), op 177 (.bin .lss (.r 174) (.r 176))]) <|
      .cond (.r 177)
        (.skip)
        (.exit 4)) <|
      sq (.block 5 (
        sq (sq (.ops [op 22 (.mov (.c (.int .i64 0)))]) <|
        .block 6 (
          .loop (
            sq (sq (.ops [op 180 (.mov (.r 22)), op 181 (.mov (.r 19)), op 182 (.len .sl (.r 181)), op 183 (.bin .lss (.r 180) (.r 182))]) <|
            .cond (.r 183)
              (.skip)
              (.exit 6)) <|
            sq (.block 7 (
              sq (.ops [op 186 (.mov (.r 19)), op 187 (.mov (.r 21)), op 188 (.iad 4 (.r 186) (.r 187)), op 189 (.fad 3 (.r 188)), op 190 (.ld 1 false (.r 189)), op 191 (.mov (.r 19)), op 192 (.mov (.r 22)), op 193 (.iad 4 (.r 191) (.r 192)), op 194 (.fad 0 (.r 193)), op 195 (.ld 1 false (.r 194)), cl 196 23 [(.r 190), (.r 195)], op 197 (.mov (.r 196)), ⟨(some 198), .b (.mov (.r 19)), (some (197, true)), []⟩, ⟨(some 199), .b (.mov (.r 22)), (some (197, true)), []⟩, ⟨(some 200), .b (.iad 4 (.r 198) (.r 199)), (some (197, true)), []⟩, ⟨(some 201), .b (.fad 1 (.r 200)), (some (197, true)), []⟩, ⟨(some 202), .b (.ld 1 false (.r 201)), (some (197, true)), []⟩, ⟨(some 203), .b (.mov (.r 19)), (some (197, true)), []⟩, ⟨(some 204), .b (.mov (.r 21)), (some (197, true)), []⟩, ⟨(some 205), .b (.iad 4 (.r 203) (.r 204)), (some (197, true)), []⟩, ⟨(some 206), .b (.fad 1 (.r 205)), (some (197, true)), []⟩, ⟨(some 207), .b (.ld 1 false (.r 206)), (some (197, true)), []⟩, ⟨(some 208), .b (.bin .lss (.r 202) (.r 207)), (some (197, true)), []⟩, op 209 (.pick (.r 197) (.r 208) (.c (.bool false)))]) <|
              .cond (.r 209)
                (sq (.ops [op 10 (.mov (.c (.bool false)))]) <|
                .ret)
                (.skip))) <|
            .ops [op 184 (.mov (.r 22)), op 185 (.bin .add (.r 184) (.c (.int .i64 1))), op 22 (.mov (.r 185))]))) <|
        sq (.ops [op 23 (.mov (.c (.bool false)))]) <|
        sq (sq (.ops [op 24 (.mov (.c (.int .i64 0)))]) <|
        .block 8 (
          .loop (
            sq (sq (.ops [op 210 (.mov (.r 24)), op 211 (.mov (.r 12)), op 212 (.len .sl (.r 211)), op 213 (.bin .lss (.r 210) (.r 212))]) <|
            .cond (.r 213)
              (.skip)
              (.exit 8)) <|
            sq (.block 9 (
              .ops [op 216 (.mov (.r 23)), op 217 (.mov (.r 216)), ⟨(some 218), .b (.mov (.r 12)), (some (217, false)), []⟩, ⟨(some 219), .b (.mov (.r 24)), (some (217, false)), []⟩, ⟨(some 220), .b (.iad 2 (.r 218) (.r 219)), (some (217, false)), []⟩, ⟨(some 221), .b (.fad 0 (.r 220)), (some (217, false)), []⟩, ⟨(some 222), .b (.ld 1 false (.r 221)), (some (217, false)), []⟩, ⟨(some 223), .b (.mov (.r 11)), (some (217, false)), []⟩, ⟨(some 224), .b (.mov (.r 21)), (some (217, false)), []⟩, ⟨(some 225), .b (.iad 4 (.r 223) (.r 224)), (some (217, false)), []⟩, ⟨(some 226), .b (.fad 0 (.r 225)), (some (217, false)), []⟩, ⟨(some 227), .b (.ld 1 false (.r 226)), (some (217, false)), []⟩, ⟨(some 228), .b (.bin .eql (.r 222) (.r 227)), (some (217, false)), []⟩, op 229 (.pick (.r 217) (.c (.bool true)) (.r 228)), op 23 (.mov (.r 229))])) <|
            .ops [op 214 (.mov (.r 24)), op 215 (.bin .add (.r 214) (.c (.int .i64 1))), op 24 (.mov (.r 215))]))) <|
        sq (.ops [op 25 (.mov (.c (.bool false)))]) <|
        sq (sq (.ops [op 26 (.mov (.c (.int .i64 0)))]) <|
        .block 10 (
          .loop (
            sq (sq (.ops [op 230 (.mov (.r 26)), op 231 (.mov (.r 11)), op 232 (.len .sl (.r 231)), op 233 (.bin .lss (.r 230) (.r 232))]) <|
            .cond (.r 233)
              (.skip)
              (.exit 10)) <|
            sq (.block 11 (
              .ops [op 236 (.mov (.r 25)), op 237 (.mov (.r 236)), ⟨(some 238), .b (.mov (.r 11)), (some (237, false)), []⟩, ⟨(some 239), .b (.mov (.r 26)), (some (237, false)), []⟩, ⟨(some 240), .b (.iad 4 (.r 238) (.r 239)), (some (237, false)), []⟩, ⟨(some 241), .b (.fad 1 (.r 240)), (some (237, false)), []⟩, ⟨(some 242), .b (.ld 1 false (.r 241)), (some (237, false)), []⟩, ⟨(some 243), .b (.mov (.r 19)), (some (237, false)), []⟩, ⟨(some 244), .b (.mov (.r 21)), (some (237, false)), []⟩, ⟨(some 245), .b (.iad 4 (.r 243) (.r 244)), (some (237, false)), []⟩, ⟨(some 246), .b (.fad 1 (.r 245)), (some (237, false)), []⟩, ⟨(some 247), .b (.ld 1 false (.r 246)), (some (237, false)), []⟩, ⟨(some 248), .b (.bin .eql (.r 242) (.r 247)), (some (237, false)), []⟩, op 249 (.pick (.r 237) (.c (.bool true)) (.r 248)), op 25 (.mov (.r 249))])) <|
            .ops [op 234 (.mov (.r 26)), op 235 (.bin .add (.r 234) (.c (.int .i64 1))), op 26 (.mov (.r 235))]))) <|
        sq (.ops [op 250 (.mov (.r 19)), op 251 (.mov (.r 21)), op 252 (.iad 4 (.r 250) (.r 251)), op 253 (.fad 0 (.r 252)), op 254 (.ld 1 false (.r 253)), op 255 (.mov (.r 11)), op 256 (.mov (.r 21)), op 257 (.iad 4 (.r 255) (.r 256)), op 258 (.fad 0 (.r 257)), op 259 (.ld 1 false (.r 258)), op 260 (.bin .neq (.r 254) (.r 259)), op 261 (.mov (.r 260)), ⟨(some 262), .b (.mov (.r 19)), (some (261, false)), []⟩, ⟨(some 263), .b (.mov (.r 21)), (some (261, false)), []⟩, ⟨(some 264), .b (.iad 4 (.r 262) (.r 263)), (some (261, false)), []⟩, ⟨(some 265), .b (.fad 1 (.r 264)), (some (261, false)), []⟩, ⟨(some 266), .b (.ld 1 false (.r 265)), (some (261, false)), []⟩, ⟨(some 267), .b (.mov (.r 11)), (some (261, false)), []⟩, ⟨(some 268), .b (.mov (.r 21)), (some (261, false)), []⟩, ⟨(some 269), .b (.iad 4 (.r 267) (.r 268)), (some (261, false)), []⟩, ⟨(some 270), .b (.fad 1 (.r 269)), (some (261, false)), []⟩, ⟨(some 271), .b (.ld 1 false (.r 270)), (some (261, false)), []⟩, ⟨(some 272), .b (.bin .lss (.r 266) (.r 271)), (some (261, false)), []⟩, op 273 (.pick (.r 261) (.c (.bool true)) (.r 272)), op 274 (.mov (.r 273)), ⟨(some 275), .b (.mov (.r 25)), (some (274, false)), []⟩, ⟨(some 276), .b (.un .not (.r 275)), (some (274, false)), []⟩, op 277 (.pick (.r 274) (.c (.bool true)) (.r 276)), op 278 (.mov (.r 277)), ⟨(some 279), .b (.mov (.r 23)), (some (278, false)), []⟩, ⟨(some 280), .b (.un .not (.r 279)), (some (278, false)), []⟩, ⟨(some 281), .b (.mov (.r 280)), (some (278, false)), []⟩, ⟨(some 282), .b (.mov (.r 19)), (some (281, true)), []⟩, ⟨(some 283), .b (.mov (.r 21)), (some (281, true)), []⟩, ⟨(some 284), .b (.mov (.r 21)), (some (281, true)), []⟩, ⟨(some 285), .b (.bin .add (.r 284) (.c (.int .i64 1))), (some (281, true)), []⟩, ⟨(some 286), .b (.sll 4 (.r 282) (some (.r 283)) (some (.r 285)) none), (some (281, true)), []⟩, ⟨(some 287), .b (.mov (.r 11)), (some (281, true)), []⟩, ⟨(some 288), .b (.mov (.r 21)), (some (281, true)), []⟩, ⟨(some 289), .b (.mov (.r 21)), (some (281, true)), []⟩, ⟨(some 290), .b (.bin .add (.r 289) (.c (.int .i64 1))), (some (281, true)), []⟩, ⟨(some 291), .b (.sll 4 (.r 287) (some (.r 288)) (some (.r 290)) none), (some (281, true)), []⟩, ⟨(some 292), .call 18 [(.r 286), (.r 291)], (some (281, true)), []⟩, ⟨(some 293), .b (.un .not (.r 292)), (some (281, true)), []⟩, ⟨(some 294), .b (.pick (.r 281) (.r 293) (.c (.bool false))), (some (278, false)), []⟩, op 295 (.pick (.r 278) (.c (.bool true)) (.r 294)), op 296 (.mov (.r 295)), ⟨(some 297), .b (.mov (.r 23)), (some (296, false)), []⟩, ⟨(some 298), .b (.mov (.r 297)), (some (296, false)), []⟩, ⟨(some 299), .b (.mov (.r 19)), (some (298, true)), []⟩, ⟨(some 300), .b (.mov (.r 21)), (some (298, true)), []⟩, ⟨(some 301), .b (.iad 4 (.r 299) (.r 300)), (some (298, true)), []⟩, ⟨(some 302), .b (.fad 1 (.r 301)), (some (298, true)), []⟩, ⟨(some 303), .b (.ld 1 false (.r 302)), (some (298, true)), []⟩, ⟨(some 304), .b (.mov (.r 11)), (some (298, true)), []⟩, ⟨(some 305), .b (.mov (.r 21)), (some (298, true)), []⟩, ⟨(some 306), .b (.iad 4 (.r 304) (.r 305)), (some (298, true)), []⟩, ⟨(some 307), .b (.fad 1 (.r 306)), (some (298, true)), []⟩, ⟨(some 308), .b (.ld 1 false (.r 307)), (some (298, true)), []⟩, ⟨(some 309), .b (.bin .eql (.r 303) (.r 308)), (some (298, true)), []⟩, ⟨(some 310), .b (.pick (.r 298) (.r 309) (.c (.bool false))), (some (296, false)), []⟩, op 311 (.pick (.r 296) (.c (.bool true)) (.r 310))]) <|
        .cond (.r 311)
          (sq (.ops [op 10 (.mov (.c (.bool false)))]) <|
          .ret)
          (.skip))) <|
      .ops [op 178 (.mov (.r 21)), op 179 (.bin .add (.r 178) (.c (.int .i64 1))), op 21 (.mov (.r 179))]))) <|
  sq (.ops [op 313 (.mov (.r 19)), cl 314 9 [(.r 313)], op 312 (.mov (.r 314)), op 315 (.ext 0 (.r 312)), op 316 (.ext 1 (.r 312)), op 27 (.mov (.r 315)), op 28 (.mov (.r 316))]) <|
  sq (.ops [op 318 (.mov (.r 19)), cl 319 16 [(.r 318), (.c (.sl .nil []))], op 317 (.mov (.r 319)), op 320 (.ext 0 (.r 317)), op 321 (.ext 1 (.r 317)), op 29 (.mov (.r 320)), op 30 (.mov (.r 321))]) <|
  sq (.ops [op 322 (.mov (.r 28)), op 323 (.bin .eql (.r 322) (.c (.int .i64 0))), op 324 (.mov (.r 323)), ⟨(some 325), .b (.mov (.r 27)), (some (324, true)), []⟩, ⟨(some 326), .b (.len .sl (.r 325)), (some (324, true)), []⟩, ⟨(some 327), .b (.bin .eql (.r 326) (.c (.int .i64 0))), (some (324, true)), []⟩, op 328 (.pick (.r 324) (.r 327) (.c (.bool false))), op 329 (.mov (.r 328)), ⟨(some 330), .b (.mov (.r 30)), (some (329, true)), []⟩, ⟨(some 331), .b (.bin .eql (.r 330) (.c (.int .i64 0))), (some (329, true)), []⟩, op 332 (.pick (.r 329) (.r 331) (.c (.bool false))), op 333 (.mov (.r 332)), ⟨(some 334), .b (.mov (.r 29)), (some (333, true)), []⟩, ⟨(some 335), .b (.mov (.r 19)), (some (333, true)), []⟩, ⟨(some 336), .call 18 [(.r 334), (.r 335)], (some (333, true)), []⟩, op 337 (.pick (.r 333) (.r 336) (.c (.bool false))), op 10 (.mov (.r 337))]) <|
  .ret⟩

-- rampart/rampartlaw17.FixMissing
def an6 : An := ⟨[], [(21, [(0, true), (1, true), (2, true), (3, true), (4, true), (5, true), (6, true), (7, true), (8, true), (9, false), (10, false)])]⟩
def ir6 : Go.Rmp.Fn := ⟨147, 5, [.t 10],
  sq (.ops [op 10 (.mov (.c (.bool false)))]) <|
  sq (.ops [op 23 (.mov (.r 0)), op 24 (.mov (.r 0)), op 25 (.len .sl (.r 24)), op 26 (.mn (.r 25) (.c (.int .i64 60))), op 27 (.sll 1 (.r 23) none (some (.r 26)) none), op 0 (.mov (.r 27))]) <|
  sq (.ops [op 28 (.mov (.r 0)), op 29 (.mov (.r 1)), op 30 (.mov (.r 2)), op 31 (.mov (.r 3)), cl 32 19 [(.r 28), (.r 29), (.r 30), (.r 31)], op 11 (.mov (.r 32))]) <|
  sq (.ops [op 34 (.mov (.r 11)), cl 35 9 [(.r 34)], op 33 (.mov (.r 35)), op 36 (.ext 0 (.r 33)), op 37 (.ext 1 (.r 33)), op 12 (.mov (.r 36)), op 13 (.mov (.r 37))]) <|
  sq (sq (.ops [cl 38 11 [], op 39 (.un .not (.r 38)), op 40 (.mov (.r 39)), ⟨(some 41), .b (.mov (.r 13)), (some (40, false)), []⟩, ⟨(some 42), .b (.bin .neq (.r 41) (.c (.int .i64 0))), (some (40, false)), []⟩, op 43 (.pick (.r 40) (.c (.bool true)) (.r 42))]) <|
  .cond (.r 43)
    (sq (.ops [op 10 (.mov (.c (.bool false)))]) <|
    .ret)
    (.skip)) <|
  sq (sq (.ops [op 44 (.mov (.r 12)), op 45 (.len .sl (.r 44)), op 46 (.bin .eql (.r 45) (.c (.int .i64 0)))]) <|
  .cond (.r 46)
    (sq (.ops [op 48 (.mov (.r 11)), op 49 (.build [.str ⟨#[]⟩, .int .u64 0, .str ⟨#[]⟩, .sl .nil []] [(0, 1, (.c (.str ⟨#[122, 122]⟩))), (1, 1, (.c (.int .u64 3)))]), op 50 (.build [.str ⟨#[]⟩, .int .u64 0, .str ⟨#[]⟩, .sl .nil []] []), op 51 (.bsl 2 [.str ⟨#[]⟩, .int .u64 0, .str ⟨#[]⟩, .sl .nil []] [(0, (.r 49)), (1, (.r 50))]), cl 52 16 [(.r 48), (.r 51)], op 47 (.mov (.r 52)), op 53 (.ext 0 (.r 47)), op 54 (.ext 1 (.r 47)), op 14 (.mov (.r 53)), op 15 (.mov (.r 54))]) <|
    sq (.ops [op 55 (.mov (.r 15)), op 56 (.bin .eql (.r 55) (.c (.int .i64 0))), op 57 (.mov (.r 56)), ⟨(some 58), .b (.mov (.r 14)), (some (57, true)), []⟩, ⟨(some 59), .b (.mov (.r 11)), (some (57, true)), []⟩, ⟨(some 60), .call 18 [(.r 58), (.r 59)], (some (57, true)), []⟩, op 61 (.pick (.r 57) (.r 60) (.c (.bool false))), op 10 (.mov (.r 61))]) <|
    .ret)
    (.skip)) <|
  sq (.ops [op 62 (.mov (.r 4)), op 63 (.mov (.r 12)), op 64 (.len .sl (.r 63)), op 65 (.bin .sub (.r 64) (.c (.int .i64 1))), cl 66 20 [(.r 62), (.r 65)], op 16 (.mov (.r 66))]) <|
  sq (.ops [op 17 (.mov (.c (.sl .nil [])))]) <|
  sq (sq (.ops [op 18 (.mov (.c (.int .i64 0)))]) <|
  .block 0 (
    .loop (
      sq (sq (.ops [op 67 (.mov (.r 18)), op 68 (.mov (.r 12)), op 69 (.len .sl (.r 68)), op 70 (.bin .lss (.r 67) (.r 69))]) <|
      .cond (.r 70)
        (.skip)
        (.exit 0)) <|
      sq (.block 1 (
        sq (.ops [op 73 (.mov (.r 12)), op 74 (.mov (.r 18)), op 75 (.iad 2 (.r 73) (.r 74)), op 76 (.fad 1 (.r 75)), op 77 (.ld 1 false (.r 76)), op 78 (.bin .quo (.r 77) (.c (.int .u64 65536))), op 79 (.cvi .i64 (.r 78)), op 80 (.bin .sub (.r 79) (.c (.int .i64 1))), op 19 (.mov (.r 80))]) <|
        sq (sq (.ops [op 81 (.mov (.r 19)), op 82 (.bin .lss (.r 81) (.c (.int .i64 0))), op 83 (.mov (.r 82)), ⟨(some 84), .b (.mov (.r 19)), (some (83, false)), []⟩, ⟨(some 85), .b (.mov (.r 0)), (some (83, false)), []⟩, ⟨(some 86), .b (.len .sl (.r 85)), (some (83, false)), []⟩, ⟨(some 87), .b (.bin .geq (.r 84) (.r 86)), (some (83, false)), []⟩, op 88 (.pick (.r 83) (.c (.bool true)) (.r 87))]) <|
        .cond (.r 88)
          (sq (.ops [op 10 (.mov (.c (.bool false)))]) <|
          .ret)
          (.skip)) <|
        sq (sq (.ops [op 89 (.mov (.r 18)), op 90 (.mov (.r 16)), op 91 (.bin .neq (.r 89) (.r 90))]) <|
        .cond (.r 91)
          (sq (.ops [op 92 (.mov (.r 17)), op 93 (.mov (.r 0)), op 94 (.mov (.r 19)), op 95 (.mov (.r 12)), op 96 (.mov (.r 18)), op 97 (.iad 2 (.r 95) (.r 96)), op 98 (.fad 0 (.r 97)), op 99 (.ld 1 false (.r 98)), cl 100 21 [(.r 93), (.r 94), (.r 99)], op 101 (.bsl 1 [.str ⟨#[]⟩, .int .u64 0, .str ⟨#[]⟩, .sl .nil []] [(0, (.r 100))]), op 102 (.app 4 64 false (.r 92) (.r 101)), op 17 (.mov (.r 102))]) <|
          .exit 1)
          (.skip)) <|
        sq (.ops [op 103 (.mov (.r 0)), op 104 (.mov (.r 19)), op 105 (.mov (.r 12)), op 106 (.mov (.r 18)), op 107 (.iad 2 (.r 105) (.r 106)), op 108 (.fad 0 (.r 107)), op 109 (.ld 1 false (.r 108)), cl 110 21 [(.r 103), (.r 104), (.r 109)], op 20 (.alloc [.str ⟨#[]⟩, .int .u64 0, .str ⟨#[]⟩, .sl .nil []]), ef (.st 4 (.r 20) (.r 110))]) <|
        sq (.ops [op 111 (.fad 1 (.r 20)), op 112 (.ld 1 false (.r 111)), op 113 (.bin .add (.r 112) (.c (.int .u64 1))), op 114 (.fad 1 (.r 20)), ef (.st 1 (.r 114) (.r 113))]) <|
        sq (.ops [op 115 (.mov (.r 17)), op 116 (.ld 4 true (.r 20)), op 117 (.mov (.r 12)), op 118 (.mov (.r 18)), op 119 (.iad 2 (.r 117) (.r 118)), op 120 (.fad 0 (.r 119)), op 121 (.ld 1 false (.r 120)), op 122 (.build [.str ⟨#[]⟩, .int .u64 0, .str ⟨#[]⟩, .sl .nil []] [(0, 1, (.r 121))]), op 123 (.bsl 2 [.str ⟨#[]⟩, .int .u64 0, .str ⟨#[]⟩, .sl .nil []] [(0, (.r 116)), (1, (.r 122))]), op 124 (.app 4 64 false (.r 115) (.r 123)), op 17 (.mov (.r 124))]) <|
        sq (.ops [op 125 (.fad 1 (.r 20)), op 126 (.ld 1 false (.r 125)), op 127 (.bin .sub (.r 126) (.c (.int .u64 1))), op 128 (.fad 1 (.r 20)), ef (.st 1 (.r 128) (.r 127))]) <|
        sq (.ops [op 129 (.fad 0 (.r 20)), ef (.st 1 (.r 129) (.c (.str ⟨#[122, 122]⟩)))]) <|
        .ops [op 130 (.mov (.r 17)), op 131 (.ld 4 true (.r 20)), op 132 (.bsl 1 [.str ⟨#[]⟩, .int .u64 0, .str ⟨#[]⟩, .sl .nil []] [(0, (.r 131))]), op 133 (.app 4 64 false (.r 130) (.r 132)), op 17 (.mov (.r 133))])) <|
      .ops [op 71 (.mov (.r 18)), op 72 (.bin .add (.r 71) (.c (.int .i64 1))), op 18 (.mov (.r 72))]))) <|
  sq (.ops [op 135 (.mov (.r 11)), op 136 (.mov (.r 17)), cl 137 16 [(.r 135), (.r 136)], op 134 (.mov (.r 137)), op 138 (.ext 0 (.r 134)), op 139 (.ext 1 (.r 134)), op 21 (.mov (.r 138)), op 22 (.mov (.r 139))]) <|
  sq (.ops [op 140 (.mov (.r 22)), op 141 (.bin .eql (.r 140) (.c (.int .i64 110))), op 142 (.mov (.r 141)), ⟨(some 143), .b (.mov (.r 21)), (some (142, true)), []⟩, ⟨(some 144), .b (.len .sl (.r 143)), (some (142, true)), []⟩, ⟨(some 145), .b (.bin .eql (.r 144) (.c (.int .i64 0))), (some (142, true)), []⟩, op 146 (.pick (.r 142) (.r 145) (.c (.bool false))), op 10 (.mov (.r 146))]) <|
  .ret⟩

-- rampart/rampartlaw17.FixOdd
def an7 : An := ⟨[(9, 3), (24, 4)], []⟩
def ir7 : Go.Rmp.Fn := ⟨162, 5, [.t 10],
  sq (.ops [op 10 (.mov (.c (.bool false)))]) <|
  sq (.ops [op 18 (.mov (.r 0)), op 19 (.mov (.r 0)), op 20 (.len .sl (.r 19)), op 21 (.mn (.r 20) (.c (.int .i64 20))), op 22 (.sll 1 (.r 18) none (some (.r 21)) none), op 0 (.mov (.r 22))]) <|
  sq (.ops [op 23 (.mov (.r 0)), op 24 (.mov (.r 1)), op 25 (.mov (.r 2)), cl 26 19 [(.r 23), (.r 24), (.c (.int .i64 0)), (.r 25)], op 11 (.mov (.r 26))]) <|
  sq (sq (.ops [cl 27 11 [], op 28 (.un .not (.r 27)), op 29 (.mov (.r 28)), ⟨(some 30), .b (.mov (.r 11)), (some (29, false)), []⟩, ⟨(some 31), .call 12 [(.r 30)], (some (29, false)), []⟩, ⟨(some 32), .b (.un .not (.r 31)), (some (29, false)), []⟩, op 33 (.pick (.r 29) (.c (.bool true)) (.r 32))]) <|
  .cond (.r 33)
    (sq (.ops [op 10 (.mov (.c (.bool false)))]) <|
    .ret)
    (.skip)) <|
  sq (.ops [op 34 (.mov (.r 3)), op 35 (.mov (.r 11)), op 36 (.len .sl (.r 35)), op 37 (.bin .sub (.r 36) (.c (.int .i64 1))), cl 38 20 [(.r 34), (.r 37)], op 12 (.mov (.r 38))]) <|
  sq (.ops [op 39 (.mov (.r 11)), op 40 (.mov (.r 12)), op 41 (.iad 4 (.r 39) (.r 40)), op 42 (.ld 4 true (.r 41)), op 13 (.alloc [.str ⟨#[]⟩, .int .u64 0, .str ⟨#[]⟩, .sl .nil []]), ef (.st 4 (.r 13) (.r 42))]) <|
  sq (sq (.ops [op 43 (.mov (.r 4)), cl 44 20 [(.r 43), (.c (.int .i64 6))]]) <|
  .block 0 (
    sq (.ops [op 46 (.bin .eql (.r 44) (.c (.int .i64 0))), op 45 (.mov (.r 46))]) <|
    .cond (.r 45)
      (.ops [op 47 (.mov (.r 11)), op 48 (.ld 4 true (.r 13)), op 49 (.bsl 1 [.str ⟨#[]⟩, .int .u64 0, .str ⟨#[]⟩, .sl .nil []] [(0, (.r 48))]), op 50 (.app 4 64 true (.r 47) (.r 49)), op 11 (.mov (.r 50))])
      (sq (.ops [op 52 (.bin .eql (.r 44) (.c (.int .i64 1))), op 51 (.mov (.r 52))]) <|
      .cond (.r 51)
        (sq (.ops [op 53 (.mov (.r 3)), cl 54 20 [(.r 53), (.c (.int .i64 65534))], op 55 (.bin .add (.c (.int .i64 1)) (.r 54)), op 56 (.cvi .u64 (.r 55)), op 57 (.fad 1 (.r 13)), ef (.st 1 (.r 57) (.r 56))]) <|
        sq (.ops [op 58 (.fad 0 (.r 13)), op 59 (.ld 1 false (.r 58)), op 60 (.bsl 1 [.str ⟨#[]⟩] [(0, (.r 59))]), op 61 (.fad 3 (.r 13)), ef (.st 1 (.r 61) (.r 60))]) <|
        .ops [op 62 (.mov (.r 11)), op 63 (.mov (.r 12)), op 64 (.ld 4 true (.r 13)), op 65 (.iad 4 (.r 62) (.r 63)), ef (.st 4 (.r 65) (.r 64))])
        (sq (.ops [op 67 (.bin .eql (.r 44) (.c (.int .i64 2))), op 66 (.mov (.r 67))]) <|
        .cond (.r 66)
          (.ops [op 68 (.mov (.r 11)), op 69 (.mov (.r 12)), op 70 (.fad 0 (.r 13)), op 71 (.ld 1 false (.r 70)), op 72 (.build [.str ⟨#[]⟩, .int .u64 0, .str ⟨#[]⟩, .sl .nil []] [(0, 1, (.r 71)), (2, 1, (.c (.str ⟨#[118]⟩)))]), op 73 (.iad 4 (.r 68) (.r 69)), ef (.st 4 (.r 73) (.r 72))])
          (sq (.ops [op 75 (.bin .eql (.r 44) (.c (.int .i64 3))), op 74 (.mov (.r 75))]) <|
          .cond (.r 74)
            (.ops [op 76 (.mov (.r 11)), op 77 (.mov (.r 12)), op 78 (.fad 0 (.r 13)), op 79 (.ld 1 false (.r 78)), op 80 (.fad 0 (.r 13)), op 81 (.ld 1 false (.r 80)), op 82 (.bsl 1 [.str ⟨#[]⟩] [(0, (.r 81))]), op 83 (.build [.str ⟨#[]⟩, .int .u64 0, .str ⟨#[]⟩, .sl .nil []] [(0, 1, (.r 79)), (3, 1, (.r 82))]), op 84 (.iad 4 (.r 76) (.r 77)), ef (.st 4 (.r 84) (.r 83))])
            (sq (.ops [op 86 (.bin .eql (.r 44) (.c (.int .i64 4))), op 85 (.mov (.r 86))]) <|
            .cond (.r 85)
              (.ops [op 87 (.mov (.r 11)), op 88 (.mov (.r 12)), op 89 (.fad 0 (.r 13)), op 90 (.ld 1 false (.r 89)), op 91 (.fad 0 (.r 13)), op 92 (.ld 1 false (.r 91)), op 93 (.bin .add (.r 92) (.c (.str ⟨#[63]⟩))), op 94 (.bsl 1 [.str ⟨#[]⟩] [(0, (.r 93))]), op 95 (.build [.str ⟨#[]⟩, .int .u64 0, .str ⟨#[]⟩, .sl .nil []] [(0, 1, (.r 90)), (1, 1, (.c (.int .u64 1099511627776))), (3, 1, (.r 94))]), op 96 (.iad 4 (.r 87) (.r 88)), ef (.st 4 (.r 96) (.r 95))])
              (sq (.ops [op 98 (.bin .eql (.r 44) (.c (.int .i64 5))), op 97 (.mov (.r 98))]) <|
              .cond (.r 97)
                (.ops [op 99 (.mov (.r 11)), op 100 (.mov (.r 12)), op 101 (.fad 0 (.r 13)), op 102 (.ld 1 false (.r 101)), op 103 (.fad 0 (.r 13)), op 104 (.ld 1 false (.r 103)), op 105 (.fad 0 (.r 13)), op 106 (.ld 1 false (.r 105)), op 107 (.bsl 2 [.str ⟨#[]⟩] [(0, (.r 104)), (1, (.r 106))]), op 108 (.build [.str ⟨#[]⟩, .int .u64 0, .str ⟨#[]⟩, .sl .nil []] [(0, 1, (.r 102)), (1, 1, (.c (.int .u64 1099511627776))), (3, 1, (.r 107))]), op 109 (.iad 4 (.r 99) (.r 100)), ef (.st 4 (.r 109) (.r 108))])
                (sq (.ops [op 111 (.bin .eql (.r 44) (.c (.int .i64 6))), op 110 (.mov (.r 111))]) <|
                .cond (.r 110)
                  (sq (.ops [op 112 (.mov (.r 11)), op 113 (.mov (.r 12)), op 114 (.fad 0 (.r 13)), op 115 (.ld 1 false (.r 114)), op 116 (.fad 0 (.r 13)), op 117 (.ld 1 false (.r 116)), op 118 (.bsl 1 [.str ⟨#[]⟩] [(0, (.r 117))]), op 119 (.build [.str ⟨#[]⟩, .int .u64 0, .str ⟨#[]⟩, .sl .nil []] [(0, 1, (.r 115)), (1, 1, (.c (.int .u64 1099511627776))), (3, 1, (.r 118))]), op 120 (.iad 4 (.r 112) (.r 113)), ef (.st 4 (.r 120) (.r 119))]) <|
                  .ops [op 121 (.mov (.r 11)), op 122 (.bsl 1 [.str ⟨#[]⟩] [(0, (.c (.str ⟨#[122, 122]⟩)))]), op 123 (.build [.str ⟨#[]⟩, .int .u64 0, .str ⟨#[]⟩, .sl .nil []] [(0, 1, (.c (.str ⟨#[122, 122]⟩))), (1, 1, (.c (.int .u64 1099511627776))), (3, 1, (.r 122))]), op 124 (.bsl 1 [.str ⟨#[]⟩, .int .u64 0, .str ⟨#[]⟩, .sl .nil []] [(0, (.r 123))]), op 125 (.app 4 64 true (.r 121) (.r 124)), op 11 (.mov (.r 125))])
                  (.skip))))))))) <|
  sq (.ops [op 127 (.mov (.r 11)), cl 128 9 [(.r 127)], op 126 (.mov (.r 128)), op 129 (.ext 0 (.r 126)), op 130 (.ext 1 (.r 126)), op 14 (.mov (.r 129)), op 15 (.mov (.r 130))]) <|
  sq (.ops [op 132 (.mov (.r 11)), cl 133 16 [(.r 132), (.c (.sl .nil []))], op 131 (.mov (.r 133)), op 134 (.ext 0 (.r 131)), op 135 (.ext 1 (.r 131)), op 16 (.mov (.r 134)), op 17 (.mov (.r 135))]) <|
  sq (.ops [op 136 (.mov (.r 11)), cl 137 12 [(.r 136)], op 138 (.un .not (.r 137)), op 139 (.mov (.r 138)), ⟨(some 140), .b (.mov (.r 11)), (some (139, true)), []⟩, ⟨(some 141), .call 14 [(.r 140)], (some (139, true)), []⟩, ⟨(some 142), .b (.un .not (.r 141)), (some (139, true)), []⟩, op 143 (.pick (.r 139) (.r 142) (.c (.bool false))), op 144 (.mov (.r 143)), ⟨(some 145), .b (.mov (.r 15)), (some (144, true)), []⟩, ⟨(some 146), .b (.bin .eql (.r 145) (.c (.int .i64 1))), (some (144, true)), []⟩, op 147 (.pick (.r 144) (.r 146) (.c (.bool false))), op 148 (.mov (.r 147)), ⟨(some 149), .b (.mov (.r 17)), (some (148, true)), []⟩, ⟨(some 150), .b (.bin .eql (.r 149) (.c (.int .i64 1))), (some (148, true)), []⟩, op 151 (.pick (.r 148) (.r 150) (.c (.bool false))), op 152 (.mov (.r 151)), ⟨(some 153), .b (.mov (.r 14)), (some (152, true)), []⟩, ⟨(some 154), .b (.len .sl (.r 153)), (some (152, true)), []⟩, ⟨(some 155), .b (.bin .eql (.r 154) (.c (.int .i64 0))), (some (152, true)), []⟩, op 156 (.pick (.r 152) (.r 155) (.c (.bool false))), op 157 (.mov (.r 156)), ⟨(some 158), .b (.mov (.r 16)), (some (157, true)), []⟩, ⟨(some 159), .b (.len .sl (.r 158)), (some (157, true)), []⟩, ⟨(some 160), .b (.bin .eql (.r 159) (.c (.int .i64 0))), (some (157, true)), []⟩, op 161 (.pick (.r 157) (.r 160) (.c (.bool false))), op 10 (.mov (.r 161))]) <|
  .ret⟩

-- rampart/rampartlaw17.FixKeeps
def an8 : An := ⟨[], [(18, [(0, true), (1, true), (2, true), (3, true), (4, true), (5, true), (6, true), (8, true), (10, true), (11, true), (12, true), (13, true), (14, true), (15, true), (7, false), (9, false), (16, true), (17, true), (18, true), (19, false)]), (31, [(0, true), (1, true), (2, true), (3, true), (4, true), (5, true), (6, true), (7, true), (8, true), (9, true), (10, true), (11, true), (12, false), (13, false)]), (46, [(0, true), (1, true), (2, true), (3, true), (4, true), (5, true), (6, true), (7, true), (8, true), (9, true), (10, true), (11, true), (12, true), (13, true), (14, true), (15, true), (16, true), (17, true), (18, true), (19, true), (20, true), (21, true)])]⟩
def ir8 : Go.Rmp.Fn := ⟨310, 3, [.t 6],
  sq (.ops [op 6 (.mov (.c (.bool false)))]) <|
  sq (.ops [op 32 (.mov (.r 0)), op 33 (.mov (.r 0)), op 34 (.len .sl (.r 33)), op 35 (.mn (.r 34) (.c (.int .i64 20))), op 36 (.sll 1 (.r 32) none (some (.r 35)) none), op 0 (.mov (.r 36))]) <|
  sq (.ops [op 37 (.mov (.r 0)), op 38 (.mov (.r 1)), op 39 (.mov (.r 2)), cl 40 19 [(.r 37), (.r 38), (.c (.int .i64 0)), (.r 39)], op 7 (.mov (.r 40))]) <|
  sq (.ops [op 41 (.mov (.r 0)), op 42 (.mov (.r 1)), op 43 (.mov (.r 2)), cl 44 19 [(.r 41), (.r 42), (.c (.int .i64 0)), (.r 43)], op 8 (.mov (.r 44))]) <|
  sq (.ops [op 46 (.mov (.r 7)), cl 47 9 [(.r 46)], op 45 (.mov (.r 47)), op 48 (.ext 0 (.r 45)), op 49 (.ext 1 (.r 45)), op 9 (.mov (.r 48)), op 10 (.mov (.r 49))]) <|
  sq (sq (.ops [cl 50 11 [], op 51 (.un .not (.r 50)), op 52 (.mov (.r 51)), ⟨(some 53), .b (.mov (.r 10)), (some (52, false)), []⟩, ⟨(some 54), .b (.bin .neq (.r 53) (.c (.int .i64 0))), (some (52, false)), []⟩, op 55 (.pick (.r 52) (.c (.bool true)) (.r 54))]) <|
  .cond (.r 55)
    (sq (.ops [op 6 (.mov (.c (.bool false)))]) <|
    .ret)
    (.skip)) <|
  sq (.ops [op 11 (.mov (.c (.sl .nil [])))]) <|
  sq (sq (.ops [op 12 (.mov (.c (.int .i64 0)))]) <|
  .block 0 (
    .loop (
      sq (sq (.ops [op 56 (.mov (.r 12)), op 57 (.mov (.r 9)), op 58 (.len .sl (.r 57)), op 59 (.bin .lss (.r 56) (.r 58))]) <|
      .cond (.r 59)
        (.skip)
        (.exit 0)) <|
      sq (.block 1 (
        sq (.ops [op 62 (.mov (.r 9)), op 63 (.mov (.r 12)), op 64 (.iad 2 (.r 62) (.r 63)), op 65 (.fad 1 (.r 64)), op 66 (.ld 1 false (.r 65)), op 67 (.bin .quo (.r 66) (.c (.int .u64 65536))), op 68 (.cvi .i64 (.r 67)), op 69 (.bin .sub (.r 68) (.c (.int .i64 1))), op 13 (.mov (.r 69))]) <|
        sq (sq (.ops [op 70 (.mov (.r 13)), op 71 (.bin .lss (.r 70) (.c (.int .i64 0))), op 72 (.mov (.r 71)), ⟨(some 73), .b (.mov (.r 13)), (some (72, false)), []⟩, ⟨(some 74), .b (.mov (.r 0)), (some (72, false)), []⟩, ⟨(some 75), .b (.len .sl (.r 74)), (some (72, false)), []⟩, ⟨(some 76), .b (.bin .geq (.r 73) (.r 75)), (some (72, false)), []⟩, op 77 (.pick (.r 72) (.c (.bool true)) (.r 76))]) <|
        .cond (.r 77)
          (sq (.ops [op 6 (.mov (.c (.bool false)))]) <|
          .ret)
          (.skip)) <|
        .ops [op 78 (.mov (.r 11)), op 79 (.mov (.r 0)), op 80 (.mov (.r 13)), op 81 (.mov (.r 9)), op 82 (.mov (.r 12)), op 83 (.iad 2 (.r 81) (.r 82)), op 84 (.fad 0 (.r 83)), op 85 (.ld 1 false (.r 84)), cl 86 21 [(.r 79), (.r 80), (.r 85)], op 87 (.bsl 1 [.str ⟨#[]⟩, .int .u64 0, .str ⟨#[]⟩, .sl .nil []] [(0, (.r 86))]), op 88 (.app 4 64 false (.r 78) (.r 87)), op 11 (.mov (.r 88))])) <|
      .ops [op 60 (.mov (.r 12)), op 61 (.bin .add (.r 60) (.c (.int .i64 1))), op 12 (.mov (.r 61))]))) <|
  sq (sq (.ops [op 14 (.mov (.c (.int .i64 0)))]) <|
  .block 2 (
    .loop (
      sq (sq (.ops [op 89 (.mov (.r 14)), op 90 (.mov (.r 7)), op 91 (.len .sl (.r 90)), op 92 (.bin .lss (.r 89) (.r 91))]) <|
      .cond (.r 92)
        (.skip)
        (.exit 2)) <|
      sq (.block 3 (
        .ops [op 95 (.mov (.r 7)), op 96 (.mov (.r 14)), op 97 (.mov (.r 7)), op 98 (.mov (.r 14)), op 99 (.iad 4 (.r 97) (.r 98)), op 100 (.fad 3 (.r 99)), op 101 (.ld 1 false (.r 100)), op 103 (.bsl 1 [.str ⟨#[]⟩] [(0, (.c (.str ⟨#[115, 112, 97, 114, 101]⟩)))]), op 105 (.mov (.r 7)), op 106 (.mov (.r 14)), op 107 (.iad 4 (.r 105) (.r 106)), op 108 (.fad 3 (.r 107)), op 109 (.ld 1 false (.r 108)), op 110 (.len .sl (.r 109)), ⟨(some 102), .b (.app 1 16 false (.c (.sl .nil [])) (.r 101)), none, [⟨109, .ld 1 false (.r 108), none⟩, ⟨110, .len .sl (.r 109), none⟩]⟩, ⟨(some 104), .b (.app 1 16 false (.r 102) (.r 103)), none, [⟨109, .ld 1 false (.r 108), none⟩, ⟨110, .len .sl (.r 109), none⟩]⟩, op 111 (.sll 1 (.r 104) none (some (.r 110)) none), op 112 (.iad 4 (.r 95) (.r 96)), op 113 (.fad 3 (.r 112)), ef (.st 1 (.r 113) (.r 111))])) <|
      .ops [op 93 (.mov (.r 14)), op 94 (.bin .add (.r 93) (.c (.int .i64 1))), op 14 (.mov (.r 94))]))) <|
  sq (.ops [op 114 (.mov (.r 7)), op 115 (.app 4 64 false (.c (.sl .nil [])) (.r 114)), op 116 (.build [.str ⟨#[]⟩, .int .u64 0, .str ⟨#[]⟩, .sl .nil []] [(0, 1, (.c (.str ⟨#[115, 112, 97, 114, 101]⟩)))]), op 117 (.bsl 1 [.str ⟨#[]⟩, .int .u64 0, .str ⟨#[]⟩, .sl .nil []] [(0, (.r 116))]), op 118 (.app 4 64 false (.r 115) (.r 117)), op 119 (.mov (.r 7)), op 120 (.len .sl (.r 119)), op 121 (.sll 4 (.r 118) none (some (.r 120)) none), op 15 (.mov (.r 121))]) <|
  sq (.ops [op 122 (.mov (.r 11)), op 123 (.app 4 64 false (.c (.sl .nil [])) (.r 122)), op 124 (.build [.str ⟨#[]⟩, .int .u64 0, .str ⟨#[]⟩, .sl .nil []] [(0, 1, (.c (.str ⟨#[115, 112, 97, 114, 101]⟩)))]), op 125 (.bsl 1 [.str ⟨#[]⟩, .int .u64 0, .str ⟨#[]⟩, .sl .nil []] [(0, (.r 124))]), op 126 (.app 4 64 false (.r 123) (.r 125)), op 127 (.mov (.r 11)), op 128 (.len .sl (.r 127)), op 129 (.sll 4 (.r 126) none (some (.r 128)) none), op 16 (.mov (.r 129))]) <|
  sq (.ops [op 131 (.mov (.r 15)), op 132 (.mov (.r 16)), cl 133 16 [(.r 131), (.r 132)], op 130 (.mov (.r 133)), op 134 (.ext 0 (.r 130)), op 135 (.ext 1 (.r 130)), op 17 (.mov (.r 134)), op 18 (.mov (.r 135))]) <|
  sq (.ops [op 137 (.mov (.r 15)), op 138 (.mov (.r 16)), cl 139 16 [(.r 137), (.r 138)], op 136 (.mov (.r 139)), op 140 (.ext 0 (.r 136)), op 141 (.ext 1 (.r 136)), op 19 (.mov (.r 140)), op 20 (.mov (.r 141))]) <|
  sq (.ops [op 143 (.mov (.r 15)), cl 144 9 [(.r 143)], op 142 (.mov (.r 144)), op 145 (.ext 0 (.r 142)), op 146 (.ext 1 (.r 142)), op 21 (.mov (.r 145)), op 22 (.mov (.r 146))]) <|
  sq (sq (.ops [op 147 (.mov (.r 18)), op 148 (.bin .neq (.r 147) (.c (.int .i64 0))), op 149 (.mov (.r 148)), ⟨(some 150), .b (.mov (.r 20)), (some (149, false)), []⟩, ⟨(some 151), .b (.bin .neq (.r 150) (.c (.int .i64 0))), (some (149, false)), []⟩, op 152 (.pick (.r 149) (.c (.bool true)) (.r 151)), op 153 (.mov (.r 152)), ⟨(some 154), .b (.mov (.r 17)), (some (153, false)), []⟩, ⟨(some 155), .b (.mov (.r 19)), (some (153, false)), []⟩, ⟨(some 156), .call 18 [(.r 154), (.r 155)], (some (153, false)), []⟩, ⟨(some 157), .b (.un .not (.r 156)), (some (153, false)), []⟩, op 158 (.pick (.r 153) (.c (.bool true)) (.r 157)), op 159 (.mov (.r 158)), ⟨(some 160), .b (.mov (.r 15)), (some (159, false)), []⟩, ⟨(some 161), .b (.mov (.r 8)), (some (159, false)), []⟩, ⟨(some 162), .call 18 [(.r 160), (.r 161)], (some (159, false)), []⟩, ⟨(some 163), .b (.un .not (.r 162)), (some (159, false)), []⟩, op 164 (.pick (.r 159) (.c (.bool true)) (.r 163)), op 165 (.mov (.r 164)), ⟨(some 166), .b (.mov (.r 16)), (some (165, false)), []⟩, ⟨(some 167), .b (.mov (.r 11)), (some (165, false)), []⟩, ⟨(some 168), .call 18 [(.r 166), (.r 167)], (some (165, false)), []⟩, ⟨(some 169), .b (.un .not (.r 168)), (some (165, false)), []⟩, op 170 (.pick (.r 165) (.c (.bool true)) (.r 169)), op 171 (.mov (.r 170)), ⟨(some 172), .b (.mov (.r 15)), (some (171, false)), []⟩, ⟨(some 173), .b (.mov (.r 15)), (some (171, false)), []⟩, ⟨(some 174), .b (.len .sl (.r 173)), (some (171, false)), []⟩, ⟨(some 175), .b (.bin .add (.r 174) (.c (.int .i64 1))), (some (171, false)), []⟩, ⟨(some 176), .b (.sll 4 (.r 172) none (some (.r 175)) none), (some (171, false)), []⟩, ⟨(some 177), .b (.mov (.r 15)), (some (171, false)), []⟩, ⟨(some 178), .b (.len .sl (.r 177)), (some (171, false)), []⟩, ⟨(some 179), .b (.iad 4 (.r 176) (.r 178)), (some (171, false)), []⟩, ⟨(some 180), .b (.fad 0 (.r 179)), (some (171, false)), []⟩, ⟨(some 181), .b (.ld 1 false (.r 180)), (some (171, false)), []⟩, ⟨(some 182), .b (.bin .neq (.r 181) (.c (.str ⟨#[115, 112, 97, 114, 101]⟩))), (some (171, false)), []⟩, op 183 (.pick (.r 171) (.c (.bool true)) (.r 182)), op 184 (.mov (.r 183)), ⟨(some 185), .b (.mov (.r 16)), (some (184, false)), []⟩, ⟨(some 186), .b (.mov (.r 11)), (some (184, false)), []⟩, ⟨(some 187), .b (.len .sl (.r 186)), (some (184, false)), []⟩, ⟨(some 188), .b (.bin .add (.r 187) (.c (.int .i64 1))), (some (184, false)), []⟩, ⟨(some 189), .b (.sll 4 (.r 185) none (some (.r 188)) none), (some (184, false)), []⟩, ⟨(some 190), .b (.mov (.r 11)), (some (184, false)), []⟩, ⟨(some 191), .b (.len .sl (.r 190)), (some (184, false)), []⟩, ⟨(some 192), .b (.iad 4 (.r 189) (.r 191)), (some (184, false)), []⟩, ⟨(some 193), .b (.fad 0 (.r 192)), (some (184, false)), []⟩, ⟨(some 194), .b (.ld 1 false (.r 193)), (some (184, false)), []⟩, ⟨(some 195), .b (.bin .neq (.r 194) (.c (.str ⟨#[115, 112, 97, 114, 101]⟩))), (some (184, false)), []⟩, op 196 (.pick (.r 184) (.c (.bool true)) (.r 195)), op 197 (.mov (.r 196)), ⟨(some 198), .b (.mov (.r 21)), (some (197, false)), []⟩, ⟨(some 199), .b (.len .sl (.r 198)), (some (197, false)), []⟩, ⟨(some 200), .b (.mov (.r 9)), (some (197, false)), []⟩, ⟨(some 201), .b (.len .sl (.r 200)), (some (197, false)), []⟩, ⟨(some 202), .b (.bin .neq (.r 199) (.r 201)), (some (197, false)), []⟩, op 203 (.pick (.r 197) (.c (.bool true)) (.r 202))]) <|
  .cond (.r 203)
    (sq (.ops [op 6 (.mov (.c (.bool false)))]) <|
    .ret)
    (.skip)) <|
  sq (.ops [op 205 (.mov (.r 8)), op 206 (.mov (.r 11)), cl 207 16 [(.r 205), (.r 206)], op 204 (.mov (.r 207)), op 208 (.ext 0 (.r 204)), op 209 (.ext 1 (.r 204)), op 23 (.mov (.r 208)), op 24 (.mov (.r 209))]) <|
  sq (.ops [op 25 (.mov (.c (.sl .nil [])))]) <|
  sq (sq (.ops [op 26 (.mov (.c (.int .i64 0)))]) <|
  .block 4 (
    .loop (
      sq (sq (.ops [op 210 (.mov (.r 26)), op 211 (.mov (.r 17)), op 212 (.len .sl (.r 211)), op 213 (.bin .lss (.r 210) (.r 212))]) <|
      .cond (.r 213)
        (.skip)
        (.exit 4)) <|
      sq (.block 5 (
        .ops [op 216 (.mov (.r 25)), op 217 (.mov (.r 17)), op 218 (.mov (.r 26)), op 219 (.iad 4 (.r 217) (.r 218)), op 220 (.fad 3 (.r 219)), op 221 (.ld 1 false (.r 220)), op 222 (.mov (.r 19)), op 223 (.mov (.r 26)), op 224 (.iad 4 (.r 222) (.r 223)), op 225 (.fad 3 (.r 224)), op 226 (.ld 1 false (.r 225)), op 227 (.bsl 2 [.sl .nil []] [(0, (.r 221)), (1, (.r 226))]), op 228 (.app 1 24 false (.r 216) (.r 227)), op 25 (.mov (.r 228))])) <|
      .ops [op 214 (.mov (.r 26)), op 215 (.bin .add (.r 214) (.c (.int .i64 1))), op 26 (.mov (.r 215))]))) <|
  sq (sq (.ops [op 229 (.mov (.r 25)), cl 230 24 [(.r 229)], op 231 (.un .not (.r 230))]) <|
  .cond (.r 231)
    (sq (.ops [op 6 (.mov (.c (.bool false)))]) <|
    .ret)
    (.skip)) <|
  sq (sq (.ops [op 27 (.mov (.c (.int .i64 0)))]) <|
  .block 6 (
    .loop (
      sq (sq (.ops [op 232 (.mov (.r 27)), op 233 (.mov (.r 17)), op 234 (.len .sl (.r 233)), op 235 (.bin .lss (.r 232) (.r 234))]) <|
      .cond (.r 235)
        (.skip)
        (.exit 6)) <|
      sq (.block 7 (
        .ops [op 238 (.mov (.r 17)), op 239 (.mov (.r 27)), op 240 (.iad 4 (.r 238) (.r 239)), op 241 (.fad 0 (.r 240)), ef (.st 1 (.r 241) (.c (.str ⟨#[63]⟩)))])) <|
      .ops [op 236 (.mov (.r 27)), op 237 (.bin .add (.r 236) (.c (.int .i64 1))), op 27 (.mov (.r 237))]))) <|
  sq (.ops [op 242 (.mov (.r 17)), op 243 (.build [.str ⟨#[]⟩, .int .u64 0, .str ⟨#[]⟩, .sl .nil []] [(0, 1, (.c (.str ⟨#[33]⟩)))]), op 244 (.bsl 1 [.str ⟨#[]⟩, .int .u64 0, .str ⟨#[]⟩, .sl .nil []] [(0, (.r 243))]), op 245 (.app 4 64 false (.r 242) (.r 244)), op 17 (.mov (.r 245))]) <|
  sq (sq (.ops [op 28 (.mov (.c (.int .i64 0)))]) <|
  .block 8 (
    .loop (
      sq (sq (.ops [op 246 (.mov (.r 28)), op 247 (.mov (.r 21)), op 248 (.len .sl (.r 247)), op 249 (.bin .lss (.r 246) (.r 248))]) <|
      .cond (.r 249)
        (.skip)
        (.exit 8)) <|
      sq (.block 9 (
        .ops [op 252 (.mov (.r 21)), op 253 (.mov (.r 28)), op 254 (.iad 2 (.r 252) (.r 253)), op 255 (.fad 0 (.r 254)), ef (.st 1 (.r 255) (.c (.str ⟨#[63]⟩)))])) <|
      .ops [op 250 (.mov (.r 28)), op 251 (.bin .add (.r 250) (.c (.int .i64 1))), op 28 (.mov (.r 251))]))) <|
  sq (sq (.ops [op 29 (.mov (.c (.int .i64 0)))]) <|
  .block 10 (
    .loop (
      sq (sq (.ops [op 256 (.mov (.r 29)), op 257 (.mov (.r 15)), op 258 (.len .sl (.r 257)), op 259 (.bin .lss (.r 256) (.r 258))]) <|
      .cond (.r 259)
        (.skip)
        (.exit 10)) <|
      sq (.block 11 (
        sq (.ops [op 262 (.mov (.r 15)), op 263 (.mov (.r 29)), op 264 (.iad 4 (.r 262) (.r 263)), op 265 (.fad 3 (.r 264)), op 266 (.ld 1 false (.r 265)), op 267 (.mov (.r 15)), op 268 (.mov (.r 29)), op 269 (.iad 4 (.r 267) (.r 268)), op 270 (.fad 3 (.r 269)), op 271 (.ld 1 false (.r 270)), op 272 (.len .sl (.r 271)), op 273 (.bin .add (.r 272) (.c (.int .i64 1))), op 274 (.sll 1 (.r 266) none (some (.r 273)) none), op 275 (.mov (.r 15)), op 276 (.mov (.r 29)), op 277 (.iad 4 (.r 275) (.r 276)), op 278 (.fad 3 (.r 277)), op 279 (.ld 1 false (.r 278)), op 280 (.len .sl (.r 279)), op 281 (.iad 1 (.r 274) (.r 280)), op 282 (.ld 1 false (.r 281)), op 283 (.bin .neq (.r 282) (.c (.str ⟨#[115, 112, 97, 114, 101]⟩)))]) <|
        .cond (.r 283)
          (sq (.ops [op 6 (.mov (.c (.bool false)))]) <|
          .ret)
          (.skip))) <|
      .ops [op 260 (.mov (.r 29)), op 261 (.bin .add (.r 260) (.c (.int .i64 1))), op 29 (.mov (.r 261))]))) <|
  sq (.ops [op 285 (.mov (.r 15)), op 286 (.mov (.r 16)), cl 287 16 [(.r 285), (.r 286)], op 284 (.mov (.r 287)), op 288 (.ext 0 (.r 284)), op 289 (.ext 1 (.r 284)), op 30 (.mov (.r 288)), op 31 (.mov (.r 289))]) <|
  sq (.ops [op 290 (.mov (.r 31)), op 291 (.bin .eql (.r 290) (.c (.int .i64 0))), op 292 (.mov (.r 291)), ⟨(some 293), .b (.mov (.r 30)), (some (292, true)), []⟩, ⟨(some 294), .b (.mov (.r 23)), (some (292, true)), []⟩, ⟨(some 295), .call 18 [(.r 293), (.r 294)], (some (292, true)), []⟩, op 296 (.pick (.r 292) (.r 295) (.c (.bool false))), op 297 (.mov (.r 296)), ⟨(some 298), .b (.mov (.r 15)), (some (297, true)), []⟩, ⟨(some 299), .b (.mov (.r 8)), (some (297, true)), []⟩, ⟨(some 300), .call 18 [(.r 298), (.r 299)], (some (297, true)), []⟩, op 301 (.pick (.r 297) (.r 300) (.c (.bool false))), op 302 (.mov (.r 301)), ⟨(some 303), .b (.mov (.r 17)), (some (302, true)), []⟩, ⟨(some 304), .b (.len .sl (.r 303)), (some (302, true)), []⟩, ⟨(some 305), .b (.mov (.r 19)), (some (302, true)), []⟩, ⟨(some 306), .b (.len .sl (.r 305)), (some (302, true)), []⟩, ⟨(some 307), .b (.bin .add (.r 306) (.c (.int .i64 1))), (some (302, true)), []⟩, ⟨(some 308), .b (.bin .eql (.r 304) (.r 307)), (some (302, true)), []⟩, op 309 (.pick (.r 302) (.r 308) (.c (.bool false))), op 6 (.mov (.r 309))]) <|
  .ret⟩

-- rampart/fix.Needs
def an9 : An := ⟨[], []⟩
def ir9 : Go.Rmp.Fn := ⟨37, 1, [.t 2, .t 3],
  sq (.ops [op 2 (.mov (.c (.sl .nil []))), op 3 (.mov (.c (.int .i64 0)))]) <|
  sq (sq (.ops [op 7 (.mov (.r 0)), cl 8 12 [(.r 7)], op 9 (.un .not (.r 8))]) <|
  .cond (.r 9)
    (sq (.ops [op 2 (.mov (.c (.sl .nil []))), op 3 (.mov (.c (.int .i64 1)))]) <|
    .ret)
    (.skip)) <|
  sq (.ops [op 4 (.mov (.c (.sl .nil [])))]) <|
  sq (sq (.ops [op 10 (.mov (.r 0)), cl 11 25 [(.r 10)], op 12 (.len .sl (.r 11)), op 13 (.mov (.c (.int .i64 0)))]) <|
  .block 0 (
    .loop (
      sq (.ops [op 14 (.bin .lss (.r 13) (.r 12))]) <|
      sq (.cond (.r 14)
        (.skip)
        (.exit 0)) <|
      sq (.block 1 (
        sq (.ops [op 15 (.mov (.r 13)), op 16 (.iad 1 (.r 11) (.r 13)), op 17 (.ld 1 false (.r 16)), op 5 (.mov (.r 15)), op 6 (.mov (.r 17))]) <|
        sq (.ops [op 18 (.mov (.r 6)), op 19 (.mov (.r 0)), op 20 (.mov (.r 5)), op 21 (.iad 4 (.r 19) (.r 20)), op 22 (.fad 1 (.r 21)), op 23 (.ld 1 false (.r 22)), op 24 (.bin .gtr (.r 18) (.r 23))]) <|
        .cond (.r 24)
          (.ops [op 25 (.mov (.r 4)), op 26 (.mov (.r 0)), op 27 (.mov (.r 5)), op 28 (.iad 4 (.r 26) (.r 27)), op 29 (.fad 0 (.r 28)), op 30 (.ld 1 false (.r 29)), op 31 (.mov (.r 6)), op 32 (.build [.str ⟨#[]⟩, .int .u64 0] [(0, 1, (.r 30)), (1, 1, (.r 31))]), op 33 (.bsl 1 [.str ⟨#[]⟩, .int .u64 0] [(0, (.r 32))]), op 34 (.app 2 24 false (.r 25) (.r 33)), op 4 (.mov (.r 34))])
          (.skip))) <|
      .ops [op 35 (.bin .add (.r 13) (.c (.int .i64 1))), op 13 (.mov (.r 35))]))) <|
  sq (.ops [op 36 (.mov (.r 4)), op 2 (.mov (.r 36)), op 3 (.mov (.c (.int .i64 0)))]) <|
  .ret⟩

-- rampart/rampartref17.Needs
def an10 : An := ⟨[], [(11, [(0, true), (1, true), (2, true), (3, true), (4, true), (5, true), (6, true), (7, true), (8, true), (9, true), (10, true), (11, true), (12, true), (13, true), (14, true), (15, true), (16, true), (17, true), (18, false), (19, true)])]⟩
def ir10 : Go.Rmp.Fn := ⟨71, 1, [.t 2, .t 3],
  sq (.ops [op 2 (.mov (.c (.sl .nil []))), op 3 (.mov (.c (.int .i64 0)))]) <|
  sq (sq (.ops [op 8 (.mov (.r 0)), cl 9 13 [(.r 8)], op 10 (.un .not (.r 9))]) <|
  .cond (.r 10)
    (sq (.ops [op 2 (.mov (.c (.sl .nil []))), op 3 (.mov (.c (.int .i64 1)))]) <|
    .ret)
    (.skip)) <|
  sq (.ops [op 4 (.mov (.c (.sl .nil [])))]) <|
  sq (sq (.ops [op 5 (.mov (.c (.int .i64 0)))]) <|
  .block 0 (
    .loop (
      sq (sq (.ops [op 11 (.mov (.r 5)), op 12 (.mov (.r 0)), op 13 (.len .sl (.r 12)), op 14 (.bin .lss (.r 11) (.r 13))]) <|
      .cond (.r 14)
        (.skip)
        (.exit 0)) <|
      sq (.block 1 (
        sq (.ops [op 17 (.mov (.r 0)), op 18 (.mov (.r 5)), op 19 (.iad 4 (.r 17) (.r 18)), op 20 (.fad 1 (.r 19)), op 21 (.ld 1 false (.r 20)), op 6 (.mov (.r 21))]) <|
        sq (sq (.ops [op 7 (.mov (.c (.int .i64 0)))]) <|
        .block 2 (
          .loop (
            sq (sq (.ops [op 22 (.mov (.r 7)), op 23 (.mov (.r 0)), op 24 (.len .sl (.r 23)), op 25 (.bin .lss (.r 22) (.r 24))]) <|
            .cond (.r 25)
              (.skip)
              (.exit 2)) <|
            sq (.block 3 (
              sq (.ops [op 28 (.mov (.r 0)), op 29 (.mov (.r 7)), op 30 (.iad 4 (.r 28) (.r 29)), op 31 (.fad 1 (.r 30)), op 32 (.ld 1 false (.r 31)), op 33 (.mov (.r 6)), op 34 (.bin .gtr (.r 32) (.r 33)), op 35 (.mov (.r 34)), ⟨(some 36), .b (.mov (.r 0)), (some (35, true)), []⟩, ⟨(some 37), .b (.mov (.r 7)), (some (35, true)), []⟩, ⟨(some 38), .b (.iad 4 (.r 36) (.r 37)), (some (35, true)), []⟩, ⟨(some 39), .b (.fad 3 (.r 38)), (some (35, true)), []⟩, ⟨(some 40), .b (.ld 1 false (.r 39)), (some (35, true)), []⟩, ⟨(some 41), .b (.mov (.r 0)), (some (35, true)), []⟩, ⟨(some 42), .b (.mov (.r 5)), (some (35, true)), []⟩, ⟨(some 43), .b (.iad 4 (.r 41) (.r 42)), (some (35, true)), []⟩, ⟨(some 44), .b (.fad 0 (.r 43)), (some (35, true)), []⟩, ⟨(some 45), .b (.ld 1 false (.r 44)), (some (35, true)), []⟩, ⟨(some 46), .call 26 [(.r 40), (.r 45)], (some (35, true)), []⟩, op 47 (.pick (.r 35) (.r 46) (.c (.bool false)))]) <|
              .cond (.r 47)
                (.ops [op 48 (.mov (.r 0)), op 49 (.mov (.r 7)), op 50 (.iad 4 (.r 48) (.r 49)), op 51 (.fad 1 (.r 50)), op 52 (.ld 1 false (.r 51)), op 6 (.mov (.r 52))])
                (.skip))) <|
            .ops [op 26 (.mov (.r 7)), op 27 (.bin .add (.r 26) (.c (.int .i64 1))), op 7 (.mov (.r 27))]))) <|
        sq (.ops [op 53 (.mov (.r 6)), op 54 (.mov (.r 0)), op 55 (.mov (.r 5)), op 56 (.iad 4 (.r 54) (.r 55)), op 57 (.fad 1 (.r 56)), op 58 (.ld 1 false (.r 57)), op 59 (.bin .gtr (.r 53) (.r 58))]) <|
        .cond (.r 59)
          (.ops [op 60 (.mov (.r 4)), op 61 (.mov (.r 0)), op 62 (.mov (.r 5)), op 63 (.iad 4 (.r 61) (.r 62)), op 64 (.fad 0 (.r 63)), op 65 (.ld 1 false (.r 64)), op 66 (.mov (.r 6)), op 67 (.build [.str ⟨#[]⟩, .int .u64 0] [(0, 1, (.r 65)), (1, 1, (.r 66))]), op 68 (.bsl 1 [.str ⟨#[]⟩, .int .u64 0] [(0, (.r 67))]), op 69 (.app 2 24 false (.r 60) (.r 68)), op 4 (.mov (.r 69))])
          (.skip))) <|
      .ops [op 15 (.mov (.r 5)), op 16 (.bin .add (.r 15) (.c (.int .i64 1))), op 5 (.mov (.r 16))]))) <|
  sq (.ops [op 70 (.mov (.r 4)), op 2 (.mov (.r 70)), op 3 (.mov (.c (.int .i64 0)))]) <|
  .ret⟩

-- rampart/rampartlaw17.known
def an11 : An := ⟨[], []⟩
def ir11 : Go.Rmp.Fn := ⟨100, 0, [.t 0],
  sq (.ops [op 0 (.mov (.c (.bool false)))]) <|
  sq (.ops [op 8 (.bsl 2 [.str ⟨#[]⟩] [(0, (.c (.str ⟨#[97]⟩))), (1, (.c (.str ⟨#[98]⟩)))]), cl 9 27 [(.c (.str ⟨#[97]⟩)), (.c (.int .u64 65536)), (.r 8)], op 10 (.bsl 2 [.str ⟨#[]⟩] [(0, (.c (.str ⟨#[98]⟩))), (1, (.c (.str ⟨#[99]⟩)))]), cl 11 27 [(.c (.str ⟨#[98]⟩)), (.c (.int .u64 131072)), (.r 10)], cl 12 27 [(.c (.str ⟨#[99]⟩)), (.c (.int .u64 0)), (.c (.sl .nil []))], op 13 (.bsl 3 [.str ⟨#[]⟩, .int .u64 0, .str ⟨#[]⟩, .sl .nil []] [(0, (.r 9)), (1, (.r 11)), (2, (.r 12))]), op 1 (.mov (.r 13))]) <|
  sq (.ops [op 15 (.mov (.r 1)), cl 16 9 [(.r 15)], op 14 (.mov (.r 16)), op 17 (.ext 0 (.r 14)), op 18 (.ext 1 (.r 14)), op 2 (.mov (.r 17)), op 3 (.mov (.r 18))]) <|
  sq (.ops [op 20 (.mov (.r 1)), op 21 (.bsl 2 [.str ⟨#[]⟩] [(0, (.c (.str ⟨#[98]⟩))), (1, (.c (.str ⟨#[99]⟩)))]), cl 22 27 [(.c (.str ⟨#[99]⟩)), (.c (.int .u64 131072)), (.r 21)], op 23 (.bsl 1 [.str ⟨#[]⟩, .int .u64 0, .str ⟨#[]⟩, .sl .nil []] [(0, (.r 22))]), cl 24 16 [(.r 20), (.r 23)], op 19 (.mov (.r 24)), op 25 (.ext 0 (.r 19)), op 26 (.ext 1 (.r 19)), op 4 (.mov (.r 25)), op 5 (.mov (.r 26))]) <|
  sq (.ops [op 28 (.mov (.r 1)), cl 29 16 [(.r 28), (.c (.sl .nil []))], op 27 (.mov (.r 29)), op 30 (.ext 0 (.r 27)), op 31 (.ext 1 (.r 27)), op 6 (.mov (.r 30)), op 7 (.mov (.r 31))]) <|
  sq (sq (.ops [op 32 (.mov (.r 3)), op 33 (.bin .neq (.r 32) (.c (.int .i64 0))), op 34 (.mov (.r 33)), ⟨(some 35), .b (.mov (.r 5)), (some (34, false)), []⟩, ⟨(some 36), .b (.bin .neq (.r 35) (.c (.int .i64 0))), (some (34, false)), []⟩, op 37 (.pick (.r 34) (.c (.bool true)) (.r 36)), op 38 (.mov (.r 37)), ⟨(some 39), .b (.mov (.r 7)), (some (38, false)), []⟩, ⟨(some 40), .b (.bin .neq (.r 39) (.c (.int .i64 110))), (some (38, false)), []⟩, op 41 (.pick (.r 38) (.c (.bool true)) (.r 40)), op 42 (.mov (.r 41)), ⟨(some 43), .b (.mov (.r 6)), (some (42, false)), []⟩, ⟨(some 44), .b (.len .sl (.r 43)), (some (42, false)), []⟩, ⟨(some 45), .b (.bin .neq (.r 44) (.c (.int .i64 0))), (some (42, false)), []⟩, op 46 (.pick (.r 42) (.c (.bool true)) (.r 45)), op 47 (.mov (.r 46)), ⟨(some 48), .b (.mov (.r 2)), (some (47, false)), []⟩, ⟨(some 49), .b (.len .sl (.r 48)), (some (47, false)), []⟩, ⟨(some 50), .b (.bin .neq (.r 49) (.c (.int .i64 1))), (some (47, false)), []⟩, op 51 (.pick (.r 47) (.c (.bool true)) (.r 50)), op 52 (.mov (.r 51)), ⟨(some 53), .b (.mov (.r 2)), (some (52, false)), []⟩, ⟨(some 54), .b (.iad 2 (.r 53) (.c (.int .i64 0))), (some (52, false)), []⟩, ⟨(some 55), .b (.ld 2 true (.r 54)), (some (52, false)), []⟩, ⟨(some 56), .b (.build [.str ⟨#[]⟩, .int .u64 0] [(0, 1, (.c (.str ⟨#[99]⟩))), (1, 1, (.c (.int .u64 131072)))]), (some (52, false)), []⟩, ⟨(some 57), .b (.eqs true [.str, .int] (.r 55) (.r 56)), (some (52, false)), []⟩, op 58 (.pick (.r 52) (.c (.bool true)) (.r 57)), op 59 (.mov (.r 58)), ⟨(some 60), .b (.mov (.r 4)), (some (59, false)), []⟩, ⟨(some 61), .b (.len .sl (.r 60)), (some (59, false)), []⟩, ⟨(some 62), .b (.bin .neq (.r 61) (.c (.int .i64 3))), (some (59, false)), []⟩, op 63 (.pick (.r 59) (.c (.bool true)) (.r 62))]) <|
  .cond (.r 63)
    (sq (.ops [op 0 (.mov (.c (.bool false)))]) <|
    .ret)
    (.skip)) <|
  sq (.ops [op 64 (.mov (.r 1)), cl 65 14 [(.r 64)], op 66 (.un .not (.r 65)), op 67 (.mov (.r 66)), ⟨(some 68), .b (.mov (.r 4)), (some (67, true)), []⟩, ⟨(some 69), .call 14 [(.r 68)], (some (67, true)), []⟩, op 70 (.pick (.r 67) (.r 69) (.c (.bool false))), op 71 (.mov (.r 70)), ⟨(some 72), .b (.mov (.r 1)), (some (71, true)), []⟩, ⟨(some 73), .call 12 [(.r 72)], (some (71, true)), []⟩, op 74 (.pick (.r 71) (.r 73) (.c (.bool false))), op 75 (.mov (.r 74)), ⟨(some 76), .call 12 [(.c (.sl .nil []))], (some (75, true)), []⟩, ⟨(some 77), .b (.un .not (.r 76)), (some (75, true)), []⟩, op 78 (.pick (.r 75) (.r 77) (.c (.bool false))), op 79 (.mov (.r 78)), ⟨(some 80), .b (.mov (.r 4)), (some (79, true)), []⟩, ⟨(some 81), .b (.iad 4 (.r 80) (.c (.int .i64 2))), (some (79, true)), []⟩, ⟨(some 82), .b (.fad 1 (.r 81)), (some (79, true)), []⟩, ⟨(some 83), .b (.ld 1 false (.r 82)), (some (79, true)), []⟩, ⟨(some 84), .b (.bin .eql (.r 83) (.c (.int .u64 131072))), (some (79, true)), []⟩, op 85 (.pick (.r 79) (.r 84) (.c (.bool false))), op 86 (.mov (.r 85)), ⟨(some 87), .b (.mov (.r 4)), (some (86, true)), []⟩, ⟨(some 88), .b (.iad 4 (.r 87) (.c (.int .i64 1))), (some (86, true)), []⟩, ⟨(some 89), .b (.fad 1 (.r 88)), (some (86, true)), []⟩, ⟨(some 90), .b (.ld 1 false (.r 89)), (some (86, true)), []⟩, ⟨(some 91), .b (.bin .eql (.r 90) (.c (.int .u64 131072))), (some (86, true)), []⟩, op 92 (.pick (.r 86) (.r 91) (.c (.bool false))), op 93 (.mov (.r 92)), ⟨(some 94), .b (.mov (.r 4)), (some (93, true)), []⟩, ⟨(some 95), .b (.iad 4 (.r 94) (.c (.int .i64 0))), (some (93, true)), []⟩, ⟨(some 96), .b (.fad 1 (.r 95)), (some (93, true)), []⟩, ⟨(some 97), .b (.ld 1 false (.r 96)), (some (93, true)), []⟩, ⟨(some 98), .b (.bin .eql (.r 97) (.c (.int .u64 65536))), (some (93, true)), []⟩, op 99 (.pick (.r 93) (.r 98) (.c (.bool false))), op 0 (.mov (.r 99))]) <|
  .ret⟩

-- rampart/fix.Formed
def an12 : An := ⟨[], [(14, [(0, true), (1, true), (2, true), (3, true), (4, true), (5, true), (6, true), (7, false), (8, true)])]⟩
def ir12 : Go.Rmp.Fn := ⟨64, 1, [.t 2],
  sq (.ops [op 2 (.mov (.c (.bool false)))]) <|
  sq (sq (.ops [op 9 (.mov (.r 0)), op 10 (.len .sl (.r 9)), op 11 (.bin .lss (.r 10) (.c (.int .i64 1))), op 12 (.mov (.r 11)), ⟨(some 13), .b (.mov (.r 0)), (some (12, false)), []⟩, ⟨(some 14), .b (.len .sl (.r 13)), (some (12, false)), []⟩, ⟨(some 15), .b (.bin .gtr (.r 14) (.c (.int .i64 1024))), (some (12, false)), []⟩, op 16 (.pick (.r 12) (.c (.bool true)) (.r 15))]) <|
  .cond (.r 16)
    (sq (.ops [op 2 (.mov (.c (.bool false)))]) <|
    .ret)
    (.skip)) <|
  sq (.ops [op 17 (.mkm), op 3 (.mov (.r 17))]) <|
  sq (.ops [op 18 (.mkm), op 4 (.mov (.r 18))]) <|
  sq (sq (.ops [op 19 (.mov (.r 0)), op 20 (.len .sl (.r 19)), op 21 (.mov (.c (.int .i64 0)))]) <|
  .block 0 (
    .loop (
      sq (.ops [op 22 (.bin .lss (.r 21) (.r 20))]) <|
      sq (.cond (.r 22)
        (.skip)
        (.exit 0)) <|
      sq (.block 1 (
        sq (.ops [op 23 (.mov (.r 21)), op 24 (.iad 4 (.r 19) (.r 21)), op 25 (.ld 4 true (.r 24)), op 6 (.alloc [.str ⟨#[]⟩, .int .u64 0, .str ⟨#[]⟩, .sl .nil []]), op 5 (.mov (.r 23)), ef (.st 4 (.r 6) (.r 25))]) <|
        sq (.ops [op 26 (.mov (.r 3)), op 27 (.fad 0 (.r 6)), op 28 (.ld 1 false (.r 27)), op 29 (.lkp (.sc .str) (.int .i64 0) false (.r 26) (.r 28)), op 30 (.bin .add (.r 29) (.c (.int .i64 1))), ef (.upm (.sc .str) (.r 26) (.r 28) (.r 30))]) <|
        sq (sq (.ops [op 31 (.ld 4 true (.r 6)), cl 32 28 [(.r 31)], op 33 (.un .not (.r 32)), op 34 (.mov (.r 33)), ⟨(some 35), .b (.mov (.r 3)), (some (34, false)), []⟩, ⟨(some 36), .b (.fad 0 (.r 6)), (some (34, false)), []⟩, ⟨(some 37), .b (.ld 1 false (.r 36)), (some (34, false)), []⟩, ⟨(some 38), .b (.lkp (.sc .str) (.int .i64 0) false (.r 35) (.r 37)), (some (34, false)), []⟩, ⟨(some 39), .b (.bin .gtr (.r 38) (.c (.int .i64 1))), (some (34, false)), []⟩, op 40 (.pick (.r 34) (.c (.bool true)) (.r 39))]) <|
        .cond (.r 40)
          (sq (.ops [op 2 (.mov (.c (.bool false)))]) <|
          .ret)
          (.skip)) <|
        sq (.ops [op 42 (.mov (.r 4)), op 43 (.fad 1 (.r 6)), op 44 (.ld 1 false (.r 43)), op 45 (.lkp (.sc .int) (.int .i64 0) true (.r 42) (.r 44)), op 41 (.mov (.r 45)), op 46 (.ext 0 (.r 41)), op 47 (.ext 1 (.r 41)), op 7 (.mov (.r 46)), op 8 (.mov (.r 47))]) <|
        sq (.ops [op 48 (.mov (.r 8)), op 49 (.un .not (.r 48))]) <|
        .cond (.r 49)
          (.ops [op 50 (.mov (.r 4)), op 51 (.fad 1 (.r 6)), op 52 (.ld 1 false (.r 51)), op 53 (.mov (.r 5)), ef (.upm (.sc .int) (.r 50) (.r 52) (.r 53))])
          (sq (.ops [op 54 (.mov (.r 0)), op 55 (.mov (.r 7)), op 56 (.iad 4 (.r 54) (.r 55)), op 57 (.fad 3 (.r 56)), op 58 (.ld 1 false (.r 57)), op 59 (.fad 3 (.r 6)), op 60 (.ld 1 false (.r 59)), cl 61 29 [(.r 58), (.r 60)], op 62 (.un .not (.r 61))]) <|
          .cond (.r 62)
            (sq (.ops [op 2 (.mov (.c (.bool false)))]) <|
            .ret)
            (.skip)))) <|
      .ops [op 63 (.bin .add (.r 21) (.c (.int .i64 1))), op 21 (.mov (.r 63))]))) <|
  sq (.ops [op 2 (.mov (.c (.bool true)))]) <|
  .ret⟩

-- rampart/rampartref17.Formed
def an13 : An := ⟨[], [(11, [(0, true), (1, true), (2, true), (3, true), (4, true), (5, true), (6, true), (7, true), (8, true), (9, true), (10, true), (11, true), (12, true), (13, true), (14, true), (15, true), (16, true), (17, true), (18, true), (19, true), (20, true), (21, true), (22, true), (23, true), (24, true), (25, true), (26, true), (27, true), (28, true), (29, true), (30, true), (31, true), (32, true), (33, true), (34, false), (35, true), (36, true), (37, true)])]⟩
def ir13 : Go.Rmp.Fn := ⟨68, 1, [.t 2],
  sq (.ops [op 2 (.mov (.c (.bool false)))]) <|
  sq (sq (.ops [op 5 (.mov (.r 0)), op 6 (.len .sl (.r 5)), op 7 (.bin .lss (.r 6) (.c (.int .i64 1))), op 8 (.mov (.r 7)), ⟨(some 9), .b (.mov (.r 0)), (some (8, false)), []⟩, ⟨(some 10), .b (.len .sl (.r 9)), (some (8, false)), []⟩, ⟨(some 11), .b (.bin .gtr (.r 10) (.c (.int .i64 1024))), (some (8, false)), []⟩, op 12 (.pick (.r 8) (.c (.bool true)) (.r 11))]) <|
  .cond (.r 12)
    (sq (.ops [op 2 (.mov (.c (.bool false)))]) <|
    .ret)
    (.skip)) <|
  sq (sq (.ops [op 3 (.mov (.c (.int .i64 0)))]) <|
  .block 0 (
    .loop (
      sq (sq (.ops [op 13 (.mov (.r 3)), op 14 (.mov (.r 0)), op 15 (.len .sl (.r 14)), op 16 (.bin .lss (.r 13) (.r 15))]) <|
      .cond (.r 16)
        (.skip)
        (.exit 0)) <|
      sq (.block 1 (
        sq (sq (.ops [op 19 (.mov (.r 0)), op 20 (.mov (.r 3)), op 21 (.iad 4 (.r 19) (.r 20)), op 22 (.ld 4 true (.r 21)), cl 23 30 [(.r 22)], op 24 (.un .not (.r 23))]) <|
        .cond (.r 24)
          (sq (.ops [op 2 (.mov (.c (.bool false)))]) <|
          .ret)
          (.skip)) <|
        sq (.ops [op 4 (.mov (.c (.int .i64 0)))]) <|
        .block 2 (
          .loop (
            sq (sq (.ops [op 25 (.mov (.r 4)), op 26 (.mov (.r 3)), op 27 (.bin .lss (.r 25) (.r 26))]) <|
            .cond (.r 27)
              (.skip)
              (.exit 2)) <|
            sq (.block 3 (
              sq (.ops [op 30 (.mov (.r 0)), op 31 (.mov (.r 4)), op 32 (.iad 4 (.r 30) (.r 31)), op 33 (.fad 0 (.r 32)), op 34 (.ld 1 false (.r 33)), op 35 (.mov (.r 0)), op 36 (.mov (.r 3)), op 37 (.iad 4 (.r 35) (.r 36)), op 38 (.fad 0 (.r 37)), op 39 (.ld 1 false (.r 38)), op 40 (.bin .eql (.r 34) (.r 39)), op 41 (.mov (.r 40)), ⟨(some 42), .b (.mov (.r 0)), (some (41, false)), []⟩, ⟨(some 43), .b (.mov (.r 4)), (some (41, false)), []⟩, ⟨(some 44), .b (.iad 4 (.r 42) (.r 43)), (some (41, false)), []⟩, ⟨(some 45), .b (.fad 1 (.r 44)), (some (41, false)), []⟩, ⟨(some 46), .b (.ld 1 false (.r 45)), (some (41, false)), []⟩, ⟨(some 47), .b (.mov (.r 0)), (some (41, false)), []⟩, ⟨(some 48), .b (.mov (.r 3)), (some (41, false)), []⟩, ⟨(some 49), .b (.iad 4 (.r 47) (.r 48)), (some (41, false)), []⟩, ⟨(some 50), .b (.fad 1 (.r 49)), (some (41, false)), []⟩, ⟨(some 51), .b (.ld 1 false (.r 50)), (some (41, false)), []⟩, ⟨(some 52), .b (.bin .eql (.r 46) (.r 51)), (some (41, false)), []⟩, ⟨(some 53), .b (.mov (.r 52)), (some (41, false)), []⟩, ⟨(some 54), .b (.mov (.r 0)), (some (53, true)), []⟩, ⟨(some 55), .b (.mov (.r 4)), (some (53, true)), []⟩, ⟨(some 56), .b (.iad 4 (.r 54) (.r 55)), (some (53, true)), []⟩, ⟨(some 57), .b (.fad 3 (.r 56)), (some (53, true)), []⟩, ⟨(some 58), .b (.ld 1 false (.r 57)), (some (53, true)), []⟩, ⟨(some 59), .b (.mov (.r 0)), (some (53, true)), []⟩, ⟨(some 60), .b (.mov (.r 3)), (some (53, true)), []⟩, ⟨(some 61), .b (.iad 4 (.r 59) (.r 60)), (some (53, true)), []⟩, ⟨(some 62), .b (.fad 3 (.r 61)), (some (53, true)), []⟩, ⟨(some 63), .b (.ld 1 false (.r 62)), (some (53, true)), []⟩, ⟨(some 64), .call 31 [(.r 58), (.r 63)], (some (53, true)), []⟩, ⟨(some 65), .b (.un .not (.r 64)), (some (53, true)), []⟩, ⟨(some 66), .b (.pick (.r 53) (.r 65) (.c (.bool false))), (some (41, false)), []⟩, op 67 (.pick (.r 41) (.c (.bool true)) (.r 66))]) <|
              .cond (.r 67)
                (sq (.ops [op 2 (.mov (.c (.bool false)))]) <|
                .ret)
                (.skip))) <|
            .ops [op 28 (.mov (.r 4)), op 29 (.bin .add (.r 28) (.c (.int .i64 1))), op 4 (.mov (.r 29))])))) <|
      .ops [op 17 (.mov (.r 3)), op 18 (.bin .add (.r 17) (.c (.int .i64 1))), op 3 (.mov (.r 18))]))) <|
  sq (.ops [op 2 (.mov (.c (.bool true)))]) <|
  .ret⟩

-- rampart/fix.Cut
def an14 : An := ⟨[], []⟩
def ir14 : Go.Rmp.Fn := ⟨17, 1, [.t 2],
  sq (.ops [op 2 (.mov (.c (.bool false)))]) <|
  sq (.ops [op 6 (.mov (.r 0)), cl 7 9 [(.r 6)], op 5 (.mov (.r 7)), op 8 (.ext 0 (.r 5)), op 9 (.ext 1 (.r 5)), op 3 (.mov (.r 8)), op 4 (.mov (.r 9))]) <|
  sq (.ops [op 10 (.mov (.r 4)), op 11 (.bin .eql (.r 10) (.c (.int .i64 0))), op 12 (.mov (.r 11)), ⟨(some 13), .b (.mov (.r 3)), (some (12, true)), []⟩, ⟨(some 14), .b (.len .sl (.r 13)), (some (12, true)), []⟩, ⟨(some 15), .b (.bin .eql (.r 14) (.c (.int .i64 0))), (some (12, true)), []⟩, op 16 (.pick (.r 12) (.r 15) (.c (.bool false))), op 2 (.mov (.r 16))]) <|
  .ret⟩

-- rampart/rampartref17.Cut
def an15 : An := ⟨[], [(7, [(0, true), (1, true), (2, true), (3, true), (4, true), (5, true), (6, true), (7, true), (8, true), (9, true), (10, true), (11, true), (12, true), (13, true), (14, true), (15, true), (16, true), (17, true), (18, true), (19, true), (20, true), (21, true), (22, false), (23, true)])]⟩
def ir15 : Go.Rmp.Fn := ⟨43, 1, [.t 2],
  sq (.ops [op 2 (.mov (.c (.bool false)))]) <|
  sq (sq (.ops [op 3 (.mov (.c (.int .i64 0)))]) <|
  .block 0 (
    .loop (
      sq (sq (.ops [op 5 (.mov (.r 3)), op 6 (.mov (.r 0)), op 7 (.len .sl (.r 6)), op 8 (.bin .lss (.r 5) (.r 7))]) <|
      .cond (.r 8)
        (.skip)
        (.exit 0)) <|
      sq (.block 1 (
        sq (.ops [op 4 (.mov (.c (.int .i64 0)))]) <|
        .block 2 (
          .loop (
            sq (sq (.ops [op 11 (.mov (.r 4)), op 12 (.mov (.r 0)), op 13 (.len .sl (.r 12)), op 14 (.bin .lss (.r 11) (.r 13))]) <|
            .cond (.r 14)
              (.skip)
              (.exit 2)) <|
            sq (.block 3 (
              sq (.ops [op 17 (.mov (.r 0)), op 18 (.mov (.r 4)), op 19 (.iad 4 (.r 17) (.r 18)), op 20 (.fad 1 (.r 19)), op 21 (.ld 1 false (.r 20)), op 22 (.mov (.r 0)), op 23 (.mov (.r 3)), op 24 (.iad 4 (.r 22) (.r 23)), op 25 (.fad 1 (.r 24)), op 26 (.ld 1 false (.r 25)), op 27 (.bin .lss (.r 21) (.r 26)), op 28 (.mov (.r 27)), ⟨(some 29), .b (.mov (.r 0)), (some (28, true)), []⟩, ⟨(some 30), .b (.mov (.r 3)), (some (28, true)), []⟩, ⟨(some 31), .b (.iad 4 (.r 29) (.r 30)), (some (28, true)), []⟩, ⟨(some 32), .b (.fad 3 (.r 31)), (some (28, true)), []⟩, ⟨(some 33), .b (.ld 1 false (.r 32)), (some (28, true)), []⟩, ⟨(some 34), .b (.mov (.r 0)), (some (28, true)), []⟩, ⟨(some 35), .b (.mov (.r 4)), (some (28, true)), []⟩, ⟨(some 36), .b (.iad 4 (.r 34) (.r 35)), (some (28, true)), []⟩, ⟨(some 37), .b (.fad 0 (.r 36)), (some (28, true)), []⟩, ⟨(some 38), .b (.ld 1 false (.r 37)), (some (28, true)), []⟩, ⟨(some 39), .call 26 [(.r 33), (.r 38)], (some (28, true)), []⟩, op 40 (.pick (.r 28) (.r 39) (.c (.bool false)))]) <|
              .cond (.r 40)
                (sq (.ops [op 2 (.mov (.c (.bool false)))]) <|
                .ret)
                (.skip))) <|
            .ops [op 15 (.mov (.r 4)), op 16 (.bin .add (.r 15) (.c (.int .i64 1))), op 4 (.mov (.r 16))])))) <|
      .ops [op 9 (.mov (.r 3)), op 10 (.bin .add (.r 9) (.c (.int .i64 1))), op 3 (.mov (.r 10))]))) <|
  sq (.ops [op 41 (.mov (.r 0)), cl 42 13 [(.r 41)], op 2 (.mov (.r 42))]) <|
  .ret⟩

-- rampart/fix.Mend
def an16 : An := ⟨[], []⟩
def ir16 : Go.Rmp.Fn := ⟨71, 2, [.t 4, .t 5],
  sq (.ops [op 4 (.mov (.c (.sl .nil []))), op 5 (.mov (.c (.int .i64 0)))]) <|
  sq (sq (.ops [op 15 (.mov (.r 0)), cl 16 12 [(.r 15)], op 17 (.un .not (.r 16))]) <|
  .cond (.r 17)
    (sq (.ops [op 4 (.mov (.c (.sl .nil []))), op 5 (.mov (.c (.int .i64 1)))]) <|
    .ret)
    (.skip)) <|
  sq (.ops [op 18 (.mkm), op 6 (.alloc [.nilm]), ef (.st 1 (.r 6) (.r 18))]) <|
  sq (sq (.ops [op 19 (.mov (.r 1)), cl 20 32 [(.r 19)]]) <|
  .block 0 (
    .rangeF 71 (.r 20) [21, 22]
      (sq (.ops [op 7 (.mov (.r 21))]) <|
      .ops [op 8 (.alloc [.str ⟨#[]⟩, .int .u64 0, .str ⟨#[]⟩, .sl .nil []]), ef (.st 4 (.r 8) (.r 22))])
      (.block 1 (
        .ops [op 23 (.ld 1 false (.r 6)), op 24 (.fad 0 (.r 8)), op 25 (.ld 1 false (.r 24)), op 26 (.fad 1 (.r 8)), op 27 (.ld 1 false (.r 26)), op 28 (.build [.str ⟨#[]⟩, .int .u64 0] [(0, 1, (.r 25)), (1, 1, (.r 27))]), op 29 (.mov (.r 7)), ef (.upm (.st [.str, .int]) (.r 23) (.r 28) (.r 29))])))) <|
  sq (.ops [op 9 (.mov (.c (.sl .nil [])))]) <|
  sq (sq (.ops [op 30 (.mov (.r 0)), cl 31 25 [(.r 30)], op 32 (.len .sl (.r 31)), op 33 (.mov (.c (.int .i64 0)))]) <|
  .block 2 (
    .loop (
      sq (.ops [op 34 (.bin .lss (.r 33) (.r 32))]) <|
      sq (.cond (.r 34)
        (.skip)
        (.exit 2)) <|
      sq (.block 3 (
        sq (.ops [op 35 (.mov (.r 33)), op 36 (.iad 1 (.r 31) (.r 33)), op 37 (.ld 1 false (.r 36)), op 10 (.mov (.r 35)), op 11 (.mov (.r 37))]) <|
        sq (.ops [op 38 (.mov (.r 0)), op 39 (.mov (.r 10)), op 40 (.iad 4 (.r 38) (.r 39)), op 41 (.ld 4 true (.r 40)), op 12 (.alloc [.str ⟨#[]⟩, .int .u64 0, .str ⟨#[]⟩, .sl .nil []]), ef (.st 4 (.r 12) (.r 41))]) <|
        sq (sq (.ops [op 42 (.mov (.r 11)), op 43 (.fad 1 (.r 12)), op 44 (.ld 1 false (.r 43)), op 45 (.bin .gtr (.r 42) (.r 44))]) <|
        .cond (.r 45)
          (sq (.ops [op 47 (.ld 1 false (.r 6)), op 48 (.fad 0 (.r 12)), op 49 (.ld 1 false (.r 48)), op 50 (.mov (.r 11)), op 51 (.build [.str ⟨#[]⟩, .int .u64 0] [(0, 1, (.r 49)), (1, 1, (.r 50))]), op 52 (.lkp (.st [.str, .int]) (.int .i64 0) true (.r 47) (.r 51)), op 46 (.mov (.r 52)), op 53 (.ext 0 (.r 46)), op 54 (.ext 1 (.r 46)), op 13 (.mov (.r 53)), op 14 (.mov (.r 54))]) <|
          sq (sq (.ops [op 55 (.mov (.r 14)), op 56 (.un .not (.r 55))]) <|
          .cond (.r 56)
            (sq (.ops [op 4 (.mov (.c (.sl .nil []))), op 5 (.mov (.c (.int .i64 110)))]) <|
            .ret)
            (.skip)) <|
          .ops [op 57 (.mov (.r 1)), op 58 (.mov (.r 13)), op 59 (.iad 4 (.r 57) (.r 58)), op 60 (.ld 4 true (.r 59)), ef (.st 4 (.r 12) (.r 60))])
          (.skip)) <|
        sq (.ops [op 61 (.fad 3 (.r 12)), op 62 (.ld 1 false (.r 61)), cl 63 33 [(.r 62)], op 64 (.fad 3 (.r 12)), ef (.st 1 (.r 64) (.r 63))]) <|
        .ops [op 65 (.mov (.r 9)), op 66 (.ld 4 true (.r 12)), op 67 (.bsl 1 [.str ⟨#[]⟩, .int .u64 0, .str ⟨#[]⟩, .sl .nil []] [(0, (.r 66))]), op 68 (.app 4 64 false (.r 65) (.r 67)), op 9 (.mov (.r 68))])) <|
      .ops [op 69 (.bin .add (.r 33) (.c (.int .i64 1))), op 33 (.mov (.r 69))]))) <|
  sq (.ops [op 70 (.mov (.r 9)), op 4 (.mov (.r 70)), op 5 (.mov (.c (.int .i64 0)))]) <|
  .ret⟩

-- rampart/rampartref17.Mend
def an17 : An := ⟨[], [(14, [(0, true), (1, true), (2, true), (3, true), (4, true), (5, true), (6, true), (7, true), (8, true), (9, true), (10, true), (11, true), (12, true), (13, true), (14, true), (15, true), (16, true), (17, true), (18, true), (19, true), (20, true), (21, true), (22, true), (23, true)])]⟩
def ir17 : Go.Rmp.Fn := ⟨84, 2, [.t 4, .t 5],
  sq (.ops [op 4 (.mov (.c (.sl .nil []))), op 5 (.mov (.c (.int .i64 0)))]) <|
  sq (.ops [op 15 (.mov (.r 0)), cl 16 10 [(.r 15)], op 14 (.mov (.r 16)), op 17 (.ext 0 (.r 14)), op 18 (.ext 1 (.r 14)), op 6 (.mov (.r 17)), op 7 (.mov (.r 18))]) <|
  sq (sq (.ops [op 19 (.mov (.r 7)), op 20 (.bin .neq (.r 19) (.c (.int .i64 0)))]) <|
  .cond (.r 20)
    (sq (.ops [op 21 (.mov (.r 7)), op 4 (.mov (.c (.sl .nil []))), op 5 (.mov (.r 21))]) <|
    .ret)
    (.skip)) <|
  sq (.ops [op 8 (.mov (.c (.sl .nil [])))]) <|
  sq (sq (.ops [op 9 (.mov (.c (.int .i64 0)))]) <|
  .block 0 (
    .loop (
      sq (sq (.ops [op 22 (.mov (.r 9)), op 23 (.mov (.r 0)), op 24 (.len .sl (.r 23)), op 25 (.bin .lss (.r 22) (.r 24))]) <|
      .cond (.r 25)
        (.skip)
        (.exit 0)) <|
      sq (.block 1 (
        sq (.ops [op 28 (.mov (.r 6)), op 29 (.mov (.r 0)), op 30 (.mov (.r 9)), op 31 (.iad 4 (.r 29) (.r 30)), op 32 (.fad 0 (.r 31)), op 33 (.ld 1 false (.r 32)), cl 34 34 [(.r 28), (.r 33)], op 10 (.mov (.r 34))]) <|
        sq (.ops [op 35 (.mov (.r 0)), op 36 (.mov (.r 9)), op 37 (.iad 4 (.r 35) (.r 36)), op 38 (.ld 4 true (.r 37)), op 11 (.alloc [.str ⟨#[]⟩, .int .u64 0, .str ⟨#[]⟩, .sl .nil []]), ef (.st 4 (.r 11) (.r 38))]) <|
        sq (.ops [op 39 (.mov (.r 10)), op 40 (.bin .eql (.r 39) (.c (.int .u64 0))), op 12 (.mov (.r 40))]) <|
        sq (sq (.ops [op 41 (.mov (.r 1)), op 42 (.len .sl (.r 41)), op 43 (.bin .sub (.r 42) (.c (.int .i64 1))), op 13 (.mov (.r 43))]) <|
        .block 2 (
          .loop (
            sq (sq (.ops [op 44 (.mov (.r 13)), op 45 (.bin .geq (.r 44) (.c (.int .i64 0)))]) <|
            .cond (.r 45)
              (.skip)
              (.exit 2)) <|
            sq (.block 3 (
              sq (.ops [op 48 (.mov (.r 10)), op 49 (.bin .neq (.r 48) (.c (.int .u64 0))), op 50 (.mov (.r 49)), ⟨(some 51), .b (.mov (.r 1)), (some (50, true)), []⟩, ⟨(some 52), .b (.mov (.r 13)), (some (50, true)), []⟩, ⟨(some 53), .b (.iad 4 (.r 51) (.r 52)), (some (50, true)), []⟩, ⟨(some 54), .b (.fad 0 (.r 53)), (some (50, true)), []⟩, ⟨(some 55), .b (.ld 1 false (.r 54)), (some (50, true)), []⟩, ⟨(some 56), .b (.mov (.r 0)), (some (50, true)), []⟩, ⟨(some 57), .b (.mov (.r 9)), (some (50, true)), []⟩, ⟨(some 58), .b (.iad 4 (.r 56) (.r 57)), (some (50, true)), []⟩, ⟨(some 59), .b (.fad 0 (.r 58)), (some (50, true)), []⟩, ⟨(some 60), .b (.ld 1 false (.r 59)), (some (50, true)), []⟩, ⟨(some 61), .b (.bin .eql (.r 55) (.r 60)), (some (50, true)), []⟩, op 62 (.pick (.r 50) (.r 61) (.c (.bool false))), op 63 (.mov (.r 62)), ⟨(some 64), .b (.mov (.r 1)), (some (63, true)), []⟩, ⟨(some 65), .b (.mov (.r 13)), (some (63, true)), []⟩, ⟨(some 66), .b (.iad 4 (.r 64) (.r 65)), (some (63, true)), []⟩, ⟨(some 67), .b (.fad 1 (.r 66)), (some (63, true)), []⟩, ⟨(some 68), .b (.ld 1 false (.r 67)), (some (63, true)), []⟩, ⟨(some 69), .b (.mov (.r 10)), (some (63, true)), []⟩, ⟨(some 70), .b (.bin .eql (.r 68) (.r 69)), (some (63, true)), []⟩, op 71 (.pick (.r 63) (.r 70) (.c (.bool false)))]) <|
              .cond (.r 71)
                (sq (.ops [op 72 (.mov (.r 1)), op 73 (.mov (.r 13)), op 74 (.iad 4 (.r 72) (.r 73)), op 75 (.ld 4 true (.r 74)), ef (.st 4 (.r 11) (.r 75))]) <|
                .ops [op 12 (.mov (.c (.bool true)))])
                (.skip))) <|
            .ops [op 46 (.mov (.r 13)), op 47 (.bin .sub (.r 46) (.c (.int .i64 1))), op 13 (.mov (.r 47))]))) <|
        sq (sq (.ops [op 76 (.mov (.r 12)), op 77 (.un .not (.r 76))]) <|
        .cond (.r 77)
          (sq (.ops [op 4 (.mov (.c (.sl .nil []))), op 5 (.mov (.c (.int .i64 110)))]) <|
          .ret)
          (.skip)) <|
        .ops [op 78 (.mov (.r 8)), op 79 (.ld 4 true (.r 11)), cl 80 35 [(.r 79)], op 81 (.bsl 1 [.str ⟨#[]⟩, .int .u64 0, .str ⟨#[]⟩, .sl .nil []] [(0, (.r 80))]), op 82 (.app 4 64 false (.r 78) (.r 81)), op 8 (.mov (.r 82))])) <|
      .ops [op 26 (.mov (.r 9)), op 27 (.bin .add (.r 26) (.c (.int .i64 1))), op 9 (.mov (.r 27))]))) <|
  sq (.ops [op 83 (.mov (.r 8)), op 4 (.mov (.r 83)), op 5 (.mov (.c (.int .i64 0)))]) <|
  .ret⟩

-- rampart/rampartlaw17.same
def an18 : An := ⟨[], [(6, [(0, true), (1, true), (2, true), (3, true), (4, true), (5, true), (6, true), (7, true), (8, true), (9, true), (10, true), (11, true), (12, true), (13, true), (14, true), (15, true), (16, true), (17, true), (18, true), (19, true), (20, true), (21, true), (22, true), (23, true), (24, true), (25, true), (26, true), (27, true), (28, true), (29, true), (30, true), (31, true), (32, true), (33, true), (34, true), (35, true), (36, true), (37, true), (38, true), (39, true), (40, true), (41, true), (42, true), (43, true), (44, true), (45, true), (46, true), (47, true), (48, false), (49, true), (50, true)])]⟩
def ir18 : Go.Rmp.Fn := ⟨68, 2, [.t 4],
  sq (.ops [op 4 (.mov (.c (.bool false)))]) <|
  sq (sq (.ops [op 6 (.mov (.r 0)), op 7 (.len .sl (.r 6)), op 8 (.mov (.r 1)), op 9 (.len .sl (.r 8)), op 10 (.bin .neq (.r 7) (.r 9))]) <|
  .cond (.r 10)
    (sq (.ops [op 4 (.mov (.c (.bool false)))]) <|
    .ret)
    (.skip)) <|
  sq (sq (.ops [op 5 (.mov (.c (.int .i64 0)))]) <|
  .block 0 (
    .loop (
      sq (sq (.ops [op 11 (.mov (.r 5)), op 12 (.mov (.r 0)), op 13 (.len .sl (.r 12)), op 14 (.bin .lss (.r 11) (.r 13))]) <|
      .cond (.r 14)
        (.skip)
        (.exit 0)) <|
      sq (.block 1 (
        sq (.ops [op 17 (.mov (.r 0)), op 18 (.mov (.r 5)), op 19 (.iad 4 (.r 17) (.r 18)), op 20 (.fad 0 (.r 19)), op 21 (.ld 1 false (.r 20)), op 22 (.mov (.r 1)), op 23 (.mov (.r 5)), op 24 (.iad 4 (.r 22) (.r 23)), op 25 (.fad 0 (.r 24)), op 26 (.ld 1 false (.r 25)), op 27 (.bin .neq (.r 21) (.r 26)), op 28 (.mov (.r 27)), ⟨(some 29), .b (.mov (.r 0)), (some (28, false)), []⟩, ⟨(some 30), .b (.mov (.r 5)), (some (28, false)), []⟩, ⟨(some 31), .b (.iad 4 (.r 29) (.r 30)), (some (28, false)), []⟩, ⟨(some 32), .b (.fad 1 (.r 31)), (some (28, false)), []⟩, ⟨(some 33), .b (.ld 1 false (.r 32)), (some (28, false)), []⟩, ⟨(some 34), .b (.mov (.r 1)), (some (28, false)), []⟩, ⟨(some 35), .b (.mov (.r 5)), (some (28, false)), []⟩, ⟨(some 36), .b (.iad 4 (.r 34) (.r 35)), (some (28, false)), []⟩, ⟨(some 37), .b (.fad 1 (.r 36)), (some (28, false)), []⟩, ⟨(some 38), .b (.ld 1 false (.r 37)), (some (28, false)), []⟩, ⟨(some 39), .b (.bin .neq (.r 33) (.r 38)), (some (28, false)), []⟩, op 40 (.pick (.r 28) (.c (.bool true)) (.r 39)), op 41 (.mov (.r 40)), ⟨(some 42), .b (.mov (.r 0)), (some (41, false)), []⟩, ⟨(some 43), .b (.mov (.r 5)), (some (41, false)), []⟩, ⟨(some 44), .b (.iad 4 (.r 42) (.r 43)), (some (41, false)), []⟩, ⟨(some 45), .b (.fad 2 (.r 44)), (some (41, false)), []⟩, ⟨(some 46), .b (.ld 1 false (.r 45)), (some (41, false)), []⟩, ⟨(some 47), .b (.mov (.r 1)), (some (41, false)), []⟩, ⟨(some 48), .b (.mov (.r 5)), (some (41, false)), []⟩, ⟨(some 49), .b (.iad 4 (.r 47) (.r 48)), (some (41, false)), []⟩, ⟨(some 50), .b (.fad 2 (.r 49)), (some (41, false)), []⟩, ⟨(some 51), .b (.ld 1 false (.r 50)), (some (41, false)), []⟩, ⟨(some 52), .b (.bin .neq (.r 46) (.r 51)), (some (41, false)), []⟩, op 53 (.pick (.r 41) (.c (.bool true)) (.r 52)), op 54 (.mov (.r 53)), ⟨(some 55), .b (.mov (.r 0)), (some (54, false)), []⟩, ⟨(some 56), .b (.mov (.r 5)), (some (54, false)), []⟩, ⟨(some 57), .b (.iad 4 (.r 55) (.r 56)), (some (54, false)), []⟩, ⟨(some 58), .b (.fad 3 (.r 57)), (some (54, false)), []⟩, ⟨(some 59), .b (.ld 1 false (.r 58)), (some (54, false)), []⟩, ⟨(some 60), .b (.mov (.r 1)), (some (54, false)), []⟩, ⟨(some 61), .b (.mov (.r 5)), (some (54, false)), []⟩, ⟨(some 62), .b (.iad 4 (.r 60) (.r 61)), (some (54, false)), []⟩, ⟨(some 63), .b (.fad 3 (.r 62)), (some (54, false)), []⟩, ⟨(some 64), .b (.ld 1 false (.r 63)), (some (54, false)), []⟩, ⟨(some 65), .call 36 [(.r 59), (.r 64)], (some (54, false)), []⟩, ⟨(some 66), .b (.un .not (.r 65)), (some (54, false)), []⟩, op 67 (.pick (.r 54) (.c (.bool true)) (.r 66))]) <|
        .cond (.r 67)
          (sq (.ops [op 4 (.mov (.c (.bool false)))]) <|
          .ret)
          (.skip))) <|
      .ops [op 15 (.mov (.r 5)), op 16 (.bin .add (.r 15) (.c (.int .i64 1))), op 5 (.mov (.r 16))]))) <|
  sq (.ops [op 4 (.mov (.c (.bool true)))]) <|
  .ret⟩

-- rampart/rampartlaw17.brought
def an19 : An := ⟨[(17, 10)], []⟩
def ir19 : Go.Rmp.Fn := ⟨82, 4, [.t 8],
  sq (.ops [op 8 (.mov (.c (.sl .nil [])))]) <|
  sq (.ops [op 16 (.mov (.r 1)), cl 17 22 [(.r 16)], op 9 (.mov (.r 17))]) <|
  sq (.ops [op 10 (.mov (.c (.sl .nil [])))]) <|
  sq (sq (.ops [op 11 (.mov (.c (.int .i64 0)))]) <|
  .block 0 (
    .loop (
      sq (sq (.ops [op 18 (.mov (.r 11)), op 19 (.mov (.r 9)), op 20 (.len .sl (.r 19)), op 21 (.bin .lss (.r 18) (.r 20))]) <|
      .cond (.r 21)
        (.skip)
        (.exit 0)) <|
      sq (.block 1 (
        sq (.ops [op 24 (.mov (.r 9)), op 25 (.mov (.r 11)), op 26 (.mov (.r 2)), op 27 (.mov (.r 9)), op 28 (.len .sl (.r 27)), op 29 (.bin .sub (.r 28) (.c (.int .i64 1))), cl 30 20 [(.r 26), (.r 29)], op 31 (.bin .add (.r 25) (.r 30)), op 32 (.mov (.r 9)), op 33 (.len .sl (.r 32)), op 34 (.bin .rem (.r 31) (.r 33)), op 35 (.iad 1 (.r 24) (.r 34)), op 36 (.ld 1 false (.r 35)), op 12 (.mov (.r 36))]) <|
        sq (.ops [op 13 (.mov (.c (.sl .nil [])))]) <|
        sq (.ops [op 37 (.mov (.r 13)), op 38 (.mov (.r 12)), op 39 (.build [.str ⟨#[]⟩, .int .u64 0, .str ⟨#[]⟩, .sl .nil []] [(0, 1, (.r 38))]), op 40 (.bsl 1 [.str ⟨#[]⟩, .int .u64 0, .str ⟨#[]⟩, .sl .nil []] [(0, (.r 39))]), op 41 (.app 4 64 false (.r 37) (.r 40)), op 13 (.mov (.r 41))]) <|
        sq (sq (.ops [op 14 (.mov (.c (.int .i64 0)))]) <|
        .block 2 (
          .loop (
            sq (sq (.ops [op 42 (.mov (.r 14)), op 43 (.mov (.r 0)), op 44 (.len .sl (.r 43)), op 45 (.bin .lss (.r 42) (.r 44))]) <|
            .cond (.r 45)
              (.skip)
              (.exit 2)) <|
            sq (.block 3 (
              sq (.ops [op 48 (.mov (.r 0)), op 49 (.mov (.r 14)), op 50 (.iad 1 (.r 48) (.r 49)), op 51 (.ld 1 false (.r 50)), cl 52 22 [(.r 51)], op 53 (.mov (.r 12)), cl 54 23 [(.r 52), (.r 53)]]) <|
              .cond (.r 54)
                (.ops [op 55 (.mov (.r 13)), op 56 (.mov (.r 0)), op 57 (.mov (.r 14)), op 58 (.mov (.r 12)), cl 59 21 [(.r 56), (.r 57), (.r 58)], op 60 (.bsl 1 [.str ⟨#[]⟩, .int .u64 0, .str ⟨#[]⟩, .sl .nil []] [(0, (.r 59))]), op 61 (.app 4 64 false (.r 55) (.r 60)), op 13 (.mov (.r 61))])
                (.skip))) <|
            .ops [op 46 (.mov (.r 14)), op 47 (.bin .add (.r 46) (.c (.int .i64 1))), op 14 (.mov (.r 47))]))) <|
        sq (.ops [op 15 (.mov (.c (.int .i64 0)))]) <|
        sq (sq (.ops [op 62 (.mov (.r 11)), op 63 (.mov (.r 3)), op 64 (.len .sl (.r 63)), op 65 (.bin .lss (.r 62) (.r 64))]) <|
        .cond (.r 65)
          (.ops [op 66 (.mov (.r 3)), op 67 (.mov (.r 11)), op 68 (.iad 1 (.r 66) (.r 67)), op 69 (.ld 1 false (.r 68)), op 15 (.mov (.r 69))])
          (.skip)) <|
        .ops [op 70 (.mov (.r 10)), op 71 (.mov (.r 13)), op 72 (.mov (.r 15)), op 73 (.mov (.r 13)), op 74 (.len .sl (.r 73)), op 75 (.bin .sub (.r 74) (.c (.int .i64 1))), cl 76 20 [(.r 72), (.r 75)], op 77 (.iad 4 (.r 71) (.r 76)), op 78 (.ld 4 true (.r 77)), op 79 (.bsl 1 [.str ⟨#[]⟩, .int .u64 0, .str ⟨#[]⟩, .sl .nil []] [(0, (.r 78))]), op 80 (.app 4 64 true (.r 70) (.r 79)), op 10 (.mov (.r 80))])) <|
      .ops [op 22 (.mov (.r 11)), op 23 (.bin .add (.r 22) (.c (.int .i64 1))), op 11 (.mov (.r 23))]))) <|
  sq (.ops [op 81 (.mov (.r 10)), op 8 (.mov (.r 81))]) <|
  .ret⟩

-- rampart/rampartlaw17.rest
def an20 : An := ⟨[], []⟩
def ir20 : Go.Rmp.Fn := ⟨17, 2, [.t 4],
  sq (.ops [op 4 (.mov (.c (.int .i64 0)))]) <|
  sq (.ops [op 6 (.mov (.r 0)), op 7 (.mov (.r 1)), op 8 (.bin .add (.r 7) (.c (.int .i64 1))), op 9 (.bin .rem (.r 6) (.r 8)), op 5 (.mov (.r 9))]) <|
  sq (sq (.ops [op 10 (.mov (.r 5)), op 11 (.bin .lss (.r 10) (.c (.int .i64 0)))]) <|
  .cond (.r 11)
    (.ops [op 12 (.mov (.r 5)), op 13 (.mov (.r 1)), op 14 (.bin .add (.r 12) (.r 13)), op 15 (.bin .add (.r 14) (.c (.int .i64 1))), op 5 (.mov (.r 15))])
    (.skip)) <|
  sq (.ops [op 16 (.mov (.r 5)), op 4 (.mov (.r 16))]) <|
  .ret⟩

-- rampart/rampartlaw17.made
def an21 : An := ⟨[], [(1, [(0, true), (1, true), (2, true), (3, true), (4, true), (5, true), (6, true), (7, true), (8, true), (9, true), (10, true), (11, true), (12, true), (13, true), (14, true), (15, false), (16, true), (17, false)])]⟩
def ir21 : Go.Rmp.Fn := ⟨24, 3, [.cl 6 4 true],
  sq (.ops [op 6 (.alloc [.str ⟨#[]⟩, .int .u64 0, .str ⟨#[]⟩, .sl .nil []])]) <|
  sq (.ops [op 7 (.mov (.r 2)), op 8 (.mov (.r 1)), op 9 (.bin .add (.r 8) (.c (.int .i64 1))), op 10 (.bin .mul (.c (.int .i64 65536)) (.r 9)), op 11 (.cvi .u64 (.r 10)), op 12 (.mov (.r 2)), op 13 (.mov (.r 1)), op 14 (.cvi .u8 (.r 13)), op 15 (.bsl 1 [.int .u8 0] [(0, (.r 14))]), op 16 (.cvs (.r 15)), op 17 (.bin .add (.r 12) (.r 16)), op 18 (.mov (.r 0)), op 19 (.mov (.r 1)), op 20 (.iad 1 (.r 18) (.r 19)), op 21 (.ld 1 false (.r 20)), ⟨(some 22), .call 22 [(.r 21)], none, [⟨16, .cvs (.r 15), none⟩]⟩, op 23 (.build [.str ⟨#[]⟩, .int .u64 0, .str ⟨#[]⟩, .sl .nil []] [(0, 1, (.r 7)), (1, 1, (.r 11)), (2, 1, (.r 17)), (3, 1, (.r 22))]), ef (.st 4 (.r 6) (.r 23))]) <|
  .ret⟩

-- rampart/rampartlaw17.keys
def an22 : An := ⟨[], []⟩
def ir22 : Go.Rmp.Fn := ⟨25, 1, [.t 2],
  sq (.ops [op 2 (.mov (.c (.sl .nil [])))]) <|
  sq (.ops [op 3 (.mov (.c (.sl .nil [])))]) <|
  sq (sq (.ops [op 4 (.mov (.c (.int .i64 0)))]) <|
  .block 0 (
    .loop (
      sq (sq (.ops [op 5 (.mov (.r 4)), op 6 (.bin .lss (.r 5) (.c (.int .i64 8)))]) <|
      .cond (.r 6)
        (.skip)
        (.exit 0)) <|
      sq (.block 1 (
        sq (.ops [op 9 (.mov (.r 0)), op 10 (.mov (.r 4)), op 11 (.bin .shr (.r 9) (.r 10)), op 12 (.bin .and (.r 11) (.c (.int .i64 1))), op 13 (.bin .eql (.r 12) (.c (.int .i64 1)))]) <|
        .cond (.r 13)
          (.ops [op 14 (.mov (.r 3)), op 15 (.mov (.r 4)), cl 16 37 [(.r 15)], op 17 (.bsl 1 [.str ⟨#[]⟩] [(0, (.r 16))]), op 18 (.app 1 16 false (.r 14) (.r 17)), op 3 (.mov (.r 18))])
          (.skip))) <|
      .ops [op 7 (.mov (.r 4)), op 8 (.bin .add (.r 7) (.c (.int .i64 1))), op 4 (.mov (.r 8))]))) <|
  sq (sq (.ops [op 19 (.mov (.r 3)), op 20 (.len .sl (.r 19)), op 21 (.bin .eql (.r 20) (.c (.int .i64 0)))]) <|
  .cond (.r 21)
    (sq (.ops [cl 22 37 [(.c (.int .i64 0))], op 23 (.bsl 1 [.str ⟨#[]⟩] [(0, (.r 22))]), op 2 (.mov (.r 23))]) <|
    .ret)
    (.skip)) <|
  sq (.ops [op 24 (.mov (.r 3)), op 2 (.mov (.r 24))]) <|
  .ret⟩

-- rampart/rampartlaw17.has
def an23 : An := ⟨[], []⟩
def ir23 : Go.Rmp.Fn := ⟨18, 2, [.t 4],
  sq (.ops [op 4 (.mov (.c (.bool false)))]) <|
  sq (sq (.ops [op 5 (.mov (.c (.int .i64 0)))]) <|
  .block 0 (
    .loop (
      sq (sq (.ops [op 6 (.mov (.r 5)), op 7 (.mov (.r 0)), op 8 (.len .sl (.r 7)), op 9 (.bin .lss (.r 6) (.r 8))]) <|
      .cond (.r 9)
        (.skip)
        (.exit 0)) <|
      sq (.block 1 (
        sq (.ops [op 12 (.mov (.r 0)), op 13 (.mov (.r 5)), op 14 (.iad 1 (.r 12) (.r 13)), op 15 (.ld 1 false (.r 14)), op 16 (.mov (.r 1)), op 17 (.bin .eql (.r 15) (.r 16))]) <|
        .cond (.r 17)
          (sq (.ops [op 4 (.mov (.c (.bool true)))]) <|
          .ret)
          (.skip))) <|
      .ops [op 10 (.mov (.r 5)), op 11 (.bin .add (.r 10) (.c (.int .i64 1))), op 5 (.mov (.r 11))]))) <|
  sq (.ops [op 4 (.mov (.c (.bool false)))]) <|
  .ret⟩

-- rampart/rampartlaw17.marked
def an24 : An := ⟨[], [(8, [(0, true), (1, true), (2, true), (3, true), (4, true), (5, true), (6, false), (7, true), (8, false)]), (24, [(0, true), (1, true), (2, true), (3, true), (4, true), (5, true), (6, true), (7, true), (8, false), (9, true), (10, true), (11, true), (12, true), (13, true), (14, true), (15, true), (16, true), (17, true), (18, true), (19, true), (20, true), (21, true), (22, true), (23, true), (24, true), (25, true), (26, true), (27, false), (28, true), (29, true), (30, true)])]⟩
def ir24 : Go.Rmp.Fn := ⟨103, 1, [.t 2],
  sq (.ops [op 2 (.mov (.c (.bool false)))]) <|
  sq (.ops [op 3 (.mov (.c (.sl .nil [])))]) <|
  sq (sq (.ops [op 4 (.mov (.c (.int .i64 0)))]) <|
  .block 0 (
    .loop (
      sq (sq (.ops [op 11 (.mov (.r 4)), op 12 (.mov (.r 0)), op 13 (.len .sl (.r 12)), op 14 (.bin .lss (.r 11) (.r 13))]) <|
      .cond (.r 14)
        (.skip)
        (.exit 0)) <|
      sq (.block 1 (
        sq (.ops [op 5 (.mov (.c (.int .i64 0)))]) <|
        .block 2 (
          .loop (
            sq (sq (.ops [op 17 (.mov (.r 5)), op 18 (.mov (.r 0)), op 19 (.mov (.r 4)), op 20 (.iad 1 (.r 18) (.r 19)), op 21 (.ld 1 false (.r 20)), op 22 (.len .sl (.r 21)), op 23 (.bin .lss (.r 17) (.r 22))]) <|
            .cond (.r 23)
              (.skip)
              (.exit 2)) <|
            sq (.block 3 (
              .ops [op 26 (.mov (.r 0)), op 27 (.mov (.r 4)), op 28 (.iad 1 (.r 26) (.r 27)), op 29 (.ld 1 false (.r 28)), op 30 (.mov (.r 5)), op 31 (.mov (.r 4)), ⟨(some 32), .call 38 [(.r 31)], none, [⟨29, .ld 1 false (.r 28), none⟩]⟩, op 33 (.iad 1 (.r 29) (.r 30)), ef (.st 1 (.r 33) (.r 32))])) <|
            .ops [op 24 (.mov (.r 5)), op 25 (.bin .add (.r 24) (.c (.int .i64 1))), op 5 (.mov (.r 25))])))) <|
      .ops [op 15 (.mov (.r 4)), op 16 (.bin .add (.r 15) (.c (.int .i64 1))), op 4 (.mov (.r 16))]))) <|
  sq (sq (.ops [op 6 (.mov (.c (.int .i64 0)))]) <|
  .block 4 (
    .loop (
      sq (sq (.ops [op 34 (.mov (.r 6)), op 35 (.mov (.r 0)), op 36 (.len .sl (.r 35)), op 37 (.bin .lss (.r 34) (.r 36))]) <|
      .cond (.r 37)
        (.skip)
        (.exit 4)) <|
      sq (.block 5 (
        sq (.ops [op 40 (.mov (.r 0)), op 41 (.mov (.r 6)), op 42 (.iad 1 (.r 40) (.r 41)), op 43 (.ld 1 false (.r 42)), op 7 (.mov (.r 43))]) <|
        sq (sq (.ops [op 8 (.mov (.c (.int .i64 0)))]) <|
        .block 6 (
          .loop (
            sq (sq (.ops [op 44 (.mov (.r 8)), op 45 (.bin .lss (.r 44) (.c (.int .i64 30)))]) <|
            .cond (.r 45)
              (.skip)
              (.exit 6)) <|
            sq (.block 7 (
              .ops [op 48 (.mov (.r 7)), op 49 (.mov (.r 6)), cl 50 38 [(.r 49)], op 51 (.bsl 1 [.str ⟨#[]⟩] [(0, (.r 50))]), op 52 (.app 1 16 false (.r 48) (.r 51)), op 7 (.mov (.r 52))])) <|
            .ops [op 46 (.mov (.r 8)), op 47 (.bin .add (.r 46) (.c (.int .i64 1))), op 8 (.mov (.r 47))]))) <|
        .ops [op 53 (.mov (.r 3)), op 54 (.mov (.r 7)), op 55 (.bsl 1 [.sl .nil []] [(0, (.r 54))]), op 56 (.app 1 24 false (.r 53) (.r 55)), op 3 (.mov (.r 56))])) <|
      .ops [op 38 (.mov (.r 6)), op 39 (.bin .add (.r 38) (.c (.int .i64 1))), op 6 (.mov (.r 39))]))) <|
  sq (sq (.ops [op 9 (.mov (.c (.int .i64 0)))]) <|
  .block 8 (
    .loop (
      sq (sq (.ops [op 57 (.mov (.r 9)), op 58 (.mov (.r 0)), op 59 (.len .sl (.r 58)), op 60 (.bin .lss (.r 57) (.r 59))]) <|
      .cond (.r 60)
        (.skip)
        (.exit 8)) <|
      sq (.block 9 (
        sq (.ops [op 10 (.mov (.c (.int .i64 0)))]) <|
        .block 10 (
          .loop (
            sq (sq (.ops [op 63 (.mov (.r 10)), op 64 (.mov (.r 3)), op 65 (.mov (.r 9)), op 66 (.iad 1 (.r 64) (.r 65)), op 67 (.ld 1 false (.r 66)), op 68 (.len .sl (.r 67)), op 69 (.bin .lss (.r 63) (.r 68))]) <|
            .cond (.r 69)
              (.skip)
              (.exit 10)) <|
            sq (.block 11 (
              sq (.ops [op 72 (.mov (.r 3)), op 73 (.mov (.r 9)), op 74 (.iad 1 (.r 72) (.r 73)), op 75 (.ld 1 false (.r 74)), op 76 (.mov (.r 10)), op 77 (.iad 1 (.r 75) (.r 76)), op 78 (.ld 1 false (.r 77)), op 79 (.mov (.r 9)), ⟨(some 80), .call 38 [(.r 79)], none, [⟨75, .ld 1 false (.r 74), none⟩, ⟨78, .ld 1 false (.r 77), none⟩]⟩, op 81 (.bin .neq (.r 78) (.r 80)), op 82 (.mov (.r 81)), ⟨(some 83), .b (.mov (.r 10)), (some (82, false)), []⟩, ⟨(some 84), .b (.mov (.r 0)), (some (82, false)), []⟩, ⟨(some 85), .b (.mov (.r 9)), (some (82, false)), []⟩, ⟨(some 86), .b (.iad 1 (.r 84) (.r 85)), (some (82, false)), []⟩, ⟨(some 87), .b (.ld 1 false (.r 86)), (some (82, false)), []⟩, ⟨(some 88), .b (.len .sl (.r 87)), (some (82, false)), []⟩, ⟨(some 89), .b (.bin .lss (.r 83) (.r 88)), (some (82, false)), []⟩, ⟨(some 90), .b (.mov (.r 89)), (some (82, false)), []⟩, ⟨(some 91), .b (.mov (.r 0)), (some (90, true)), []⟩, ⟨(some 92), .b (.mov (.r 9)), (some (90, true)), []⟩, ⟨(some 93), .b (.iad 1 (.r 91) (.r 92)), (some (90, true)), []⟩, ⟨(some 94), .b (.ld 1 false (.r 93)), (some (90, true)), []⟩, ⟨(some 95), .b (.mov (.r 10)), (some (90, true)), []⟩, ⟨(some 96), .b (.iad 1 (.r 94) (.r 95)), (some (90, true)), []⟩, ⟨(some 97), .b (.ld 1 false (.r 96)), (some (90, true)), []⟩, ⟨(some 98), .b (.mov (.r 9)), (some (90, true)), []⟩, ⟨(some 99), .call 38 [(.r 98)], (some (90, true)), [⟨94, .ld 1 false (.r 93), (some (90, true))⟩, ⟨97, .ld 1 false (.r 96), (some (90, true))⟩]⟩, ⟨(some 100), .b (.bin .neq (.r 97) (.r 99)), (some (90, true)), []⟩, ⟨(some 101), .b (.pick (.r 90) (.r 100) (.c (.bool false))), (some (82, false)), []⟩, op 102 (.pick (.r 82) (.c (.bool true)) (.r 101))]) <|
              .cond (.r 102)
                (sq (.ops [op 2 (.mov (.c (.bool false)))]) <|
                .ret)
                (.skip))) <|
            .ops [op 70 (.mov (.r 10)), op 71 (.bin .add (.r 70) (.c (.int .i64 1))), op 10 (.mov (.r 71))])))) <|
      .ops [op 61 (.mov (.r 9)), op 62 (.bin .add (.r 61) (.c (.int .i64 1))), op 9 (.mov (.r 62))]))) <|
  sq (.ops [op 2 (.mov (.c (.bool true)))]) <|
  .ret⟩

-- rampart/fix.greatest
def an25 : An := ⟨[(7, 2)], [(19, [(0, true), (1, true), (2, true), (3, true), (4, true), (5, true), (6, true), (7, true), (8, true), (9, true), (10, false)])]⟩
def ir25 : Go.Rmp.Fn := ⟨74, 1, [.t 2],
  sq (.ops [op 2 (.mov (.c (.sl .nil [])))]) <|
  sq (.ops [op 14 (.mkm), op 3 (.mov (.r 14))]) <|
  sq (sq (.ops [op 15 (.mov (.r 0)), op 16 (.len .sl (.r 15)), op 17 (.mov (.c (.int .i64 0)))]) <|
  .block 0 (
    .loop (
      sq (.ops [op 18 (.bin .lss (.r 17) (.r 16))]) <|
      sq (.cond (.r 18)
        (.skip)
        (.exit 0)) <|
      sq (.block 1 (
        sq (.ops [op 19 (.mov (.r 17)), op 20 (.iad 4 (.r 15) (.r 17)), op 21 (.ld 4 true (.r 20)), op 5 (.alloc [.str ⟨#[]⟩, .int .u64 0, .str ⟨#[]⟩, .sl .nil []]), op 4 (.mov (.r 19)), ef (.st 4 (.r 5) (.r 21))]) <|
        .ops [op 22 (.mov (.r 3)), op 23 (.fad 0 (.r 5)), op 24 (.ld 1 false (.r 23)), op 25 (.mov (.r 4)), ef (.upm (.sc .str) (.r 22) (.r 24) (.r 25))])) <|
      .ops [op 26 (.bin .add (.r 17) (.c (.int .i64 1))), op 17 (.mov (.r 26))]))) <|
  sq (.ops [op 27 (.mov (.r 0)), op 28 (.len .sl (.r 27)), op 29 (.mks true 8 [.int .u64 0] (.r 28) (.r 28)), op 6 (.mov (.r 29))]) <|
  sq (.ops [op 30 (.mkm), op 7 (.mov (.r 30))]) <|
  sq (sq (.ops [op 31 (.mov (.r 0)), op 32 (.len .sl (.r 31)), op 33 (.mov (.c (.int .i64 0)))]) <|
  .block 2 (
    .loop (
      sq (.ops [op 34 (.bin .lss (.r 33) (.r 32))]) <|
      sq (.cond (.r 34)
        (.skip)
        (.exit 2)) <|
      sq (.block 3 (
        sq (.ops [op 35 (.iad 4 (.r 31) (.r 33)), op 36 (.ld 4 true (.r 35)), op 9 (.alloc [.str ⟨#[]⟩, .int .u64 0, .str ⟨#[]⟩, .sl .nil []]), ef (.st 4 (.r 9) (.r 36))]) <|
        sq (sq (.ops [op 37 (.mov (.r 7)), op 38 (.fad 1 (.r 9)), op 39 (.ld 1 false (.r 38)), op 40 (.lkp (.sc .int) (.int .i64 0) false (.r 37) (.r 39)), op 41 (.bin .add (.r 40) (.c (.int .i64 1))), ef (.upm (.sc .int) (.r 37) (.r 39) (.r 41))]) <|
        sq (.ops [op 42 (.mov (.r 7)), op 43 (.fad 1 (.r 9)), op 44 (.ld 1 false (.r 43)), op 45 (.lkp (.sc .int) (.int .i64 0) false (.r 42) (.r 44)), op 46 (.bin .gtr (.r 45) (.c (.int .i64 1)))]) <|
        .cond (.r 46)
          (.exit 3)
          (.skip)) <|
        sq (.ops [op 47 (.fad 3 (.r 9)), op 48 (.ld 1 false (.r 47)), op 49 (.len .sl (.r 48)), op 50 (.mov (.c (.int .i64 0)))]) <|
        .block 4 (
          .loop (
            sq (.ops [op 51 (.bin .lss (.r 50) (.r 49))]) <|
            sq (.cond (.r 51)
              (.skip)
              (.exit 4)) <|
            sq (.block 5 (
              sq (.ops [op 52 (.iad 1 (.r 48) (.r 50)), op 53 (.ld 1 false (.r 52)), op 11 (.mov (.r 53))]) <|
              sq (.ops [op 55 (.mov (.r 3)), op 56 (.mov (.r 11)), op 57 (.lkp (.sc .str) (.int .i64 0) true (.r 55) (.r 56)), op 54 (.mov (.r 57)), op 58 (.ext 0 (.r 54)), op 59 (.ext 1 (.r 54)), op 12 (.mov (.r 58)), op 13 (.mov (.r 59))]) <|
              sq (.ops [op 60 (.mov (.r 13))]) <|
              .cond (.r 60)
                (.ops [op 61 (.mov (.r 6)), op 62 (.mov (.r 12)), op 63 (.mov (.r 6)), op 64 (.mov (.r 12)), op 65 (.iad 1 (.r 63) (.r 64)), op 66 (.ld 1 false (.r 65)), op 67 (.fad 1 (.r 9)), op 68 (.ld 1 false (.r 67)), op 69 (.mx (.r 66) (.r 68)), op 70 (.iad 1 (.r 61) (.r 62)), ef (.st 1 (.r 70) (.r 69))])
                (.skip))) <|
            .ops [op 71 (.bin .add (.r 50) (.c (.int .i64 1))), op 50 (.mov (.r 71))])))) <|
      .ops [op 72 (.bin .add (.r 33) (.c (.int .i64 1))), op 33 (.mov (.r 72))]))) <|
  sq (.ops [op 73 (.mov (.r 6)), op 2 (.mov (.r 73))]) <|
  .ret⟩

-- rampart/rampartref08.Has
def an26 : An := ⟨[], []⟩
def ir26 : Go.Rmp.Fn := ⟨18, 2, [.t 4],
  sq (.ops [op 4 (.mov (.c (.bool false)))]) <|
  sq (sq (.ops [op 5 (.mov (.c (.int .i64 0)))]) <|
  .block 0 (
    .loop (
      sq (sq (.ops [op 6 (.mov (.r 5)), op 7 (.mov (.r 0)), op 8 (.len .sl (.r 7)), op 9 (.bin .lss (.r 6) (.r 8))]) <|
      .cond (.r 9)
        (.skip)
        (.exit 0)) <|
      sq (.block 1 (
        sq (.ops [op 12 (.mov (.r 0)), op 13 (.mov (.r 5)), op 14 (.iad 1 (.r 12) (.r 13)), op 15 (.ld 1 false (.r 14)), op 16 (.mov (.r 1)), op 17 (.bin .eql (.r 15) (.r 16))]) <|
        .cond (.r 17)
          (sq (.ops [op 4 (.mov (.c (.bool true)))]) <|
          .ret)
          (.skip))) <|
      .ops [op 10 (.mov (.r 5)), op 11 (.bin .add (.r 10) (.c (.int .i64 1))), op 5 (.mov (.r 11))]))) <|
  sq (.ops [op 4 (.mov (.c (.bool false)))]) <|
  .ret⟩

-- rampart/rampartlaw17.version
def an27 : An := ⟨[], []⟩
def ir27 : Go.Rmp.Fn := ⟨16, 3, [.cl 6 4 true],
  sq (.ops [op 6 (.alloc [.str ⟨#[]⟩, .int .u64 0, .str ⟨#[]⟩, .sl .nil []])]) <|
  sq (.ops [op 8 (.mov (.r 0)), op 9 (.mov (.r 1)), op 10 (.mov (.r 2)), op 11 (.build [.str ⟨#[]⟩, .int .u64 0, .str ⟨#[]⟩, .sl .nil []] [(0, 1, (.r 8)), (1, 1, (.r 9)), (3, 1, (.r 10))]), op 7 (.alloc [.str ⟨#[]⟩, .int .u64 0, .str ⟨#[]⟩, .sl .nil []]), ef (.st 4 (.r 7) (.r 11))]) <|
  sq (sq (.ops [op 12 (.mov (.r 1)), op 13 (.bin .neq (.r 12) (.c (.int .u64 0)))]) <|
  .cond (.r 13)
    (.ops [op 14 (.fad 2 (.r 7)), ef (.st 1 (.r 14) (.c (.str ⟨#[118]⟩)))])
    (.skip)) <|
  sq (.ops [op 15 (.ld 4 true (.r 7)), ef (.st 4 (.r 6) (.r 15))]) <|
  .ret⟩

-- rampart/fix.may
def an28 : An := ⟨[], []⟩
def ir28 : Go.Rmp.Fn := ⟨30, 1, [.t 2],
  sq (.ops [op 1 (.box (.r 0)), op 2 (.mov (.c (.bool false)))]) <|
  sq (sq (.ops [op 3 (.fad 1 (.r 1)), op 4 (.ld 1 false (.r 3)), op 5 (.bin .eql (.r 4) (.c (.int .u64 0)))]) <|
  .cond (.r 5)
    (sq (.ops [op 6 (.fad 2 (.r 1)), op 7 (.ld 1 false (.r 6)), op 8 (.bin .eql (.r 7) (.c (.str ⟨#[]⟩))), op 9 (.mov (.r 8)), ⟨(some 10), .b (.fad 3 (.r 1)), (some (9, true)), []⟩, ⟨(some 11), .b (.ld 1 false (.r 10)), (some (9, true)), []⟩, ⟨(some 12), .b (.len .sl (.r 11)), (some (9, true)), []⟩, ⟨(some 13), .b (.bin .eql (.r 12) (.c (.int .i64 0))), (some (9, true)), []⟩, op 14 (.pick (.r 9) (.r 13) (.c (.bool false))), op 2 (.mov (.r 14))]) <|
    .ret)
    (.skip)) <|
  sq (.ops [op 15 (.fad 1 (.r 1)), op 16 (.ld 1 false (.r 15)), op 17 (.bin .geq (.r 16) (.c (.int .u64 65536))), op 18 (.mov (.r 17)), ⟨(some 19), .b (.fad 3 (.r 1)), (some (18, true)), []⟩, ⟨(some 20), .b (.ld 1 false (.r 19)), (some (18, true)), []⟩, ⟨(some 21), .call 39 [(.r 20)], (some (18, true)), []⟩, op 22 (.pick (.r 18) (.r 21) (.c (.bool false))), op 23 (.mov (.r 22)), ⟨(some 24), .b (.fad 3 (.r 1)), (some (23, true)), []⟩, ⟨(some 25), .b (.ld 1 false (.r 24)), (some (23, true)), []⟩, ⟨(some 26), .b (.fad 0 (.r 1)), (some (23, true)), []⟩, ⟨(some 27), .b (.ld 1 false (.r 26)), (some (23, true)), []⟩, ⟨(some 28), .call 40 [(.r 25), (.r 27)], (some (23, true)), []⟩, op 29 (.pick (.r 23) (.r 28) (.c (.bool false))), op 2 (.mov (.r 29))]) <|
  .ret⟩

-- slices.Equal[[]string,string]
def an29 : An := ⟨[], [(6, [(0, true), (1, true), (2, true), (3, true), (4, true), (5, true), (6, true), (7, true), (8, true)])]⟩
def ir29 : Go.Rmp.Fn := ⟨26, 2, [.t 4],
  sq (.ops [op 4 (.mov (.c (.bool false)))]) <|
  sq (sq (.ops [op 6 (.mov (.r 0)), op 7 (.len .sl (.r 6)), op 8 (.mov (.r 1)), op 9 (.len .sl (.r 8)), op 10 (.bin .neq (.r 7) (.r 9))]) <|
  .cond (.r 10)
    (sq (.ops [op 4 (.mov (.c (.bool false)))]) <|
    .ret)
    (.skip)) <|
  sq (sq (.ops [op 11 (.mov (.r 0)), op 12 (.len .sl (.r 11)), op 13 (.mov (.c (.int .i64 0)))]) <|
  .block 0 (
    .loop (
      sq (.ops [op 14 (.bin .lss (.r 13) (.r 12))]) <|
      sq (.cond (.r 14)
        (.skip)
        (.exit 0)) <|
      sq (.block 1 (
        sq (.ops [op 15 (.mov (.r 13)), op 5 (.mov (.r 15))]) <|
        sq (.ops [op 16 (.mov (.r 0)), op 17 (.mov (.r 5)), op 18 (.iad 1 (.r 16) (.r 17)), op 19 (.ld 1 false (.r 18)), op 20 (.mov (.r 1)), op 21 (.mov (.r 5)), op 22 (.iad 1 (.r 20) (.r 21)), op 23 (.ld 1 false (.r 22)), op 24 (.bin .neq (.r 19) (.r 23))]) <|
        .cond (.r 24)
          (sq (.ops [op 4 (.mov (.c (.bool false)))]) <|
          .ret)
          (.skip))) <|
      .ops [op 25 (.bin .add (.r 13) (.c (.int .i64 1))), op 13 (.mov (.r 25))]))) <|
  sq (.ops [op 4 (.mov (.c (.bool true)))]) <|
  .ret⟩

-- rampart/rampartref17.one
def an30 : An := ⟨[], []⟩
def ir30 : Go.Rmp.Fn := ⟨36, 1, [.t 2],
  sq (.ops [op 1 (.box (.r 0)), op 2 (.mov (.c (.bool false)))]) <|
  sq (sq (.ops [op 3 (.fad 1 (.r 1)), op 4 (.ld 1 false (.r 3)), op 5 (.bin .eql (.r 4) (.c (.int .u64 0)))]) <|
  .cond (.r 5)
    (sq (.ops [op 6 (.fad 2 (.r 1)), op 7 (.ld 1 false (.r 6)), op 8 (.bin .eql (.r 7) (.c (.str ⟨#[]⟩))), op 9 (.mov (.r 8)), ⟨(some 10), .b (.fad 3 (.r 1)), (some (9, true)), []⟩, ⟨(some 11), .b (.ld 1 false (.r 10)), (some (9, true)), []⟩, ⟨(some 12), .b (.len .sl (.r 11)), (some (9, true)), []⟩, ⟨(some 13), .b (.bin .eql (.r 12) (.c (.int .i64 0))), (some (9, true)), []⟩, op 14 (.pick (.r 9) (.r 13) (.c (.bool false))), op 2 (.mov (.r 14))]) <|
    .ret)
    (.skip)) <|
  sq (.ops [op 15 (.fad 1 (.r 1)), op 16 (.ld 1 false (.r 15)), cl 17 41 [(.r 16)], op 18 (.mov (.r 17)), ⟨(some 19), .b (.fad 3 (.r 1)), (some (18, true)), []⟩, ⟨(some 20), .b (.ld 1 false (.r 19)), (some (18, true)), []⟩, ⟨(some 21), .b (.len .sl (.r 20)), (some (18, true)), []⟩, ⟨(some 22), .b (.bin .leq (.r 21) (.c (.int .i64 1024))), (some (18, true)), []⟩, op 23 (.pick (.r 18) (.r 22) (.c (.bool false))), op 24 (.mov (.r 23)), ⟨(some 25), .b (.fad 3 (.r 1)), (some (24, true)), []⟩, ⟨(some 26), .b (.ld 1 false (.r 25)), (some (24, true)), []⟩, ⟨(some 27), .call 42 [(.r 26)], (some (24, true)), []⟩, op 28 (.pick (.r 24) (.r 27) (.c (.bool false))), op 29 (.mov (.r 28)), ⟨(some 30), .b (.fad 3 (.r 1)), (some (29, true)), []⟩, ⟨(some 31), .b (.ld 1 false (.r 30)), (some (29, true)), []⟩, ⟨(some 32), .b (.fad 0 (.r 1)), (some (29, true)), []⟩, ⟨(some 33), .b (.ld 1 false (.r 32)), (some (29, true)), []⟩, ⟨(some 34), .call 26 [(.r 31), (.r 33)], (some (29, true)), []⟩, op 35 (.pick (.r 29) (.r 34) (.c (.bool false))), op 2 (.mov (.r 35))]) <|
  .ret⟩

-- rampart/rampartref17.sameTexts
def an31 : An := ⟨[], [(6, [(0, true), (1, true), (2, true), (3, true), (4, true), (5, true), (6, true), (7, true), (8, true)])]⟩
def ir31 : Go.Rmp.Fn := ⟨26, 2, [.t 4],
  sq (.ops [op 4 (.mov (.c (.bool false)))]) <|
  sq (sq (.ops [op 6 (.mov (.r 0)), op 7 (.len .sl (.r 6)), op 8 (.mov (.r 1)), op 9 (.len .sl (.r 8)), op 10 (.bin .neq (.r 7) (.r 9))]) <|
  .cond (.r 10)
    (sq (.ops [op 4 (.mov (.c (.bool false)))]) <|
    .ret)
    (.skip)) <|
  sq (sq (.ops [op 5 (.mov (.c (.int .i64 0)))]) <|
  .block 0 (
    .loop (
      sq (sq (.ops [op 11 (.mov (.r 5)), op 12 (.mov (.r 0)), op 13 (.len .sl (.r 12)), op 14 (.bin .lss (.r 11) (.r 13))]) <|
      .cond (.r 14)
        (.skip)
        (.exit 0)) <|
      sq (.block 1 (
        sq (.ops [op 17 (.mov (.r 0)), op 18 (.mov (.r 5)), op 19 (.iad 1 (.r 17) (.r 18)), op 20 (.ld 1 false (.r 19)), op 21 (.mov (.r 1)), op 22 (.mov (.r 5)), op 23 (.iad 1 (.r 21) (.r 22)), op 24 (.ld 1 false (.r 23)), op 25 (.bin .neq (.r 20) (.r 24))]) <|
        .cond (.r 25)
          (sq (.ops [op 4 (.mov (.c (.bool false)))]) <|
          .ret)
          (.skip))) <|
      .ops [op 15 (.mov (.r 5)), op 16 (.bin .add (.r 15) (.c (.int .i64 1))), op 5 (.mov (.r 16))]))) <|
  sq (.ops [op 4 (.mov (.c (.bool true)))]) <|
  .ret⟩

-- slices.Backward[[]rampart/api.Version,rampart/api.Version]
def an32 : An := ⟨[], []⟩
def ir32 : Go.Rmp.Fn := ⟨4, 1, [.t 2],
  sq (.ops [op 1 (.box (.r 0)), op 2 (.mov (.c .nilf))]) <|
  sq (.ops [op 3 (.mkf 43 [(.r 1)]), op 2 (.mov (.r 3))]) <|
  .ret⟩

-- slices.Clone[[]string,string]
def an33 : An := ⟨[], []⟩
def ir33 : Go.Rmp.Fn := ⟨8, 1, [.t 2],
  sq (.ops [op 2 (.mov (.c (.sl .nil [])))]) <|
  sq (sq (.ops [op 3 (.mov (.r 0)), op 4 (.eqr false .slice (.r 3) (.c (.sl .nil [])))]) <|
  .cond (.r 4)
    (sq (.ops [op 2 (.mov (.c (.sl .nil [])))]) <|
    .ret)
    (.skip)) <|
  sq (.ops [op 5 (.bsl 0 [.str ⟨#[]⟩] []), op 6 (.mov (.r 0)), op 7 (.app 1 16 false (.r 5) (.r 6)), op 2 (.mov (.r 7))]) <|
  .ret⟩

-- rampart/rampartref17.wanted
def an34 : An := ⟨[], []⟩
def ir34 : Go.Rmp.Fn := ⟨24, 2, [.t 4],
  sq (.ops [op 4 (.mov (.c (.int .u64 0)))]) <|
  sq (sq (.ops [op 5 (.mov (.c (.int .i64 0)))]) <|
  .block 0 (
    .loop (
      sq (sq (.ops [op 6 (.mov (.r 5)), op 7 (.mov (.r 0)), op 8 (.len .sl (.r 7)), op 9 (.bin .lss (.r 6) (.r 8))]) <|
      .cond (.r 9)
        (.skip)
        (.exit 0)) <|
      sq (.block 1 (
        sq (.ops [op 12 (.mov (.r 0)), op 13 (.mov (.r 5)), op 14 (.iad 2 (.r 12) (.r 13)), op 15 (.fad 0 (.r 14)), op 16 (.ld 1 false (.r 15)), op 17 (.mov (.r 1)), op 18 (.bin .eql (.r 16) (.r 17))]) <|
        .cond (.r 18)
          (sq (.ops [op 19 (.mov (.r 0)), op 20 (.mov (.r 5)), op 21 (.iad 2 (.r 19) (.r 20)), op 22 (.fad 1 (.r 21)), op 23 (.ld 1 false (.r 22)), op 4 (.mov (.r 23))]) <|
          .ret)
          (.skip))) <|
      .ops [op 10 (.mov (.r 5)), op 11 (.bin .add (.r 10) (.c (.int .i64 1))), op 5 (.mov (.r 11))]))) <|
  sq (.ops [op 4 (.mov (.c (.int .u64 0)))]) <|
  .ret⟩

-- rampart/rampartref17.own
def an35 : An := ⟨[], []⟩
def ir35 : Go.Rmp.Fn := ⟨8, 1, [.cl 2 4 true],
  sq (.ops [op 1 (.box (.r 0)), op 2 (.alloc [.str ⟨#[]⟩, .int .u64 0, .str ⟨#[]⟩, .sl .nil []])]) <|
  sq (.ops [op 3 (.fad 3 (.r 1)), op 4 (.ld 1 false (.r 3)), op 5 (.app 1 16 false (.c (.sl .nil [])) (.r 4)), op 6 (.fad 3 (.r 1)), ef (.st 1 (.r 6) (.r 5))]) <|
  sq (.ops [op 7 (.ld 4 true (.r 1)), ef (.st 4 (.r 2) (.r 7))]) <|
  .ret⟩

-- rampart/rampartlaw17.sameTexts
def an36 : An := ⟨[], [(6, [(0, true), (1, true), (2, true), (3, true), (4, true), (5, true), (6, true), (7, true), (8, true)])]⟩
def ir36 : Go.Rmp.Fn := ⟨26, 2, [.t 4],
  sq (.ops [op 4 (.mov (.c (.bool false)))]) <|
  sq (sq (.ops [op 6 (.mov (.r 0)), op 7 (.len .sl (.r 6)), op 8 (.mov (.r 1)), op 9 (.len .sl (.r 8)), op 10 (.bin .neq (.r 7) (.r 9))]) <|
  .cond (.r 10)
    (sq (.ops [op 4 (.mov (.c (.bool false)))]) <|
    .ret)
    (.skip)) <|
  sq (sq (.ops [op 5 (.mov (.c (.int .i64 0)))]) <|
  .block 0 (
    .loop (
      sq (sq (.ops [op 11 (.mov (.r 5)), op 12 (.mov (.r 0)), op 13 (.len .sl (.r 12)), op 14 (.bin .lss (.r 11) (.r 13))]) <|
      .cond (.r 14)
        (.skip)
        (.exit 0)) <|
      sq (.block 1 (
        sq (.ops [op 17 (.mov (.r 0)), op 18 (.mov (.r 5)), op 19 (.iad 1 (.r 17) (.r 18)), op 20 (.ld 1 false (.r 19)), op 21 (.mov (.r 1)), op 22 (.mov (.r 5)), op 23 (.iad 1 (.r 21) (.r 22)), op 24 (.ld 1 false (.r 23)), op 25 (.bin .neq (.r 20) (.r 24))]) <|
        .cond (.r 25)
          (sq (.ops [op 4 (.mov (.c (.bool false)))]) <|
          .ret)
          (.skip))) <|
      .ops [op 15 (.mov (.r 5)), op 16 (.bin .add (.r 15) (.c (.int .i64 1))), op 5 (.mov (.r 16))]))) <|
  sq (.ops [op 4 (.mov (.c (.bool true)))]) <|
  .ret⟩

-- rampart/rampartlaw17.key
def an37 : An := ⟨[], []⟩
def ir37 : Go.Rmp.Fn := ⟨8, 1, [.t 2],
  sq (.ops [op 2 (.mov (.c (.str ⟨#[]⟩)))]) <|
  sq (.ops [op 3 (.mov (.r 0)), op 4 (.bin .add (.c (.int .i64 97)) (.r 3)), op 5 (.cvi .u8 (.r 4)), op 6 (.bsl 1 [.int .u8 0] [(0, (.r 5))]), op 7 (.cvs (.r 6)), op 2 (.mov (.r 7))]) <|
  .ret⟩

-- rampart/rampartlaw17.mark
def an38 : An := ⟨[], []⟩
def ir38 : Go.Rmp.Fn := ⟨7, 1, [.t 2],
  sq (.ops [op 2 (.mov (.c (.str ⟨#[]⟩)))]) <|
  sq (.ops [op 3 (.mov (.r 0)), op 4 (.cvi .u8 (.r 3)), op 5 (.bsl 3 [.int .u8 0] [(0, (.r 4)), (1, (.c (.int .u8 7))), (2, (.c (.int .u8 7)))]), op 6 (.cvs (.r 5)), op 2 (.mov (.r 6))]) <|
  .ret⟩

-- rampart/fix.rising
def an39 : An := ⟨[], [(4, [(0, true), (1, true), (2, true), (3, true), (4, true), (5, true), (6, true), (7, true), (8, true), (9, true)])]⟩
def ir39 : Go.Rmp.Fn := ⟨23, 1, [.t 2],
  sq (.ops [op 2 (.mov (.c (.bool false)))]) <|
  sq (sq (.ops [op 3 (.mov (.c (.int .i64 1)))]) <|
  .block 0 (
    .loop (
      sq (sq (.ops [op 4 (.mov (.r 3)), op 5 (.mov (.r 0)), op 6 (.len .sl (.r 5)), op 7 (.bin .lss (.r 4) (.r 6))]) <|
      .cond (.r 7)
        (.skip)
        (.exit 0)) <|
      sq (.block 1 (
        sq (.ops [op 10 (.mov (.r 0)), op 11 (.mov (.r 3)), op 12 (.iad 1 (.r 10) (.r 11)), op 13 (.ld 1 false (.r 12)), op 14 (.mov (.r 0)), op 15 (.mov (.r 3)), op 16 (.bin .sub (.r 15) (.c (.int .i64 1))), op 17 (.iad 1 (.r 14) (.r 16)), op 18 (.ld 1 false (.r 17)), op 19 (.bin .leq (.r 13) (.r 18))]) <|
        .cond (.r 19)
          (sq (.ops [op 2 (.mov (.c (.bool false)))]) <|
          .ret)
          (.skip))) <|
      .ops [op 8 (.mov (.r 3)), op 9 (.bin .add (.r 8) (.c (.int .i64 1))), op 3 (.mov (.r 9))]))) <|
  sq (.ops [op 20 (.mov (.r 0)), op 21 (.len .sl (.r 20)), op 22 (.bin .leq (.r 21) (.c (.int .i64 1024))), op 2 (.mov (.r 22))]) <|
  .ret⟩

-- rampart/fix.has
def an40 : An := ⟨[], []⟩
def ir40 : Go.Rmp.Fn := ⟨14, 2, [.t 4],
  sq (.ops [op 4 (.mov (.c (.bool false)))]) <|
  sq (.ops [op 8 (.mov (.r 0)), op 9 (.mov (.r 1)), cl 10 44 [(.r 8), (.r 9)], op 7 (.mov (.r 10)), op 11 (.ext 0 (.r 7)), op 12 (.ext 1 (.r 7)), op 5 (.mov (.r 11)), op 6 (.mov (.r 12))]) <|
  sq (.ops [op 13 (.mov (.r 6)), op 4 (.mov (.r 13))]) <|
  .ret⟩

-- rampart/rampartref08.ID
def an41 : An := ⟨[], []⟩
def ir41 : Go.Rmp.Fn := ⟨5, 1, [.t 2],
  sq (.ops [op 2 (.mov (.c (.bool false)))]) <|
  sq (.ops [op 3 (.mov (.r 0)), op 4 (.bin .geq (.r 3) (.c (.int .u64 65536))), op 2 (.mov (.r 4))]) <|
  .ret⟩

-- rampart/rampartref08.Rising
def an42 : An := ⟨[], [(4, [(0, true), (1, true), (2, true), (3, true), (4, true), (5, true), (6, true), (7, true), (8, true), (9, true)])]⟩
def ir42 : Go.Rmp.Fn := ⟨20, 1, [.t 2],
  sq (.ops [op 2 (.mov (.c (.bool false)))]) <|
  sq (sq (.ops [op 3 (.mov (.c (.int .i64 1)))]) <|
  .block 0 (
    .loop (
      sq (sq (.ops [op 4 (.mov (.r 3)), op 5 (.mov (.r 0)), op 6 (.len .sl (.r 5)), op 7 (.bin .lss (.r 4) (.r 6))]) <|
      .cond (.r 7)
        (.skip)
        (.exit 0)) <|
      sq (.block 1 (
        sq (.ops [op 10 (.mov (.r 0)), op 11 (.mov (.r 3)), op 12 (.bin .sub (.r 11) (.c (.int .i64 1))), op 13 (.iad 1 (.r 10) (.r 12)), op 14 (.ld 1 false (.r 13)), op 15 (.mov (.r 0)), op 16 (.mov (.r 3)), op 17 (.iad 1 (.r 15) (.r 16)), op 18 (.ld 1 false (.r 17)), op 19 (.bin .geq (.r 14) (.r 18))]) <|
        .cond (.r 19)
          (sq (.ops [op 2 (.mov (.c (.bool false)))]) <|
          .ret)
          (.skip))) <|
      .ops [op 8 (.mov (.r 3)), op 9 (.bin .add (.r 8) (.c (.int .i64 1))), op 3 (.mov (.r 9))]))) <|
  sq (.ops [op 2 (.mov (.c (.bool true)))]) <|
  .ret⟩

-- slices.Backward[[]rampart/api.Version,rampart/api.Version]$1
def an43 : An := ⟨[], []⟩
def ir43 : Go.Rmp.Fn := ⟨19, 2, [],
  sq (.ops [op 4 (.ld 1 false (.r 1)), op 5 (.len .sl (.r 4)), op 6 (.bin .sub (.r 5) (.c (.int .i64 1))), op 3 (.mov (.r 6))]) <|
  .block 0 (
    .loop (
      sq (sq (.ops [op 7 (.mov (.r 3)), op 8 (.bin .geq (.r 7) (.c (.int .i64 0)))]) <|
      .cond (.r 8)
        (.skip)
        (.exit 0)) <|
      sq (.block 1 (
        sq (.ops [op 11 (.mov (.r 0)), op 12 (.mov (.r 3)), op 13 (.ld 1 false (.r 1)), op 14 (.mov (.r 3)), op 15 (.iad 4 (.r 13) (.r 14)), op 16 (.ld 4 true (.r 15)), ⟨(some 17), .callv (.r 11) [(.r 12), (.r 16)], none, []⟩, op 18 (.un .not (.r 17))]) <|
        .cond (.r 18)
          (.ret)
          (.skip))) <|
      .ops [op 9 (.mov (.r 3)), op 10 (.bin .sub (.r 9) (.c (.int .i64 1))), op 3 (.mov (.r 10))]))⟩

-- slices.BinarySearch[[]string,string]
def an44 : An := ⟨[], []⟩
def ir44 : Go.Rmp.Fn := ⟨54, 2, [.t 4, .t 5],
  sq (.ops [op 4 (.mov (.c (.int .i64 0))), op 5 (.mov (.c (.bool false)))]) <|
  sq (.ops [op 10 (.mov (.r 0)), op 11 (.len .sl (.r 10)), op 6 (.mov (.r 11))]) <|
  sq (.ops [op 12 (.mov (.r 6)), op 7 (.mov (.c (.int .i64 0))), op 8 (.mov (.r 12))]) <|
  sq (.block 0 (
    .loop (
      sq (sq (.ops [op 13 (.mov (.r 7)), op 14 (.mov (.r 8)), op 15 (.bin .lss (.r 13) (.r 14))]) <|
      .cond (.r 15)
        (.skip)
        (.exit 0)) <|
      .block 1 (
        sq (.ops [op 16 (.mov (.r 7)), op 17 (.mov (.r 8)), op 18 (.bin .add (.r 16) (.r 17)), op 19 (.cvi .u64 (.r 18)), op 20 (.bin .shr (.r 19) (.c (.int .u64 1))), op 21 (.cvi .i64 (.r 20)), op 9 (.mov (.r 21))]) <|
        sq (.ops [op 22 (.mov (.r 0)), op 23 (.mov (.r 9)), op 24 (.iad 1 (.r 22) (.r 23)), op 25 (.ld 1 false (.r 24)), op 26 (.mov (.r 1)), cl 27 45 [(.r 25), (.r 26)]]) <|
        .cond (.r 27)
          (.ops [op 28 (.mov (.r 9)), op 29 (.bin .add (.r 28) (.c (.int .i64 1))), op 7 (.mov (.r 29))])
          (.ops [op 30 (.mov (.r 9)), op 8 (.mov (.r 30))]))))) <|
  sq (.ops [op 31 (.mov (.r 7)), op 32 (.mov (.r 7)), op 33 (.mov (.r 6)), op 34 (.bin .lss (.r 32) (.r 33)), op 35 (.mov (.r 34)), ⟨(some 36), .b (.mov (.r 0)), (some (35, true)), []⟩, ⟨(some 37), .b (.mov (.r 7)), (some (35, true)), []⟩, ⟨(some 38), .b (.iad 1 (.r 36) (.r 37)), (some (35, true)), []⟩, ⟨(some 39), .b (.ld 1 false (.r 38)), (some (35, true)), []⟩, ⟨(some 40), .b (.mov (.r 1)), (some (35, true)), []⟩, ⟨(some 41), .b (.bin .eql (.r 39) (.r 40)), (some (35, true)), []⟩, ⟨(some 42), .b (.mov (.r 41)), (some (35, true)), []⟩, ⟨(some 43), .b (.mov (.r 0)), (some (42, false)), []⟩, ⟨(some 44), .b (.mov (.r 7)), (some (42, false)), []⟩, ⟨(some 45), .b (.iad 1 (.r 43) (.r 44)), (some (42, false)), []⟩, ⟨(some 46), .b (.ld 1 false (.r 45)), (some (42, false)), []⟩, ⟨(some 47), .call 46 [(.r 46)], (some (42, false)), []⟩, ⟨(some 48), .b (.mov (.r 47)), (some (42, false)), []⟩, ⟨(some 49), .b (.mov (.r 1)), (some (48, true)), []⟩, ⟨(some 50), .call 46 [(.r 49)], (some (48, true)), []⟩, ⟨(some 51), .b (.pick (.r 48) (.r 50) (.c (.bool false))), (some (42, false)), []⟩, ⟨(some 52), .b (.pick (.r 42) (.c (.bool true)) (.r 51)), (some (35, true)), []⟩, op 53 (.pick (.r 35) (.r 52) (.c (.bool false))), op 4 (.mov (.r 31)), op 5 (.mov (.r 53))]) <|
  .ret⟩

-- cmp.Less[string]
def an45 : An := ⟨[], []⟩
def ir45 : Go.Rmp.Fn := ⟨17, 2, [.t 4],
  sq (.ops [op 4 (.mov (.c (.bool false)))]) <|
  sq (.ops [op 5 (.mov (.r 0)), cl 6 47 [(.r 5)], op 7 (.mov (.r 6)), ⟨(some 8), .b (.mov (.r 1)), (some (7, true)), []⟩, ⟨(some 9), .call 47 [(.r 8)], (some (7, true)), []⟩, ⟨(some 10), .b (.un .not (.r 9)), (some (7, true)), []⟩, op 11 (.pick (.r 7) (.r 10) (.c (.bool false))), op 12 (.mov (.r 11)), ⟨(some 13), .b (.mov (.r 0)), (some (12, false)), []⟩, ⟨(some 14), .b (.mov (.r 1)), (some (12, false)), []⟩, ⟨(some 15), .b (.bin .lss (.r 13) (.r 14)), (some (12, false)), []⟩, op 16 (.pick (.r 12) (.c (.bool true)) (.r 15)), op 4 (.mov (.r 16))]) <|
  .ret⟩

-- slices.isNaN[string]
def an46 : An := ⟨[], []⟩
def ir46 : Go.Rmp.Fn := ⟨6, 1, [.t 2],
  sq (.ops [op 2 (.mov (.c (.bool false)))]) <|
  sq (.ops [op 3 (.mov (.r 0)), op 4 (.mov (.r 0)), op 5 (.bin .neq (.r 3) (.r 4)), op 2 (.mov (.r 5))]) <|
  .ret⟩

-- cmp.isNaN[string]
def an47 : An := ⟨[], []⟩
def ir47 : Go.Rmp.Fn := ⟨6, 1, [.t 2],
  sq (.ops [op 2 (.mov (.c (.bool false)))]) <|
  sq (.ops [op 3 (.mov (.r 0)), op 4 (.mov (.r 0)), op 5 (.bin .neq (.r 3) (.r 4)), op 2 (.mov (.r 5))]) <|
  .ret⟩

theorem c3 : compFn Try.prog an3 3 = some ir3 := by kernel_rfl
theorem c4 : compFn Try.prog an4 4 = some ir4 := by kernel_rfl
theorem c5 : compFn Try.prog an5 5 = some ir5 := by kernel_rfl
theorem c6 : compFn Try.prog an6 6 = some ir6 := by kernel_rfl
theorem c7 : compFn Try.prog an7 7 = some ir7 := by kernel_rfl
theorem c8 : compFn Try.prog an8 8 = some ir8 := by kernel_rfl
theorem c9 : compFn Try.prog an9 9 = some ir9 := by kernel_rfl
theorem c10 : compFn Try.prog an10 10 = some ir10 := by kernel_rfl
theorem c11 : compFn Try.prog an11 11 = some ir11 := by kernel_rfl
theorem c12 : compFn Try.prog an12 12 = some ir12 := by kernel_rfl
theorem c13 : compFn Try.prog an13 13 = some ir13 := by kernel_rfl
theorem c14 : compFn Try.prog an14 14 = some ir14 := by kernel_rfl
theorem c15 : compFn Try.prog an15 15 = some ir15 := by kernel_rfl
theorem c16 : compFn Try.prog an16 16 = some ir16 := by kernel_rfl
theorem c17 : compFn Try.prog an17 17 = some ir17 := by kernel_rfl
theorem c18 : compFn Try.prog an18 18 = some ir18 := by kernel_rfl
theorem c19 : compFn Try.prog an19 19 = some ir19 := by kernel_rfl
theorem c20 : compFn Try.prog an20 20 = some ir20 := by kernel_rfl
theorem c21 : compFn Try.prog an21 21 = some ir21 := by kernel_rfl
theorem c22 : compFn Try.prog an22 22 = some ir22 := by kernel_rfl
theorem c23 : compFn Try.prog an23 23 = some ir23 := by kernel_rfl
theorem c24 : compFn Try.prog an24 24 = some ir24 := by kernel_rfl
theorem c25 : compFn Try.prog an25 25 = some ir25 := by kernel_rfl
theorem c26 : compFn Try.prog an26 26 = some ir26 := by kernel_rfl
theorem c27 : compFn Try.prog an27 27 = some ir27 := by kernel_rfl
theorem c28 : compFn Try.prog an28 28 = some ir28 := by kernel_rfl
theorem c29 : compFn Try.prog an29 29 = some ir29 := by kernel_rfl
theorem c30 : compFn Try.prog an30 30 = some ir30 := by kernel_rfl
theorem c31 : compFn Try.prog an31 31 = some ir31 := by kernel_rfl
theorem c32 : compFn Try.prog an32 32 = some ir32 := by kernel_rfl
theorem c33 : compFn Try.prog an33 33 = some ir33 := by kernel_rfl
theorem c34 : compFn Try.prog an34 34 = some ir34 := by kernel_rfl
theorem c35 : compFn Try.prog an35 35 = some ir35 := by kernel_rfl
theorem c36 : compFn Try.prog an36 36 = some ir36 := by kernel_rfl
theorem c37 : compFn Try.prog an37 37 = some ir37 := by kernel_rfl
theorem c38 : compFn Try.prog an38 38 = some ir38 := by kernel_rfl
theorem c39 : compFn Try.prog an39 39 = some ir39 := by kernel_rfl
theorem c40 : compFn Try.prog an40 40 = some ir40 := by kernel_rfl
theorem c41 : compFn Try.prog an41 41 = some ir41 := by kernel_rfl
theorem c42 : compFn Try.prog an42 42 = some ir42 := by kernel_rfl
theorem c43 : compFn Try.prog an43 43 = some ir43 := by kernel_rfl
theorem c44 : compFn Try.prog an44 44 = some ir44 := by kernel_rfl
theorem c45 : compFn Try.prog an45 45 = some ir45 := by kernel_rfl
theorem c46 : compFn Try.prog an46 46 = some ir46 := by kernel_rfl
theorem c47 : compFn Try.prog an47 47 = some ir47 := by kernel_rfl

def envFn : Nat → Option Go.Rmp.Fn
  | 3 => some ir3
  | 4 => some ir4
  | 5 => some ir5
  | 6 => some ir6
  | 7 => some ir7
  | 8 => some ir8
  | 9 => some ir9
  | 10 => some ir10
  | 11 => some ir11
  | 12 => some ir12
  | 13 => some ir13
  | 14 => some ir14
  | 15 => some ir15
  | 16 => some ir16
  | 17 => some ir17
  | 18 => some ir18
  | 19 => some ir19
  | 20 => some ir20
  | 21 => some ir21
  | 22 => some ir22
  | 23 => some ir23
  | 24 => some ir24
  | 25 => some ir25
  | 26 => some ir26
  | 27 => some ir27
  | 28 => some ir28
  | 29 => some ir29
  | 30 => some ir30
  | 31 => some ir31
  | 32 => some ir32
  | 33 => some ir33
  | 34 => some ir34
  | 35 => some ir35
  | 36 => some ir36
  | 37 => some ir37
  | 38 => some ir38
  | 39 => some ir39
  | 40 => some ir40
  | 41 => some ir41
  | 42 => some ir42
  | 43 => some ir43
  | 44 => some ir44
  | 45 => some ir45
  | 46 => some ir46
  | 47 => some ir47
  | _ => none
def env : Env := ⟨envFn, fun _ _ _ _ => False, fun _ _ _ _ _ h _ => h⟩
theorem envOk : EnvOk Try.prog env where
  mixed := by kernel_rfl
  fn := by
    intro f fn h
    simp only [env, envFn] at h
    split at h
    · cases h; exact ⟨_, c3⟩
    · cases h; exact ⟨_, c4⟩
    · cases h; exact ⟨_, c5⟩
    · cases h; exact ⟨_, c6⟩
    · cases h; exact ⟨_, c7⟩
    · cases h; exact ⟨_, c8⟩
    · cases h; exact ⟨_, c9⟩
    · cases h; exact ⟨_, c10⟩
    · cases h; exact ⟨_, c11⟩
    · cases h; exact ⟨_, c12⟩
    · cases h; exact ⟨_, c13⟩
    · cases h; exact ⟨_, c14⟩
    · cases h; exact ⟨_, c15⟩
    · cases h; exact ⟨_, c16⟩
    · cases h; exact ⟨_, c17⟩
    · cases h; exact ⟨_, c18⟩
    · cases h; exact ⟨_, c19⟩
    · cases h; exact ⟨_, c20⟩
    · cases h; exact ⟨_, c21⟩
    · cases h; exact ⟨_, c22⟩
    · cases h; exact ⟨_, c23⟩
    · cases h; exact ⟨_, c24⟩
    · cases h; exact ⟨_, c25⟩
    · cases h; exact ⟨_, c26⟩
    · cases h; exact ⟨_, c27⟩
    · cases h; exact ⟨_, c28⟩
    · cases h; exact ⟨_, c29⟩
    · cases h; exact ⟨_, c30⟩
    · cases h; exact ⟨_, c31⟩
    · cases h; exact ⟨_, c32⟩
    · cases h; exact ⟨_, c33⟩
    · cases h; exact ⟨_, c34⟩
    · cases h; exact ⟨_, c35⟩
    · cases h; exact ⟨_, c36⟩
    · cases h; exact ⟨_, c37⟩
    · cases h; exact ⟨_, c38⟩
    · cases h; exact ⟨_, c39⟩
    · cases h; exact ⟨_, c40⟩
    · cases h; exact ⟨_, c41⟩
    · cases h; exact ⟨_, c42⟩
    · cases h; exact ⟨_, c43⟩
    · cases h; exact ⟨_, c44⟩
    · cases h; exact ⟨_, c45⟩
    · cases h; exact ⟨_, c46⟩
    · cases h; exact ⟨_, c47⟩
    · cases h
  prim := by intro f az H Q h; exact h.elim
end Go.Proofs.Ytobnjpgggocdlaa.Ir
end

/-! text FixA -/
section
namespace Go.Proofs.Ytobnjpgggocdlaa.Fx
open Go.Rmp Go.Proofs.Ytobnjpgggocdlaa.Ir
set_option maxRecDepth 10000
def encS (l : List ByteArray) : List (List T) := l.map fun s => [T.str s]
theorem encS_len (l : List ByteArray) : (encS l).length = l.length := by simp [encS]
theorem iadS {l : List ByteArray} {k : SK} {i : Nat} {x : ByteArray} (h : l[i]? = some x) : iadT 1 i (.sl k (encS l)) = some (.iptr [.str x]) := iad_map h rfl (by decide)
theorem getS {l : List ByteArray} {i : Nat} (h : i < l.length) : ∃ x, l[i]? = some x := ⟨l[i], List.getElem?_eq_getElem h⟩

/-! cmp.isNaN, cmp.Less of texts -/
theorem nan46 (s : ByteArray) (H : Heap) : W env (.call 46 [.str s]) H (Ret (.bool false) H) := by
  refine W.fnI rfl rfl rfl ?_
  simp -implicitDefEqProofs only [ir46, b_nil, b_b, b_g, b_c, b_cg, step_s, grd_t, grd_f, grdc_t, grdc_f, c_skip, c_ops, norm_ap, Int.reduceLT, c_seq, c_cond, c_block, c_exit, c_ret, c_loop, c_range, cont_ap, cond_t, cond_f, then_n, then_r, then_e, blk_n, blk_r, blk_e, Bool.false_eq_true, want_t, want_f, isT_b, isF_b, isT_u, isF_u, ldc_tail, retg_val, retg_same, List.length_cons, List.length_nil, Nat.reduceAdd, Nat.reduceLeDiff, Nat.reduceLT, List.drop_succ_cons, List.drop_zero, List.take_succ_cons, List.take_zero, T.cells?, fadT, Nat.zero_add, op, ef, cl, sq, evop, ev_r, ev_c, stB, updo_s, updo_n, upd_ap, regs0_0, regs0_1, regs0_2, regs0_3, regs0_4, reduceIte, Nat.reduceEqDiff, true_and, and_true, Option.map_some, Option.bind_some, binT, unT, lenT, natOf_nat, ldc1, val1, valA, endQ, resT, resL, resV, tupT, dlt, dle, deq, dne, List.map_cons, List.map_nil, decide_true, decide_false, strEq_eq, not_le, Bool.not_true, Bool.not_false, beq_self_eq_true, bne_self_eq_false, List.getElem?_cons_zero, List.getElem?_cons_succ, List.getElem?_nil, List.length_map, ret_val, T.bool.injEq, T.int.injEq, T.str.injEq, T.tup.injEq]
theorem nan47 (s : ByteArray) (H : Heap) : W env (.call 47 [.str s]) H (Ret (.bool false) H) := by
  refine W.fnI rfl rfl rfl ?_
  simp -implicitDefEqProofs only [ir47, b_nil, b_b, b_g, b_c, b_cg, step_s, grd_t, grd_f, grdc_t, grdc_f, c_skip, c_ops, norm_ap, Int.reduceLT, c_seq, c_cond, c_block, c_exit, c_ret, c_loop, c_range, cont_ap, cond_t, cond_f, then_n, then_r, then_e, blk_n, blk_r, blk_e, Bool.false_eq_true, want_t, want_f, isT_b, isF_b, isT_u, isF_u, ldc_tail, retg_val, retg_same, List.length_cons, List.length_nil, Nat.reduceAdd, Nat.reduceLeDiff, Nat.reduceLT, List.drop_succ_cons, List.drop_zero, List.take_succ_cons, List.take_zero, T.cells?, fadT, Nat.zero_add, op, ef, cl, sq, evop, ev_r, ev_c, stB, updo_s, updo_n, upd_ap, regs0_0, regs0_1, regs0_2, regs0_3, regs0_4, reduceIte, Nat.reduceEqDiff, true_and, and_true, Option.map_some, Option.bind_some, binT, unT, lenT, natOf_nat, ldc1, val1, valA, endQ, resT, resL, resV, tupT, dlt, dle, deq, dne, List.map_cons, List.map_nil, decide_true, decide_false, strEq_eq, not_le, Bool.not_true, Bool.not_false, beq_self_eq_true, bne_self_eq_false, List.getElem?_cons_zero, List.getElem?_cons_succ, List.getElem?_nil, List.length_map, ret_val, T.bool.injEq, T.int.injEq, T.str.injEq, T.tup.injEq]
theorem less45 (a b : ByteArray) (H : Heap) : W env (.call 45 [.str a, .str b]) H (Ret (.bool (strLt a b)) H) := by
  refine W.fnI rfl rfl rfl ?_
  simp -implicitDefEqProofs only [ir45, b_nil, b_b, b_g, b_c, b_cg, step_s, grd_t, grd_f, grdc_t, grdc_f, c_skip, c_ops, norm_ap, Int.reduceLT, c_seq, c_cond, c_block, c_exit, c_ret, c_loop, c_range, cont_ap, cond_t, cond_f, then_n, then_r, then_e, blk_n, blk_r, blk_e, Bool.false_eq_true, want_t, want_f, isT_b, isF_b, isT_u, isF_u, ldc_tail, retg_val, retg_same, List.length_cons, List.length_nil, Nat.reduceAdd, Nat.reduceLeDiff, Nat.reduceLT, List.drop_succ_cons, List.drop_zero, List.take_succ_cons, List.take_zero, T.cells?, fadT, Nat.zero_add, op, ef, cl, sq, evop, ev_r, ev_c, stB, updo_s, updo_n, upd_ap, regs0_0, regs0_1, regs0_2, regs0_3, regs0_4, reduceIte, Nat.reduceEqDiff, true_and, and_true, Option.map_some, Option.bind_some, binT, unT, lenT, natOf_nat, ldc1, val1, valA, endQ, resT, resL, resV, tupT, dlt, dle, deq, dne, List.map_cons, List.map_nil, decide_true, decide_false, strEq_eq, not_le, Bool.not_true, Bool.not_false, beq_self_eq_true, bne_self_eq_false, List.getElem?_cons_zero, List.getElem?_cons_succ, List.getElem?_nil, List.length_map, ret_val, T.bool.injEq, T.int.injEq, T.str.injEq, T.tup.injEq]
  refine callB_of _ _ _ _ _ _ _ _ (nan47 a H) ?_
  rintro v H' ⟨h1, rfl⟩
  cases h1
  simp -implicitDefEqProofs only [b_nil, b_b, b_g, b_c, b_cg, step_s, grd_t, grd_f, grdc_t, grdc_f, c_skip, c_ops, norm_ap, Int.reduceLT, c_seq, c_cond, c_block, c_exit, c_ret, c_loop, c_range, cont_ap, cond_t, cond_f, then_n, then_r, then_e, blk_n, blk_r, blk_e, Bool.false_eq_true, want_t, want_f, isT_b, isF_b, isT_u, isF_u, ldc_tail, retg_val, retg_same, List.length_cons, List.length_nil, Nat.reduceAdd, Nat.reduceLeDiff, Nat.reduceLT, List.drop_succ_cons, List.drop_zero, List.take_succ_cons, List.take_zero, T.cells?, fadT, Nat.zero_add, op, ef, cl, sq, evop, ev_r, ev_c, stB, updo_s, updo_n, upd_ap, regs0_0, regs0_1, regs0_2, regs0_3, regs0_4, reduceIte, Nat.reduceEqDiff, true_and, and_true, Option.map_some, Option.bind_some, binT, unT, lenT, natOf_nat, ldc1, val1, valA, endQ, resT, resL, resV, tupT, dlt, dle, deq, dne, List.map_cons, List.map_nil, decide_true, decide_false, strEq_eq, not_le, Bool.not_true, Bool.not_false, beq_self_eq_true, bne_self_eq_false, List.getElem?_cons_zero, List.getElem?_cons_succ, List.getElem?_nil, List.length_map, ret_val, T.bool.injEq, T.int.injEq, T.str.injEq, T.tup.injEq]

/-! equal lists -/
theorem eq36 (k k' : SK) (a b : List ByteArray) (H : Heap) (hl : a.length < 9223372036854775807) : W env (.call 36 [.sl k (encS a), .sl k' (encS b)]) H (Ret (.bool (decide (a = b))) H) := by
  refine W.fnI rfl rfl rfl ?_
  simp -implicitDefEqProofs only [ir36, b_nil, b_b, b_g, b_c, b_cg, step_s, grd_t, grd_f, grdc_t, grdc_f, c_skip, c_ops, norm_ap, Int.reduceLT, c_seq, c_cond, c_block, c_exit, c_ret, c_loop, c_range, cont_ap, cond_t, cond_f, then_n, then_r, then_e, blk_n, blk_r, blk_e, Bool.false_eq_true, want_t, want_f, isT_b, isF_b, isT_u, isF_u, ldc_tail, retg_val, retg_same, List.length_cons, List.length_nil, Nat.reduceAdd, Nat.reduceLeDiff, Nat.reduceLT, List.drop_succ_cons, List.drop_zero, List.take_succ_cons, List.take_zero, T.cells?, fadT, Nat.zero_add, op, ef, cl, sq, evop, ev_r, ev_c, stB, updo_s, updo_n, upd_ap, regs0_0, regs0_1, regs0_2, regs0_3, regs0_4, reduceIte, Nat.reduceEqDiff, true_and, and_true, Option.map_some, Option.bind_some, binT, unT, lenT, natOf_nat, ldc1, val1, valA, endQ, resT, resL, resV, tupT, dlt, dle, deq, dne, List.map_cons, List.map_nil, decide_true, decide_false, strEq_eq, not_le, Bool.not_true, Bool.not_false, beq_self_eq_true, bne_self_eq_false, List.getElem?_cons_zero, List.getElem?_cons_succ, List.getElem?_nil, List.length_map, ret_val, T.bool.injEq, T.int.injEq, T.str.injEq, T.tup.injEq, encS_len]
  by_cases hab : a.length = b.length
  · simp -implicitDefEqProofs only [hab, b_nil, b_b, b_g, b_c, b_cg, step_s, grd_t, grd_f, grdc_t, grdc_f, c_skip, c_ops, norm_ap, Int.reduceLT, c_seq, c_cond, c_block, c_exit, c_ret, c_loop, c_range, cont_ap, cond_t, cond_f, then_n, then_r, then_e, blk_n, blk_r, blk_e, Bool.false_eq_true, want_t, want_f, isT_b, isF_b, isT_u, isF_u, ldc_tail, retg_val, retg_same, List.length_cons, List.length_nil, Nat.reduceAdd, Nat.reduceLeDiff, Nat.reduceLT, List.drop_succ_cons, List.drop_zero, List.take_succ_cons, List.take_zero, T.cells?, fadT, Nat.zero_add, op, ef, cl, sq, evop, ev_r, ev_c, stB, updo_s, updo_n, upd_ap, regs0_0, regs0_1, regs0_2, regs0_3, regs0_4, reduceIte, Nat.reduceEqDiff, true_and, and_true, Option.map_some, Option.bind_some, binT, unT, lenT, natOf_nat, ldc1, val1, valA, endQ, resT, resL, resV, tupT, dlt, dle, deq, dne, List.map_cons, List.map_nil, decide_true, decide_false, strEq_eq, not_le, Bool.not_true, Bool.not_false, beq_self_eq_true, bne_self_eq_false, List.getElem?_cons_zero, List.getElem?_cons_succ, List.getElem?_nil, List.length_map, ret_val, T.bool.injEq, T.int.injEq, T.str.injEq, T.tup.injEq]
    refine W.loopI (fun (i : Nat) R H' => H' = H ∧ R 0 = .sl k (encS a) ∧ R 1 = .sl k' (encS b) ∧ R 5 = .int .i64 i ∧ i ≤ a.length ∧ ∀ j, j < i → a[j]? = b[j]?) (fun i => a.length - i) 0 ⟨rfl, rfl, rfl, rfl, Nat.zero_le _, fun j h => by omega⟩ ?_
    rintro i R _ ⟨rfl, h0, h1, h5, hi, he⟩
    by_cases hlt : i < a.length
    · obtain ⟨x, hx⟩ := getS hlt
      obtain ⟨y, hy⟩ := getS (l := b) (i := i) (by omega)
      have ws := wrap_succ (show i < 9223372036854775807 by omega)
      by_cases hxy : x = y
      · subst hxy
        simp -implicitDefEqProofs only [b_nil, b_b, b_g, b_c, b_cg, step_s, grd_t, grd_f, grdc_t, grdc_f, c_skip, c_ops, norm_ap, Int.reduceLT, c_seq, c_cond, c_block, c_exit, c_ret, c_loop, c_range, cont_ap, cond_t, cond_f, then_n, then_r, then_e, blk_n, blk_r, blk_e, Bool.false_eq_true, want_t, want_f, isT_b, isF_b, isT_u, isF_u, ldc_tail, retg_val, retg_same, List.length_cons, List.length_nil, Nat.reduceAdd, Nat.reduceLeDiff, Nat.reduceLT, List.drop_succ_cons, List.drop_zero, List.take_succ_cons, List.take_zero, T.cells?, fadT, Nat.zero_add, op, ef, cl, sq, evop, ev_r, ev_c, stB, updo_s, updo_n, upd_ap, regs0_0, regs0_1, regs0_2, regs0_3, regs0_4, reduceIte, Nat.reduceEqDiff, true_and, and_true, Option.map_some, Option.bind_some, binT, unT, lenT, natOf_nat, ldc1, val1, valA, endQ, resT, resL, resV, tupT, dlt, dle, deq, dne, List.map_cons, List.map_nil, decide_true, decide_false, strEq_eq, not_le, Bool.not_true, Bool.not_false, beq_self_eq_true, bne_self_eq_false, List.getElem?_cons_zero, List.getElem?_cons_succ, List.getElem?_nil, List.length_map, ret_val, T.bool.injEq, T.int.injEq, T.str.injEq, T.tup.injEq, h0, h1, h5, encS_len, hlt, iadS hx, iadS hy, ws]
        refine ⟨i + 1, by omega, rfl, by omega, fun j hj => ?_⟩
        by_cases e : j = i
        · subst e; rw [hx, hy]
        · exact he j (by omega)
      · have : a ≠ b := by rintro rfl; rw [hx] at hy; cases hy; exact hxy rfl
        simp -implicitDefEqProofs only [b_nil, b_b, b_g, b_c, b_cg, step_s, grd_t, grd_f, grdc_t, grdc_f, c_skip, c_ops, norm_ap, Int.reduceLT, c_seq, c_cond, c_block, c_exit, c_ret, c_loop, c_range, cont_ap, cond_t, cond_f, then_n, then_r, then_e, blk_n, blk_r, blk_e, Bool.false_eq_true, want_t, want_f, isT_b, isF_b, isT_u, isF_u, ldc_tail, retg_val, retg_same, List.length_cons, List.length_nil, Nat.reduceAdd, Nat.reduceLeDiff, Nat.reduceLT, List.drop_succ_cons, List.drop_zero, List.take_succ_cons, List.take_zero, T.cells?, fadT, Nat.zero_add, op, ef, cl, sq, evop, ev_r, ev_c, stB, updo_s, updo_n, upd_ap, regs0_0, regs0_1, regs0_2, regs0_3, regs0_4, reduceIte, Nat.reduceEqDiff, true_and, and_true, Option.map_some, Option.bind_some, binT, unT, lenT, natOf_nat, ldc1, val1, valA, endQ, resT, resL, resV, tupT, dlt, dle, deq, dne, List.map_cons, List.map_nil, decide_true, decide_false, strEq_eq, not_le, Bool.not_true, Bool.not_false, beq_self_eq_true, bne_self_eq_false, List.getElem?_cons_zero, List.getElem?_cons_succ, List.getElem?_nil, List.length_map, ret_val, T.bool.injEq, T.int.injEq, T.str.injEq, T.tup.injEq, h0, h1, h5, encS_len, hlt, iadS hx, iadS hy, ws, hxy, this]
    · have : a = b := List.ext_getElem? fun j => by
        by_cases hj : j < a.length
        · exact he j (by omega)
        · rw [List.getElem?_eq_none (by omega), List.getElem?_eq_none (by omega)]
      subst this
      simp -implicitDefEqProofs only [b_nil, b_b, b_g, b_c, b_cg, step_s, grd_t, grd_f, grdc_t, grdc_f, c_skip, c_ops, norm_ap, Int.reduceLT, c_seq, c_cond, c_block, c_exit, c_ret, c_loop, c_range, cont_ap, cond_t, cond_f, then_n, then_r, then_e, blk_n, blk_r, blk_e, Bool.false_eq_true, want_t, want_f, isT_b, isF_b, isT_u, isF_u, ldc_tail, retg_val, retg_same, List.length_cons, List.length_nil, Nat.reduceAdd, Nat.reduceLeDiff, Nat.reduceLT, List.drop_succ_cons, List.drop_zero, List.take_succ_cons, List.take_zero, T.cells?, fadT, Nat.zero_add, op, ef, cl, sq, evop, ev_r, ev_c, stB, updo_s, updo_n, upd_ap, regs0_0, regs0_1, regs0_2, regs0_3, regs0_4, reduceIte, Nat.reduceEqDiff, true_and, and_true, Option.map_some, Option.bind_some, binT, unT, lenT, natOf_nat, ldc1, val1, valA, endQ, resT, resL, resV, tupT, dlt, dle, deq, dne, List.map_cons, List.map_nil, decide_true, decide_false, strEq_eq, not_le, Bool.not_true, Bool.not_false, beq_self_eq_true, bne_self_eq_false, List.getElem?_cons_zero, List.getElem?_cons_succ, List.getElem?_nil, List.length_map, ret_val, T.bool.injEq, T.int.injEq, T.str.injEq, T.tup.injEq, h0, h1, h5, encS_len, hlt]
  · have : a ≠ b := by rintro rfl; exact hab rfl
    simp -implicitDefEqProofs only [hab, this, b_nil, b_b, b_g, b_c, b_cg, step_s, grd_t, grd_f, grdc_t, grdc_f, c_skip, c_ops, norm_ap, Int.reduceLT, c_seq, c_cond, c_block, c_exit, c_ret, c_loop, c_range, cont_ap, cond_t, cond_f, then_n, then_r, then_e, blk_n, blk_r, blk_e, Bool.false_eq_true, want_t, want_f, isT_b, isF_b, isT_u, isF_u, ldc_tail, retg_val, retg_same, List.length_cons, List.length_nil, Nat.reduceAdd, Nat.reduceLeDiff, Nat.reduceLT, List.drop_succ_cons, List.drop_zero, List.take_succ_cons, List.take_zero, T.cells?, fadT, Nat.zero_add, op, ef, cl, sq, evop, ev_r, ev_c, stB, updo_s, updo_n, upd_ap, regs0_0, regs0_1, regs0_2, regs0_3, regs0_4, reduceIte, Nat.reduceEqDiff, true_and, and_true, Option.map_some, Option.bind_some, binT, unT, lenT, natOf_nat, ldc1, val1, valA, endQ, resT, resL, resV, tupT, dlt, dle, deq, dne, List.map_cons, List.map_nil, decide_true, decide_false, strEq_eq, not_le, Bool.not_true, Bool.not_false, beq_self_eq_true, bne_self_eq_false, List.getElem?_cons_zero, List.getElem?_cons_succ, List.getElem?_nil, List.length_map, ret_val, T.bool.injEq, T.int.injEq, T.str.injEq, T.tup.injEq]
theorem eq31 (k k' : SK) (a b : List ByteArray) (H : Heap) (hl : a.length < 9223372036854775807) : W env (.call 31 [.sl k (encS a), .sl k' (encS b)]) H (Ret (.bool (decide (a = b))) H) := by
  refine W.fnI rfl rfl rfl ?_
  simp -implicitDefEqProofs only [ir31, b_nil, b_b, b_g, b_c, b_cg, step_s, grd_t, grd_f, grdc_t, grdc_f, c_skip, c_ops, norm_ap, Int.reduceLT, c_seq, c_cond, c_block, c_exit, c_ret, c_loop, c_range, cont_ap, cond_t, cond_f, then_n, then_r, then_e, blk_n, blk_r, blk_e, Bool.false_eq_true, want_t, want_f, isT_b, isF_b, isT_u, isF_u, ldc_tail, retg_val, retg_same, List.length_cons, List.length_nil, Nat.reduceAdd, Nat.reduceLeDiff, Nat.reduceLT, List.drop_succ_cons, List.drop_zero, List.take_succ_cons, List.take_zero, T.cells?, fadT, Nat.zero_add, op, ef, cl, sq, evop, ev_r, ev_c, stB, updo_s, updo_n, upd_ap, regs0_0, regs0_1, regs0_2, regs0_3, regs0_4, reduceIte, Nat.reduceEqDiff, true_and, and_true, Option.map_some, Option.bind_some, binT, unT, lenT, natOf_nat, ldc1, val1, valA, endQ, resT, resL, resV, tupT, dlt, dle, deq, dne, List.map_cons, List.map_nil, decide_true, decide_false, strEq_eq, not_le, Bool.not_true, Bool.not_false, beq_self_eq_true, bne_self_eq_false, List.getElem?_cons_zero, List.getElem?_cons_succ, List.getElem?_nil, List.length_map, ret_val, T.bool.injEq, T.int.injEq, T.str.injEq, T.tup.injEq, encS_len]
  by_cases hab : a.length = b.length
  · simp -implicitDefEqProofs only [hab, b_nil, b_b, b_g, b_c, b_cg, step_s, grd_t, grd_f, grdc_t, grdc_f, c_skip, c_ops, norm_ap, Int.reduceLT, c_seq, c_cond, c_block, c_exit, c_ret, c_loop, c_range, cont_ap, cond_t, cond_f, then_n, then_r, then_e, blk_n, blk_r, blk_e, Bool.false_eq_true, want_t, want_f, isT_b, isF_b, isT_u, isF_u, ldc_tail, retg_val, retg_same, List.length_cons, List.length_nil, Nat.reduceAdd, Nat.reduceLeDiff, Nat.reduceLT, List.drop_succ_cons, List.drop_zero, List.take_succ_cons, List.take_zero, T.cells?, fadT, Nat.zero_add, op, ef, cl, sq, evop, ev_r, ev_c, stB, updo_s, updo_n, upd_ap, regs0_0, regs0_1, regs0_2, regs0_3, regs0_4, reduceIte, Nat.reduceEqDiff, true_and, and_true, Option.map_some, Option.bind_some, binT, unT, lenT, natOf_nat, ldc1, val1, valA, endQ, resT, resL, resV, tupT, dlt, dle, deq, dne, List.map_cons, List.map_nil, decide_true, decide_false, strEq_eq, not_le, Bool.not_true, Bool.not_false, beq_self_eq_true, bne_self_eq_false, List.getElem?_cons_zero, List.getElem?_cons_succ, List.getElem?_nil, List.length_map, ret_val, T.bool.injEq, T.int.injEq, T.str.injEq, T.tup.injEq]
    refine W.loopI (fun (i : Nat) R H' => H' = H ∧ R 0 = .sl k (encS a) ∧ R 1 = .sl k' (encS b) ∧ R 5 = .int .i64 i ∧ i ≤ a.length ∧ ∀ j, j < i → a[j]? = b[j]?) (fun i => a.length - i) 0 ⟨rfl, rfl, rfl, rfl, Nat.zero_le _, fun j h => by omega⟩ ?_
    rintro i R _ ⟨rfl, h0, h1, h5, hi, he⟩
    by_cases hlt : i < a.length
    · obtain ⟨x, hx⟩ := getS hlt
      obtain ⟨y, hy⟩ := getS (l := b) (i := i) (by omega)
      have ws := wrap_succ (show i < 9223372036854775807 by omega)
      by_cases hxy : x = y
      · subst hxy
        simp -implicitDefEqProofs only [b_nil, b_b, b_g, b_c, b_cg, step_s, grd_t, grd_f, grdc_t, grdc_f, c_skip, c_ops, norm_ap, Int.reduceLT, c_seq, c_cond, c_block, c_exit, c_ret, c_loop, c_range, cont_ap, cond_t, cond_f, then_n, then_r, then_e, blk_n, blk_r, blk_e, Bool.false_eq_true, want_t, want_f, isT_b, isF_b, isT_u, isF_u, ldc_tail, retg_val, retg_same, List.length_cons, List.length_nil, Nat.reduceAdd, Nat.reduceLeDiff, Nat.reduceLT, List.drop_succ_cons, List.drop_zero, List.take_succ_cons, List.take_zero, T.cells?, fadT, Nat.zero_add, op, ef, cl, sq, evop, ev_r, ev_c, stB, updo_s, updo_n, upd_ap, regs0_0, regs0_1, regs0_2, regs0_3, regs0_4, reduceIte, Nat.reduceEqDiff, true_and, and_true, Option.map_some, Option.bind_some, binT, unT, lenT, natOf_nat, ldc1, val1, valA, endQ, resT, resL, resV, tupT, dlt, dle, deq, dne, List.map_cons, List.map_nil, decide_true, decide_false, strEq_eq, not_le, Bool.not_true, Bool.not_false, beq_self_eq_true, bne_self_eq_false, List.getElem?_cons_zero, List.getElem?_cons_succ, List.getElem?_nil, List.length_map, ret_val, T.bool.injEq, T.int.injEq, T.str.injEq, T.tup.injEq, h0, h1, h5, encS_len, hlt, iadS hx, iadS hy, ws]
        refine ⟨i + 1, by omega, rfl, by omega, fun j hj => ?_⟩
        by_cases e : j = i
        · subst e; rw [hx, hy]
        · exact he j (by omega)
      · have : a ≠ b := by rintro rfl; rw [hx] at hy; cases hy; exact hxy rfl
        simp -implicitDefEqProofs only [b_nil, b_b, b_g, b_c, b_cg, step_s, grd_t, grd_f, grdc_t, grdc_f, c_skip, c_ops, norm_ap, Int.reduceLT, c_seq, c_cond, c_block, c_exit, c_ret, c_loop, c_range, cont_ap, cond_t, cond_f, then_n, then_r, then_e, blk_n, blk_r, blk_e, Bool.false_eq_true, want_t, want_f, isT_b, isF_b, isT_u, isF_u, ldc_tail, retg_val, retg_same, List.length_cons, List.length_nil, Nat.reduceAdd, Nat.reduceLeDiff, Nat.reduceLT, List.drop_succ_cons, List.drop_zero, List.take_succ_cons, List.take_zero, T.cells?, fadT, Nat.zero_add, op, ef, cl, sq, evop, ev_r, ev_c, stB, updo_s, updo_n, upd_ap, regs0_0, regs0_1, regs0_2, regs0_3, regs0_4, reduceIte, Nat.reduceEqDiff, true_and, and_true, Option.map_some, Option.bind_some, binT, unT, lenT, natOf_nat, ldc1, val1, valA, endQ, resT, resL, resV, tupT, dlt, dle, deq, dne, List.map_cons, List.map_nil, decide_true, decide_false, strEq_eq, not_le, Bool.not_true, Bool.not_false, beq_self_eq_true, bne_self_eq_false, List.getElem?_cons_zero, List.getElem?_cons_succ, List.getElem?_nil, List.length_map, ret_val, T.bool.injEq, T.int.injEq, T.str.injEq, T.tup.injEq, h0, h1, h5, encS_len, hlt, iadS hx, iadS hy, ws, hxy, this]
    · have : a = b := List.ext_getElem? fun j => by
        by_cases hj : j < a.length
        · exact he j (by omega)
        · rw [List.getElem?_eq_none (by omega), List.getElem?_eq_none (by omega)]
      subst this
      simp -implicitDefEqProofs only [b_nil, b_b, b_g, b_c, b_cg, step_s, grd_t, grd_f, grdc_t, grdc_f, c_skip, c_ops, norm_ap, Int.reduceLT, c_seq, c_cond, c_block, c_exit, c_ret, c_loop, c_range, cont_ap, cond_t, cond_f, then_n, then_r, then_e, blk_n, blk_r, blk_e, Bool.false_eq_true, want_t, want_f, isT_b, isF_b, isT_u, isF_u, ldc_tail, retg_val, retg_same, List.length_cons, List.length_nil, Nat.reduceAdd, Nat.reduceLeDiff, Nat.reduceLT, List.drop_succ_cons, List.drop_zero, List.take_succ_cons, List.take_zero, T.cells?, fadT, Nat.zero_add, op, ef, cl, sq, evop, ev_r, ev_c, stB, updo_s, updo_n, upd_ap, regs0_0, regs0_1, regs0_2, regs0_3, regs0_4, reduceIte, Nat.reduceEqDiff, true_and, and_true, Option.map_some, Option.bind_some, binT, unT, lenT, natOf_nat, ldc1, val1, valA, endQ, resT, resL, resV, tupT, dlt, dle, deq, dne, List.map_cons, List.map_nil, decide_true, decide_false, strEq_eq, not_le, Bool.not_true, Bool.not_false, beq_self_eq_true, bne_self_eq_false, List.getElem?_cons_zero, List.getElem?_cons_succ, List.getElem?_nil, List.length_map, ret_val, T.bool.injEq, T.int.injEq, T.str.injEq, T.tup.injEq, h0, h1, h5, encS_len, hlt]
  · have : a ≠ b := by rintro rfl; exact hab rfl
    simp -implicitDefEqProofs only [hab, this, b_nil, b_b, b_g, b_c, b_cg, step_s, grd_t, grd_f, grdc_t, grdc_f, c_skip, c_ops, norm_ap, Int.reduceLT, c_seq, c_cond, c_block, c_exit, c_ret, c_loop, c_range, cont_ap, cond_t, cond_f, then_n, then_r, then_e, blk_n, blk_r, blk_e, Bool.false_eq_true, want_t, want_f, isT_b, isF_b, isT_u, isF_u, ldc_tail, retg_val, retg_same, List.length_cons, List.length_nil, Nat.reduceAdd, Nat.reduceLeDiff, Nat.reduceLT, List.drop_succ_cons, List.drop_zero, List.take_succ_cons, List.take_zero, T.cells?, fadT, Nat.zero_add, op, ef, cl, sq, evop, ev_r, ev_c, stB, updo_s, updo_n, upd_ap, regs0_0, regs0_1, regs0_2, regs0_3, regs0_4, reduceIte, Nat.reduceEqDiff, true_and, and_true, Option.map_some, Option.bind_some, binT, unT, lenT, natOf_nat, ldc1, val1, valA, endQ, resT, resL, resV, tupT, dlt, dle, deq, dne, List.map_cons, List.map_nil, decide_true, decide_false, strEq_eq, not_le, Bool.not_true, Bool.not_false, beq_self_eq_true, bne_self_eq_false, List.getElem?_cons_zero, List.getElem?_cons_succ, List.getElem?_nil, List.length_map, ret_val, T.bool.injEq, T.int.injEq, T.str.injEq, T.tup.injEq]
theorem eq29 (k k' : SK) (a b : List ByteArray) (H : Heap) (hl : a.length < 9223372036854775807) : W env (.call 29 [.sl k (encS a), .sl k' (encS b)]) H (Ret (.bool (decide (a = b))) H) := by
  refine W.fnI rfl rfl rfl ?_
  simp -implicitDefEqProofs only [ir29, b_nil, b_b, b_g, b_c, b_cg, step_s, grd_t, grd_f, grdc_t, grdc_f, c_skip, c_ops, norm_ap, Int.reduceLT, c_seq, c_cond, c_block, c_exit, c_ret, c_loop, c_range, cont_ap, cond_t, cond_f, then_n, then_r, then_e, blk_n, blk_r, blk_e, Bool.false_eq_true, want_t, want_f, isT_b, isF_b, isT_u, isF_u, ldc_tail, retg_val, retg_same, List.length_cons, List.length_nil, Nat.reduceAdd, Nat.reduceLeDiff, Nat.reduceLT, List.drop_succ_cons, List.drop_zero, List.take_succ_cons, List.take_zero, T.cells?, fadT, Nat.zero_add, op, ef, cl, sq, evop, ev_r, ev_c, stB, updo_s, updo_n, upd_ap, regs0_0, regs0_1, regs0_2, regs0_3, regs0_4, reduceIte, Nat.reduceEqDiff, true_and, and_true, Option.map_some, Option.bind_some, binT, unT, lenT, natOf_nat, ldc1, val1, valA, endQ, resT, resL, resV, tupT, dlt, dle, deq, dne, List.map_cons, List.map_nil, decide_true, decide_false, strEq_eq, not_le, Bool.not_true, Bool.not_false, beq_self_eq_true, bne_self_eq_false, List.getElem?_cons_zero, List.getElem?_cons_succ, List.getElem?_nil, List.length_map, ret_val, T.bool.injEq, T.int.injEq, T.str.injEq, T.tup.injEq, encS_len]
  by_cases hab : a.length = b.length
  · simp -implicitDefEqProofs only [hab, b_nil, b_b, b_g, b_c, b_cg, step_s, grd_t, grd_f, grdc_t, grdc_f, c_skip, c_ops, norm_ap, Int.reduceLT, c_seq, c_cond, c_block, c_exit, c_ret, c_loop, c_range, cont_ap, cond_t, cond_f, then_n, then_r, then_e, blk_n, blk_r, blk_e, Bool.false_eq_true, want_t, want_f, isT_b, isF_b, isT_u, isF_u, ldc_tail, retg_val, retg_same, List.length_cons, List.length_nil, Nat.reduceAdd, Nat.reduceLeDiff, Nat.reduceLT, List.drop_succ_cons, List.drop_zero, List.take_succ_cons, List.take_zero, T.cells?, fadT, Nat.zero_add, op, ef, cl, sq, evop, ev_r, ev_c, stB, updo_s, updo_n, upd_ap, regs0_0, regs0_1, regs0_2, regs0_3, regs0_4, reduceIte, Nat.reduceEqDiff, true_and, and_true, Option.map_some, Option.bind_some, binT, unT, lenT, natOf_nat, ldc1, val1, valA, endQ, resT, resL, resV, tupT, dlt, dle, deq, dne, List.map_cons, List.map_nil, decide_true, decide_false, strEq_eq, not_le, Bool.not_true, Bool.not_false, beq_self_eq_true, bne_self_eq_false, List.getElem?_cons_zero, List.getElem?_cons_succ, List.getElem?_nil, List.length_map, ret_val, T.bool.injEq, T.int.injEq, T.str.injEq, T.tup.injEq, encS_len]
    refine W.loopI (fun (i : Nat) R H' => H' = H ∧ R 0 = .sl k (encS a) ∧ R 1 = .sl k' (encS b) ∧ R 12 = .int .i64 b.length ∧ R 13 = .int .i64 i ∧ i ≤ a.length ∧ ∀ j, j < i → a[j]? = b[j]?) (fun i => a.length - i) 0 ⟨rfl, rfl, rfl, by simp -implicitDefEqProofs only [b_nil, b_b, b_g, b_c, b_cg, step_s, grd_t, grd_f, grdc_t, grdc_f, c_skip, c_ops, norm_ap, Int.reduceLT, c_seq, c_cond, c_block, c_exit, c_ret, c_loop, c_range, cont_ap, cond_t, cond_f, then_n, then_r, then_e, blk_n, blk_r, blk_e, Bool.false_eq_true, want_t, want_f, isT_b, isF_b, isT_u, isF_u, ldc_tail, retg_val, retg_same, List.length_cons, List.length_nil, Nat.reduceAdd, Nat.reduceLeDiff, Nat.reduceLT, List.drop_succ_cons, List.drop_zero, List.take_succ_cons, List.take_zero, T.cells?, fadT, Nat.zero_add, op, ef, cl, sq, evop, ev_r, ev_c, stB, updo_s, updo_n, upd_ap, regs0_0, regs0_1, regs0_2, regs0_3, regs0_4, reduceIte, Nat.reduceEqDiff, true_and, and_true, Option.map_some, Option.bind_some, binT, unT, lenT, natOf_nat, ldc1, val1, valA, endQ, resT, resL, resV, tupT, dlt, dle, deq, dne, List.map_cons, List.map_nil, decide_true, decide_false, strEq_eq, not_le, Bool.not_true, Bool.not_false, beq_self_eq_true, bne_self_eq_false, List.getElem?_cons_zero, List.getElem?_cons_succ, List.getElem?_nil, List.length_map, ret_val, T.bool.injEq, T.int.injEq, T.str.injEq, T.tup.injEq, encS_len, hab], rfl, Nat.zero_le _, fun j h => by omega⟩ ?_
    rintro i R _ ⟨rfl, h0, h1, h12, h5, hi, he⟩
    by_cases hlt : i < b.length
    · obtain ⟨x, hx⟩ := getS (l := a) (i := i) (by omega)
      obtain ⟨y, hy⟩ := getS (l := b) (i := i) (by omega)
      have ws := wrap_succ (show i < 9223372036854775807 by omega)
      by_cases hxy : x = y
      · subst hxy
        simp -implicitDefEqProofs only [b_nil, b_b, b_g, b_c, b_cg, step_s, grd_t, grd_f, grdc_t, grdc_f, c_skip, c_ops, norm_ap, Int.reduceLT, c_seq, c_cond, c_block, c_exit, c_ret, c_loop, c_range, cont_ap, cond_t, cond_f, then_n, then_r, then_e, blk_n, blk_r, blk_e, Bool.false_eq_true, want_t, want_f, isT_b, isF_b, isT_u, isF_u, ldc_tail, retg_val, retg_same, List.length_cons, List.length_nil, Nat.reduceAdd, Nat.reduceLeDiff, Nat.reduceLT, List.drop_succ_cons, List.drop_zero, List.take_succ_cons, List.take_zero, T.cells?, fadT, Nat.zero_add, op, ef, cl, sq, evop, ev_r, ev_c, stB, updo_s, updo_n, upd_ap, regs0_0, regs0_1, regs0_2, regs0_3, regs0_4, reduceIte, Nat.reduceEqDiff, true_and, and_true, Option.map_some, Option.bind_some, binT, unT, lenT, natOf_nat, ldc1, val1, valA, endQ, resT, resL, resV, tupT, dlt, dle, deq, dne, List.map_cons, List.map_nil, decide_true, decide_false, strEq_eq, not_le, Bool.not_true, Bool.not_false, beq_self_eq_true, bne_self_eq_false, List.getElem?_cons_zero, List.getElem?_cons_succ, List.getElem?_nil, List.length_map, ret_val, T.bool.injEq, T.int.injEq, T.str.injEq, T.tup.injEq, h0, h1, h12, h5, encS_len, hlt, iadS hx, iadS hy, ws]
        refine ⟨i + 1, by omega, rfl, by omega, fun j hj => ?_⟩
        by_cases e : j = i
        · subst e; rw [hx, hy]
        · exact he j (by omega)
      · have : a ≠ b := by rintro rfl; rw [hx] at hy; cases hy; exact hxy rfl
        simp -implicitDefEqProofs only [b_nil, b_b, b_g, b_c, b_cg, step_s, grd_t, grd_f, grdc_t, grdc_f, c_skip, c_ops, norm_ap, Int.reduceLT, c_seq, c_cond, c_block, c_exit, c_ret, c_loop, c_range, cont_ap, cond_t, cond_f, then_n, then_r, then_e, blk_n, blk_r, blk_e, Bool.false_eq_true, want_t, want_f, isT_b, isF_b, isT_u, isF_u, ldc_tail, retg_val, retg_same, List.length_cons, List.length_nil, Nat.reduceAdd, Nat.reduceLeDiff, Nat.reduceLT, List.drop_succ_cons, List.drop_zero, List.take_succ_cons, List.take_zero, T.cells?, fadT, Nat.zero_add, op, ef, cl, sq, evop, ev_r, ev_c, stB, updo_s, updo_n, upd_ap, regs0_0, regs0_1, regs0_2, regs0_3, regs0_4, reduceIte, Nat.reduceEqDiff, true_and, and_true, Option.map_some, Option.bind_some, binT, unT, lenT, natOf_nat, ldc1, val1, valA, endQ, resT, resL, resV, tupT, dlt, dle, deq, dne, List.map_cons, List.map_nil, decide_true, decide_false, strEq_eq, not_le, Bool.not_true, Bool.not_false, beq_self_eq_true, bne_self_eq_false, List.getElem?_cons_zero, List.getElem?_cons_succ, List.getElem?_nil, List.length_map, ret_val, T.bool.injEq, T.int.injEq, T.str.injEq, T.tup.injEq, h0, h1, h12, h5, encS_len, hlt, iadS hx, iadS hy, ws, hxy, this]
    · have : a = b := List.ext_getElem? fun j => by
        by_cases hj : j < a.length
        · exact he j (by omega)
        · rw [List.getElem?_eq_none (by omega), List.getElem?_eq_none (by omega)]
      subst this
      simp -implicitDefEqProofs only [b_nil, b_b, b_g, b_c, b_cg, step_s, grd_t, grd_f, grdc_t, grdc_f, c_skip, c_ops, norm_ap, Int.reduceLT, c_seq, c_cond, c_block, c_exit, c_ret, c_loop, c_range, cont_ap, cond_t, cond_f, then_n, then_r, then_e, blk_n, blk_r, blk_e, Bool.false_eq_true, want_t, want_f, isT_b, isF_b, isT_u, isF_u, ldc_tail, retg_val, retg_same, List.length_cons, List.length_nil, Nat.reduceAdd, Nat.reduceLeDiff, Nat.reduceLT, List.drop_succ_cons, List.drop_zero, List.take_succ_cons, List.take_zero, T.cells?, fadT, Nat.zero_add, op, ef, cl, sq, evop, ev_r, ev_c, stB, updo_s, updo_n, upd_ap, regs0_0, regs0_1, regs0_2, regs0_3, regs0_4, reduceIte, Nat.reduceEqDiff, true_and, and_true, Option.map_some, Option.bind_some, binT, unT, lenT, natOf_nat, ldc1, val1, valA, endQ, resT, resL, resV, tupT, dlt, dle, deq, dne, List.map_cons, List.map_nil, decide_true, decide_false, strEq_eq, not_le, Bool.not_true, Bool.not_false, beq_self_eq_true, bne_self_eq_false, List.getElem?_cons_zero, List.getElem?_cons_succ, List.getElem?_nil, List.length_map, ret_val, T.bool.injEq, T.int.injEq, T.str.injEq, T.tup.injEq, h0, h1, h12, h5, encS_len, hlt]
  · have : a ≠ b := by rintro rfl; exact hab rfl
    simp -implicitDefEqProofs only [hab, this, b_nil, b_b, b_g, b_c, b_cg, step_s, grd_t, grd_f, grdc_t, grdc_f, c_skip, c_ops, norm_ap, Int.reduceLT, c_seq, c_cond, c_block, c_exit, c_ret, c_loop, c_range, cont_ap, cond_t, cond_f, then_n, then_r, then_e, blk_n, blk_r, blk_e, Bool.false_eq_true, want_t, want_f, isT_b, isF_b, isT_u, isF_u, ldc_tail, retg_val, retg_same, List.length_cons, List.length_nil, Nat.reduceAdd, Nat.reduceLeDiff, Nat.reduceLT, List.drop_succ_cons, List.drop_zero, List.take_succ_cons, List.take_zero, T.cells?, fadT, Nat.zero_add, op, ef, cl, sq, evop, ev_r, ev_c, stB, updo_s, updo_n, upd_ap, regs0_0, regs0_1, regs0_2, regs0_3, regs0_4, reduceIte, Nat.reduceEqDiff, true_and, and_true, Option.map_some, Option.bind_some, binT, unT, lenT, natOf_nat, ldc1, val1, valA, endQ, resT, resL, resV, tupT, dlt, dle, deq, dne, List.map_cons, List.map_nil, decide_true, decide_false, strEq_eq, not_le, Bool.not_true, Bool.not_false, beq_self_eq_true, bne_self_eq_false, List.getElem?_cons_zero, List.getElem?_cons_succ, List.getElem?_nil, List.length_map, ret_val, T.bool.injEq, T.int.injEq, T.str.injEq, T.tup.injEq]

/-! has -/
def memB (l : List ByteArray) (x : ByteArray) : Bool := l.any fun y => decide (y = x)
theorem memB_iff {l : List ByteArray} {x : ByteArray} : memB l x = true ↔ x ∈ l := by simp [memB]
theorem memB_no {l : List ByteArray} {x : ByteArray} : memB l x = false ↔ x ∉ l := by rw [← memB_iff]; simp
theorem has23 (k : SK) (l : List ByteArray) (x : ByteArray) (H : Heap) (hl : l.length < 9223372036854775807) : W env (.call 23 [.sl k (encS l), .str x]) H (Ret (.bool (memB l x)) H) := by
  refine W.fnI rfl rfl rfl ?_
  simp -implicitDefEqProofs only [ir23, b_nil, b_b, b_g, b_c, b_cg, step_s, grd_t, grd_f, grdc_t, grdc_f, c_skip, c_ops, norm_ap, Int.reduceLT, c_seq, c_cond, c_block, c_exit, c_ret, c_loop, c_range, cont_ap, cond_t, cond_f, then_n, then_r, then_e, blk_n, blk_r, blk_e, Bool.false_eq_true, want_t, want_f, isT_b, isF_b, isT_u, isF_u, ldc_tail, retg_val, retg_same, List.length_cons, List.length_nil, Nat.reduceAdd, Nat.reduceLeDiff, Nat.reduceLT, List.drop_succ_cons, List.drop_zero, List.take_succ_cons, List.take_zero, T.cells?, fadT, Nat.zero_add, op, ef, cl, sq, evop, ev_r, ev_c, stB, updo_s, updo_n, upd_ap, regs0_0, regs0_1, regs0_2, regs0_3, regs0_4, reduceIte, Nat.reduceEqDiff, true_and, and_true, Option.map_some, Option.bind_some, binT, unT, lenT, natOf_nat, ldc1, val1, valA, endQ, resT, resL, resV, tupT, dlt, dle, deq, dne, List.map_cons, List.map_nil, decide_true, decide_false, strEq_eq, not_le, Bool.not_true, Bool.not_false, beq_self_eq_true, bne_self_eq_false, List.getElem?_cons_zero, List.getElem?_cons_succ, List.getElem?_nil, List.length_map, ret_val, T.bool.injEq, T.int.injEq, T.str.injEq, T.tup.injEq]
  refine W.loopI (fun (i : Nat) R H' => H' = H ∧ R 0 = .sl k (encS l) ∧ R 1 = .str x ∧ R 5 = .int .i64 i ∧ i ≤ l.length ∧ ∀ j y, j < i → l[j]? = some y → y ≠ x) (fun i => l.length - i) 0 ⟨rfl, rfl, rfl, rfl, Nat.zero_le _, fun j y h => by omega⟩ ?_
  rintro i R _ ⟨rfl, h0, h1, h5, hi, he⟩
  by_cases hlt : i < l.length
  · obtain ⟨y, hy⟩ := getS hlt
    have ws := wrap_succ (show i < 9223372036854775807 by omega)
    by_cases hxy : y = x
    · have : x ∈ l := hxy ▸ List.mem_of_getElem? hy
      simp -implicitDefEqProofs only [b_nil, b_b, b_g, b_c, b_cg, step_s, grd_t, grd_f, grdc_t, grdc_f, c_skip, c_ops, norm_ap, Int.reduceLT, c_seq, c_cond, c_block, c_exit, c_ret, c_loop, c_range, cont_ap, cond_t, cond_f, then_n, then_r, then_e, blk_n, blk_r, blk_e, Bool.false_eq_true, want_t, want_f, isT_b, isF_b, isT_u, isF_u, ldc_tail, retg_val, retg_same, List.length_cons, List.length_nil, Nat.reduceAdd, Nat.reduceLeDiff, Nat.reduceLT, List.drop_succ_cons, List.drop_zero, List.take_succ_cons, List.take_zero, T.cells?, fadT, Nat.zero_add, op, ef, cl, sq, evop, ev_r, ev_c, stB, updo_s, updo_n, upd_ap, regs0_0, regs0_1, regs0_2, regs0_3, regs0_4, reduceIte, Nat.reduceEqDiff, true_and, and_true, Option.map_some, Option.bind_some, binT, unT, lenT, natOf_nat, ldc1, val1, valA, endQ, resT, resL, resV, tupT, dlt, dle, deq, dne, List.map_cons, List.map_nil, decide_true, decide_false, strEq_eq, not_le, Bool.not_true, Bool.not_false, beq_self_eq_true, bne_self_eq_false, List.getElem?_cons_zero, List.getElem?_cons_succ, List.getElem?_nil, List.length_map, ret_val, T.bool.injEq, T.int.injEq, T.str.injEq, T.tup.injEq, h0, h1, h5, encS_len, hlt, iadS hy, ws, hxy, memB_iff.2 this]
    · simp -implicitDefEqProofs only [b_nil, b_b, b_g, b_c, b_cg, step_s, grd_t, grd_f, grdc_t, grdc_f, c_skip, c_ops, norm_ap, Int.reduceLT, c_seq, c_cond, c_block, c_exit, c_ret, c_loop, c_range, cont_ap, cond_t, cond_f, then_n, then_r, then_e, blk_n, blk_r, blk_e, Bool.false_eq_true, want_t, want_f, isT_b, isF_b, isT_u, isF_u, ldc_tail, retg_val, retg_same, List.length_cons, List.length_nil, Nat.reduceAdd, Nat.reduceLeDiff, Nat.reduceLT, List.drop_succ_cons, List.drop_zero, List.take_succ_cons, List.take_zero, T.cells?, fadT, Nat.zero_add, op, ef, cl, sq, evop, ev_r, ev_c, stB, updo_s, updo_n, upd_ap, regs0_0, regs0_1, regs0_2, regs0_3, regs0_4, reduceIte, Nat.reduceEqDiff, true_and, and_true, Option.map_some, Option.bind_some, binT, unT, lenT, natOf_nat, ldc1, val1, valA, endQ, resT, resL, resV, tupT, dlt, dle, deq, dne, List.map_cons, List.map_nil, decide_true, decide_false, strEq_eq, not_le, Bool.not_true, Bool.not_false, beq_self_eq_true, bne_self_eq_false, List.getElem?_cons_zero, List.getElem?_cons_succ, List.getElem?_nil, List.length_map, ret_val, T.bool.injEq, T.int.injEq, T.str.injEq, T.tup.injEq, h0, h1, h5, encS_len, hlt, iadS hy, ws, hxy]
      refine ⟨i + 1, by omega, rfl, by omega, fun j z hj hz => ?_⟩
      by_cases e : j = i
      · subst e; rw [hy] at hz; cases hz; exact hxy
      · exact he j z (by omega) hz
  · have : x ∉ l := fun hm => by
      obtain ⟨j, hj, e⟩ := List.getElem_of_mem hm
      exact he j x (by omega) (by rw [List.getElem?_eq_getElem hj, e]) rfl
    simp -implicitDefEqProofs only [b_nil, b_b, b_g, b_c, b_cg, step_s, grd_t, grd_f, grdc_t, grdc_f, c_skip, c_ops, norm_ap, Int.reduceLT, c_seq, c_cond, c_block, c_exit, c_ret, c_loop, c_range, cont_ap, cond_t, cond_f, then_n, then_r, then_e, blk_n, blk_r, blk_e, Bool.false_eq_true, want_t, want_f, isT_b, isF_b, isT_u, isF_u, ldc_tail, retg_val, retg_same, List.length_cons, List.length_nil, Nat.reduceAdd, Nat.reduceLeDiff, Nat.reduceLT, List.drop_succ_cons, List.drop_zero, List.take_succ_cons, List.take_zero, T.cells?, fadT, Nat.zero_add, op, ef, cl, sq, evop, ev_r, ev_c, stB, updo_s, updo_n, upd_ap, regs0_0, regs0_1, regs0_2, regs0_3, regs0_4, reduceIte, Nat.reduceEqDiff, true_and, and_true, Option.map_some, Option.bind_some, binT, unT, lenT, natOf_nat, ldc1, val1, valA, endQ, resT, resL, resV, tupT, dlt, dle, deq, dne, List.map_cons, List.map_nil, decide_true, decide_false, strEq_eq, not_le, Bool.not_true, Bool.not_false, beq_self_eq_true, bne_self_eq_false, List.getElem?_cons_zero, List.getElem?_cons_succ, List.getElem?_nil, List.length_map, ret_val, T.bool.injEq, T.int.injEq, T.str.injEq, T.tup.injEq, h0, h1, h5, encS_len, hlt, memB_no.2 this]
theorem has26 (k : SK) (l : List ByteArray) (x : ByteArray) (H : Heap) (hl : l.length < 9223372036854775807) : W env (.call 26 [.sl k (encS l), .str x]) H (Ret (.bool (memB l x)) H) := by
  refine W.fnI rfl rfl rfl ?_
  simp -implicitDefEqProofs only [ir26, b_nil, b_b, b_g, b_c, b_cg, step_s, grd_t, grd_f, grdc_t, grdc_f, c_skip, c_ops, norm_ap, Int.reduceLT, c_seq, c_cond, c_block, c_exit, c_ret, c_loop, c_range, cont_ap, cond_t, cond_f, then_n, then_r, then_e, blk_n, blk_r, blk_e, Bool.false_eq_true, want_t, want_f, isT_b, isF_b, isT_u, isF_u, ldc_tail, retg_val, retg_same, List.length_cons, List.length_nil, Nat.reduceAdd, Nat.reduceLeDiff, Nat.reduceLT, List.drop_succ_cons, List.drop_zero, List.take_succ_cons, List.take_zero, T.cells?, fadT, Nat.zero_add, op, ef, cl, sq, evop, ev_r, ev_c, stB, updo_s, updo_n, upd_ap, regs0_0, regs0_1, regs0_2, regs0_3, regs0_4, reduceIte, Nat.reduceEqDiff, true_and, and_true, Option.map_some, Option.bind_some, binT, unT, lenT, natOf_nat, ldc1, val1, valA, endQ, resT, resL, resV, tupT, dlt, dle, deq, dne, List.map_cons, List.map_nil, decide_true, decide_false, strEq_eq, not_le, Bool.not_true, Bool.not_false, beq_self_eq_true, bne_self_eq_false, List.getElem?_cons_zero, List.getElem?_cons_succ, List.getElem?_nil, List.length_map, ret_val, T.bool.injEq, T.int.injEq, T.str.injEq, T.tup.injEq]
  refine W.loopI (fun (i : Nat) R H' => H' = H ∧ R 0 = .sl k (encS l) ∧ R 1 = .str x ∧ R 5 = .int .i64 i ∧ i ≤ l.length ∧ ∀ j y, j < i → l[j]? = some y → y ≠ x) (fun i => l.length - i) 0 ⟨rfl, rfl, rfl, rfl, Nat.zero_le _, fun j y h => by omega⟩ ?_
  rintro i R _ ⟨rfl, h0, h1, h5, hi, he⟩
  by_cases hlt : i < l.length
  · obtain ⟨y, hy⟩ := getS hlt
    have ws := wrap_succ (show i < 9223372036854775807 by omega)
    by_cases hxy : y = x
    · have : x ∈ l := hxy ▸ List.mem_of_getElem? hy
      simp -implicitDefEqProofs only [b_nil, b_b, b_g, b_c, b_cg, step_s, grd_t, grd_f, grdc_t, grdc_f, c_skip, c_ops, norm_ap, Int.reduceLT, c_seq, c_cond, c_block, c_exit, c_ret, c_loop, c_range, cont_ap, cond_t, cond_f, then_n, then_r, then_e, blk_n, blk_r, blk_e, Bool.false_eq_true, want_t, want_f, isT_b, isF_b, isT_u, isF_u, ldc_tail, retg_val, retg_same, List.length_cons, List.length_nil, Nat.reduceAdd, Nat.reduceLeDiff, Nat.reduceLT, List.drop_succ_cons, List.drop_zero, List.take_succ_cons, List.take_zero, T.cells?, fadT, Nat.zero_add, op, ef, cl, sq, evop, ev_r, ev_c, stB, updo_s, updo_n, upd_ap, regs0_0, regs0_1, regs0_2, regs0_3, regs0_4, reduceIte, Nat.reduceEqDiff, true_and, and_true, Option.map_some, Option.bind_some, binT, unT, lenT, natOf_nat, ldc1, val1, valA, endQ, resT, resL, resV, tupT, dlt, dle, deq, dne, List.map_cons, List.map_nil, decide_true, decide_false, strEq_eq, not_le, Bool.not_true, Bool.not_false, beq_self_eq_true, bne_self_eq_false, List.getElem?_cons_zero, List.getElem?_cons_succ, List.getElem?_nil, List.length_map, ret_val, T.bool.injEq, T.int.injEq, T.str.injEq, T.tup.injEq, h0, h1, h5, encS_len, hlt, iadS hy, ws, hxy, memB_iff.2 this]
    · simp -implicitDefEqProofs only [b_nil, b_b, b_g, b_c, b_cg, step_s, grd_t, grd_f, grdc_t, grdc_f, c_skip, c_ops, norm_ap, Int.reduceLT, c_seq, c_cond, c_block, c_exit, c_ret, c_loop, c_range, cont_ap, cond_t, cond_f, then_n, then_r, then_e, blk_n, blk_r, blk_e, Bool.false_eq_true, want_t, want_f, isT_b, isF_b, isT_u, isF_u, ldc_tail, retg_val, retg_same, List.length_cons, List.length_nil, Nat.reduceAdd, Nat.reduceLeDiff, Nat.reduceLT, List.drop_succ_cons, List.drop_zero, List.take_succ_cons, List.take_zero, T.cells?, fadT, Nat.zero_add, op, ef, cl, sq, evop, ev_r, ev_c, stB, updo_s, updo_n, upd_ap, regs0_0, regs0_1, regs0_2, regs0_3, regs0_4, reduceIte, Nat.reduceEqDiff, true_and, and_true, Option.map_some, Option.bind_some, binT, unT, lenT, natOf_nat, ldc1, val1, valA, endQ, resT, resL, resV, tupT, dlt, dle, deq, dne, List.map_cons, List.map_nil, decide_true, decide_false, strEq_eq, not_le, Bool.not_true, Bool.not_false, beq_self_eq_true, bne_self_eq_false, List.getElem?_cons_zero, List.getElem?_cons_succ, List.getElem?_nil, List.length_map, ret_val, T.bool.injEq, T.int.injEq, T.str.injEq, T.tup.injEq, h0, h1, h5, encS_len, hlt, iadS hy, ws, hxy]
      refine ⟨i + 1, by omega, rfl, by omega, fun j z hj hz => ?_⟩
      by_cases e : j = i
      · subst e; rw [hy] at hz; cases hz; exact hxy
      · exact he j z (by omega) hz
  · have : x ∉ l := fun hm => by
      obtain ⟨j, hj, e⟩ := List.getElem_of_mem hm
      exact he j x (by omega) (by rw [List.getElem?_eq_getElem hj, e]) rfl
    simp -implicitDefEqProofs only [b_nil, b_b, b_g, b_c, b_cg, step_s, grd_t, grd_f, grdc_t, grdc_f, c_skip, c_ops, norm_ap, Int.reduceLT, c_seq, c_cond, c_block, c_exit, c_ret, c_loop, c_range, cont_ap, cond_t, cond_f, then_n, then_r, then_e, blk_n, blk_r, blk_e, Bool.false_eq_true, want_t, want_f, isT_b, isF_b, isT_u, isF_u, ldc_tail, retg_val, retg_same, List.length_cons, List.length_nil, Nat.reduceAdd, Nat.reduceLeDiff, Nat.reduceLT, List.drop_succ_cons, List.drop_zero, List.take_succ_cons, List.take_zero, T.cells?, fadT, Nat.zero_add, op, ef, cl, sq, evop, ev_r, ev_c, stB, updo_s, updo_n, upd_ap, regs0_0, regs0_1, regs0_2, regs0_3, regs0_4, reduceIte, Nat.reduceEqDiff, true_and, and_true, Option.map_some, Option.bind_some, binT, unT, lenT, natOf_nat, ldc1, val1, valA, endQ, resT, resL, resV, tupT, dlt, dle, deq, dne, List.map_cons, List.map_nil, decide_true, decide_false, strEq_eq, not_le, Bool.not_true, Bool.not_false, beq_self_eq_true, bne_self_eq_false, List.getElem?_cons_zero, List.getElem?_cons_succ, List.getElem?_nil, List.length_map, ret_val, T.bool.injEq, T.int.injEq, T.str.injEq, T.tup.injEq, h0, h1, h5, encS_len, hlt, memB_no.2 this]

/-! rising -/
def rises : List ByteArray → Bool
  | a :: b :: l => strLt a b && rises (b :: l)
  | _ => true
theorem rises_iff : ∀ (l : List ByteArray), rises l = true ↔ ∀ (i : Nat) (a b : ByteArray), l[i]? = some a → l[i+1]? = some b → strLt a b = true
  | [] => by simp [rises]
  | [a] => by simp [rises]
  | a :: b :: l => by
    simp -implicitDefEqProofs only [rises, Bool.and_eq_true, rises_iff (b :: l)]
    constructor
    · rintro ⟨h1, h2⟩ i x y hx hy
      cases i with
      | zero => simp at hx hy; subst hx; subst hy; exact h1
      | succ i => exact h2 i x y (by simpa using hx) (by simpa using hy)
    · intro h
      exact ⟨h 0 a b rfl rfl, fun i x y hx hy => h (i + 1) x y (by simpa using hx) (by simpa using hy)⟩
theorem le_not (a b : ByteArray) : (strLt b a || decide (b = a)) = !strLt a b := by rw [← not_le a b, strEq_eq]; simp
theorem rising39 (k : SK) (l : List ByteArray) (H : Heap) (hl : l.length < 9223372036854775807) : W env (.call 39 [.sl k (encS l)]) H (Ret (.bool (rises l && decide (l.length ≤ 1024))) H) := by
  refine W.fnI rfl rfl rfl ?_
  simp -implicitDefEqProofs only [ir39, b_nil, b_b, b_g, b_c, b_cg, step_s, grd_t, grd_f, grdc_t, grdc_f, c_skip, c_ops, norm_ap, Int.reduceLT, c_seq, c_cond, c_block, c_exit, c_ret, c_loop, c_range, cont_ap, cond_t, cond_f, then_n, then_r, then_e, blk_n, blk_r, blk_e, Bool.false_eq_true, want_t, want_f, isT_b, isF_b, isT_u, isF_u, ldc_tail, retg_val, retg_same, List.length_cons, List.length_nil, Nat.reduceAdd, Nat.reduceLeDiff, Nat.reduceLT, List.drop_succ_cons, List.drop_zero, List.take_succ_cons, List.take_zero, T.cells?, fadT, Nat.zero_add, op, ef, cl, sq, evop, ev_r, ev_c, stB, updo_s, updo_n, upd_ap, regs0_0, regs0_1, regs0_2, regs0_3, regs0_4, reduceIte, Nat.reduceEqDiff, true_and, and_true, Option.map_some, Option.bind_some, binT, unT, lenT, natOf_nat, ldc1, val1, valA, endQ, resT, resL, resV, tupT, dlt, dle, deq, dne, List.map_cons, List.map_nil, decide_true, decide_false, strEq_eq, not_le, Bool.not_true, Bool.not_false, beq_self_eq_true, bne_self_eq_false, List.getElem?_cons_zero, List.getElem?_cons_succ, List.getElem?_nil, List.length_map, ret_val, T.bool.injEq, T.int.injEq, T.str.injEq, T.tup.injEq]
  refine W.loopI (fun (i : Nat) R H' => H' = H ∧ R 0 = .sl k (encS l) ∧ R 3 = .int .i64 i ∧ 1 ≤ i ∧ (i = 1 ∨ i ≤ l.length) ∧ ∀ j a b, j + 1 < i → l[j]? = some a → l[j+1]? = some b → strLt a b = true) (fun i => l.length - i) 1 ⟨rfl, rfl, rfl, Nat.le_refl _, .inl rfl, fun j a b hj => by omega⟩ ?_
  rintro i R _ ⟨rfl, h0, h3, h1, h4, h5⟩
  by_cases hi : i < l.length
  · obtain ⟨b, hb⟩ := getS hi
    obtain ⟨a, ha⟩ := getS (l := l) (i := i - 1) (by omega)
    have ws := wrap_succ (show i < 9223372036854775807 by omega)
    have wp := wrap_pred (show i < 9223372036854775807 by omega) h1
    cases hc : strLt a b
    · have : rises l = false := by
        cases hr : rises l with
        | false => rfl
        | true =>
          have := (rises_iff l).1 hr (i - 1) a b ha (by rw [show i - 1 + 1 = i by omega]; exact hb)
          rw [hc] at this; cases this
      simp -implicitDefEqProofs only [b_nil, b_b, b_g, b_c, b_cg, step_s, grd_t, grd_f, grdc_t, grdc_f, c_skip, c_ops, norm_ap, Int.reduceLT, c_seq, c_cond, c_block, c_exit, c_ret, c_loop, c_range, cont_ap, cond_t, cond_f, then_n, then_r, then_e, blk_n, blk_r, blk_e, Bool.false_eq_true, want_t, want_f, isT_b, isF_b, isT_u, isF_u, ldc_tail, retg_val, retg_same, List.length_cons, List.length_nil, Nat.reduceAdd, Nat.reduceLeDiff, Nat.reduceLT, List.drop_succ_cons, List.drop_zero, List.take_succ_cons, List.take_zero, T.cells?, fadT, Nat.zero_add, op, ef, cl, sq, evop, ev_r, ev_c, stB, updo_s, updo_n, upd_ap, regs0_0, regs0_1, regs0_2, regs0_3, regs0_4, reduceIte, Nat.reduceEqDiff, true_and, and_true, Option.map_some, Option.bind_some, binT, unT, lenT, natOf_nat, ldc1, val1, valA, endQ, resT, resL, resV, tupT, dlt, dle, deq, dne, List.map_cons, List.map_nil, decide_true, decide_false, strEq_eq, not_le, Bool.not_true, Bool.not_false, beq_self_eq_true, bne_self_eq_false, List.getElem?_cons_zero, List.getElem?_cons_succ, List.getElem?_nil, List.length_map, ret_val, T.bool.injEq, T.int.injEq, T.str.injEq, T.tup.injEq, h0, h3, encS_len, hi, iadS ha, iadS hb, ws, wp, le_not, hc, this, Bool.false_and]
    · simp -implicitDefEqProofs only [b_nil, b_b, b_g, b_c, b_cg, step_s, grd_t, grd_f, grdc_t, grdc_f, c_skip, c_ops, norm_ap, Int.reduceLT, c_seq, c_cond, c_block, c_exit, c_ret, c_loop, c_range, cont_ap, cond_t, cond_f, then_n, then_r, then_e, blk_n, blk_r, blk_e, Bool.false_eq_true, want_t, want_f, isT_b, isF_b, isT_u, isF_u, ldc_tail, retg_val, retg_same, List.length_cons, List.length_nil, Nat.reduceAdd, Nat.reduceLeDiff, Nat.reduceLT, List.drop_succ_cons, List.drop_zero, List.take_succ_cons, List.take_zero, T.cells?, fadT, Nat.zero_add, op, ef, cl, sq, evop, ev_r, ev_c, stB, updo_s, updo_n, upd_ap, regs0_0, regs0_1, regs0_2, regs0_3, regs0_4, reduceIte, Nat.reduceEqDiff, true_and, and_true, Option.map_some, Option.bind_some, binT, unT, lenT, natOf_nat, ldc1, val1, valA, endQ, resT, resL, resV, tupT, dlt, dle, deq, dne, List.map_cons, List.map_nil, decide_true, decide_false, strEq_eq, not_le, Bool.not_true, Bool.not_false, beq_self_eq_true, bne_self_eq_false, List.getElem?_cons_zero, List.getElem?_cons_succ, List.getElem?_nil, List.length_map, ret_val, T.bool.injEq, T.int.injEq, T.str.injEq, T.tup.injEq, h0, h3, encS_len, hi, iadS ha, iadS hb, ws, wp, le_not, hc]
      refine ⟨i + 1, by omega, rfl, by omega, .inr (by omega), fun j a' b' hj ha' hb' => ?_⟩
      by_cases hj' : j + 1 < i
      · exact h5 j a' b' hj' ha' hb'
      · obtain rfl : j = i - 1 := by omega
        rw [show i - 1 + 1 = i by omega, hb] at hb'
        rw [ha] at ha'; cases ha'; cases hb'; exact hc
  · have hr : rises l = true := (rises_iff l).2 fun j a b ha hb => h5 j a b (by
      have := (List.getElem?_eq_some_iff.1 hb).1; omega) ha hb
    simp -implicitDefEqProofs only [b_nil, b_b, b_g, b_c, b_cg, step_s, grd_t, grd_f, grdc_t, grdc_f, c_skip, c_ops, norm_ap, Int.reduceLT, c_seq, c_cond, c_block, c_exit, c_ret, c_loop, c_range, cont_ap, cond_t, cond_f, then_n, then_r, then_e, blk_n, blk_r, blk_e, Bool.false_eq_true, want_t, want_f, isT_b, isF_b, isT_u, isF_u, ldc_tail, retg_val, retg_same, List.length_cons, List.length_nil, Nat.reduceAdd, Nat.reduceLeDiff, Nat.reduceLT, List.drop_succ_cons, List.drop_zero, List.take_succ_cons, List.take_zero, T.cells?, fadT, Nat.zero_add, op, ef, cl, sq, evop, ev_r, ev_c, stB, updo_s, updo_n, upd_ap, regs0_0, regs0_1, regs0_2, regs0_3, regs0_4, reduceIte, Nat.reduceEqDiff, true_and, and_true, Option.map_some, Option.bind_some, binT, unT, lenT, natOf_nat, ldc1, val1, valA, endQ, resT, resL, resV, tupT, dlt, dle, deq, dne, List.map_cons, List.map_nil, decide_true, decide_false, strEq_eq, not_le, Bool.not_true, Bool.not_false, beq_self_eq_true, bne_self_eq_false, List.getElem?_cons_zero, List.getElem?_cons_succ, List.getElem?_nil, List.length_map, ret_val, T.bool.injEq, T.int.injEq, T.str.injEq, T.tup.injEq, h0, h3, encS_len, hi, hr, Bool.true_and]
    try (simp; omega)
theorem rising42 (k : SK) (l : List ByteArray) (H : Heap) (hl : l.length < 9223372036854775807) : W env (.call 42 [.sl k (encS l)]) H (Ret (.bool (rises l && true)) H) := by
  refine W.fnI rfl rfl rfl ?_
  simp -implicitDefEqProofs only [ir42, b_nil, b_b, b_g, b_c, b_cg, step_s, grd_t, grd_f, grdc_t, grdc_f, c_skip, c_ops, norm_ap, Int.reduceLT, c_seq, c_cond, c_block, c_exit, c_ret, c_loop, c_range, cont_ap, cond_t, cond_f, then_n, then_r, then_e, blk_n, blk_r, blk_e, Bool.false_eq_true, want_t, want_f, isT_b, isF_b, isT_u, isF_u, ldc_tail, retg_val, retg_same, List.length_cons, List.length_nil, Nat.reduceAdd, Nat.reduceLeDiff, Nat.reduceLT, List.drop_succ_cons, List.drop_zero, List.take_succ_cons, List.take_zero, T.cells?, fadT, Nat.zero_add, op, ef, cl, sq, evop, ev_r, ev_c, stB, updo_s, updo_n, upd_ap, regs0_0, regs0_1, regs0_2, regs0_3, regs0_4, reduceIte, Nat.reduceEqDiff, true_and, and_true, Option.map_some, Option.bind_some, binT, unT, lenT, natOf_nat, ldc1, val1, valA, endQ, resT, resL, resV, tupT, dlt, dle, deq, dne, List.map_cons, List.map_nil, decide_true, decide_false, strEq_eq, not_le, Bool.not_true, Bool.not_false, beq_self_eq_true, bne_self_eq_false, List.getElem?_cons_zero, List.getElem?_cons_succ, List.getElem?_nil, List.length_map, ret_val, T.bool.injEq, T.int.injEq, T.str.injEq, T.tup.injEq]
  refine W.loopI (fun (i : Nat) R H' => H' = H ∧ R 0 = .sl k (encS l) ∧ R 3 = .int .i64 i ∧ 1 ≤ i ∧ (i = 1 ∨ i ≤ l.length) ∧ ∀ j a b, j + 1 < i → l[j]? = some a → l[j+1]? = some b → strLt a b = true) (fun i => l.length - i) 1 ⟨rfl, rfl, rfl, Nat.le_refl _, .inl rfl, fun j a b hj => by omega⟩ ?_
  rintro i R _ ⟨rfl, h0, h3, h1, h4, h5⟩
  by_cases hi : i < l.length
  · obtain ⟨b, hb⟩ := getS hi
    obtain ⟨a, ha⟩ := getS (l := l) (i := i - 1) (by omega)
    have ws := wrap_succ (show i < 9223372036854775807 by omega)
    have wp := wrap_pred (show i < 9223372036854775807 by omega) h1
    cases hc : strLt a b
    · have : rises l = false := by
        cases hr : rises l with
        | false => rfl
        | true =>
          have := (rises_iff l).1 hr (i - 1) a b ha (by rw [show i - 1 + 1 = i by omega]; exact hb)
          rw [hc] at this; cases this
      simp -implicitDefEqProofs only [b_nil, b_b, b_g, b_c, b_cg, step_s, grd_t, grd_f, grdc_t, grdc_f, c_skip, c_ops, norm_ap, Int.reduceLT, c_seq, c_cond, c_block, c_exit, c_ret, c_loop, c_range, cont_ap, cond_t, cond_f, then_n, then_r, then_e, blk_n, blk_r, blk_e, Bool.false_eq_true, want_t, want_f, isT_b, isF_b, isT_u, isF_u, ldc_tail, retg_val, retg_same, List.length_cons, List.length_nil, Nat.reduceAdd, Nat.reduceLeDiff, Nat.reduceLT, List.drop_succ_cons, List.drop_zero, List.take_succ_cons, List.take_zero, T.cells?, fadT, Nat.zero_add, op, ef, cl, sq, evop, ev_r, ev_c, stB, updo_s, updo_n, upd_ap, regs0_0, regs0_1, regs0_2, regs0_3, regs0_4, reduceIte, Nat.reduceEqDiff, true_and, and_true, Option.map_some, Option.bind_some, binT, unT, lenT, natOf_nat, ldc1, val1, valA, endQ, resT, resL, resV, tupT, dlt, dle, deq, dne, List.map_cons, List.map_nil, decide_true, decide_false, strEq_eq, not_le, Bool.not_true, Bool.not_false, beq_self_eq_true, bne_self_eq_false, List.getElem?_cons_zero, List.getElem?_cons_succ, List.getElem?_nil, List.length_map, ret_val, T.bool.injEq, T.int.injEq, T.str.injEq, T.tup.injEq, h0, h3, encS_len, hi, iadS ha, iadS hb, ws, wp, le_not, hc, this, Bool.false_and]
    · simp -implicitDefEqProofs only [b_nil, b_b, b_g, b_c, b_cg, step_s, grd_t, grd_f, grdc_t, grdc_f, c_skip, c_ops, norm_ap, Int.reduceLT, c_seq, c_cond, c_block, c_exit, c_ret, c_loop, c_range, cont_ap, cond_t, cond_f, then_n, then_r, then_e, blk_n, blk_r, blk_e, Bool.false_eq_true, want_t, want_f, isT_b, isF_b, isT_u, isF_u, ldc_tail, retg_val, retg_same, List.length_cons, List.length_nil, Nat.reduceAdd, Nat.reduceLeDiff, Nat.reduceLT, List.drop_succ_cons, List.drop_zero, List.take_succ_cons, List.take_zero, T.cells?, fadT, Nat.zero_add, op, ef, cl, sq, evop, ev_r, ev_c, stB, updo_s, updo_n, upd_ap, regs0_0, regs0_1, regs0_2, regs0_3, regs0_4, reduceIte, Nat.reduceEqDiff, true_and, and_true, Option.map_some, Option.bind_some, binT, unT, lenT, natOf_nat, ldc1, val1, valA, endQ, resT, resL, resV, tupT, dlt, dle, deq, dne, List.map_cons, List.map_nil, decide_true, decide_false, strEq_eq, not_le, Bool.not_true, Bool.not_false, beq_self_eq_true, bne_self_eq_false, List.getElem?_cons_zero, List.getElem?_cons_succ, List.getElem?_nil, List.length_map, ret_val, T.bool.injEq, T.int.injEq, T.str.injEq, T.tup.injEq, h0, h3, encS_len, hi, iadS ha, iadS hb, ws, wp, le_not, hc]
      refine ⟨i + 1, by omega, rfl, by omega, .inr (by omega), fun j a' b' hj ha' hb' => ?_⟩
      by_cases hj' : j + 1 < i
      · exact h5 j a' b' hj' ha' hb'
      · obtain rfl : j = i - 1 := by omega
        rw [show i - 1 + 1 = i by omega, hb] at hb'
        rw [ha] at ha'; cases ha'; cases hb'; exact hc
  · have hr : rises l = true := (rises_iff l).2 fun j a b ha hb => h5 j a b (by
      have := (List.getElem?_eq_some_iff.1 hb).1; omega) ha hb
    simp -implicitDefEqProofs only [b_nil, b_b, b_g, b_c, b_cg, step_s, grd_t, grd_f, grdc_t, grdc_f, c_skip, c_ops, norm_ap, Int.reduceLT, c_seq, c_cond, c_block, c_exit, c_ret, c_loop, c_range, cont_ap, cond_t, cond_f, then_n, then_r, then_e, blk_n, blk_r, blk_e, Bool.false_eq_true, want_t, want_f, isT_b, isF_b, isT_u, isF_u, ldc_tail, retg_val, retg_same, List.length_cons, List.length_nil, Nat.reduceAdd, Nat.reduceLeDiff, Nat.reduceLT, List.drop_succ_cons, List.drop_zero, List.take_succ_cons, List.take_zero, T.cells?, fadT, Nat.zero_add, op, ef, cl, sq, evop, ev_r, ev_c, stB, updo_s, updo_n, upd_ap, regs0_0, regs0_1, regs0_2, regs0_3, regs0_4, reduceIte, Nat.reduceEqDiff, true_and, and_true, Option.map_some, Option.bind_some, binT, unT, lenT, natOf_nat, ldc1, val1, valA, endQ, resT, resL, resV, tupT, dlt, dle, deq, dne, List.map_cons, List.map_nil, decide_true, decide_false, strEq_eq, not_le, Bool.not_true, Bool.not_false, beq_self_eq_true, bne_self_eq_false, List.getElem?_cons_zero, List.getElem?_cons_succ, List.getElem?_nil, List.length_map, ret_val, T.bool.injEq, T.int.injEq, T.str.injEq, T.tup.injEq, h0, h3, encS_len, hi, hr, Bool.true_and]
    try (simp; omega)
end Go.Proofs.Ytobnjpgggocdlaa.Fx
end

/-! text FixB -/
section
namespace Go.Proofs.Ytobnjpgggocdlaa.Fx
open Go.Rmp Go.Proofs.Ytobnjpgggocdlaa.Ir
set_option maxRecDepth 10000

theorem rises_lt {l : List ByteArray} (h : rises l = true) : ∀ (q p : Nat) (a b : ByteArray), p < q → l[p]? = some a → l[q]? = some b → strLt a b = true
  | 0, p, _, _, hpq, _, _ => by omega
  | q + 1, p, a, b, hpq, ha, hb => by
    obtain ⟨c, hc⟩ := getS (l := l) (i := q) (by have := (List.getElem?_eq_some_iff.1 hb).1; omega)
    have h1 := (rises_iff l).1 h q c b hc hb
    by_cases e : p = q
    · subst e; rw [ha] at hc; cases hc; exact h1
    · exact lt_trans' (rises_lt h q p a c (by omega) ha hc) h1

theorem half (i j : Nat) (h : i + j < 9223372036854775807) : IntKind.i64.wrap ((IntKind.u64.wrap (IntKind.i64.wrap ((i : Int) + (j : Int)))).fdiv (2 ^ (min (1 : Int).toNat IntKind.u64.bits))) = (((i + j) / 2 : Nat) : Int) := by
  rw [wrap64 (n := (i : Int) + j) (by omega), wrapu64 (n := (i : Int) + j) (by omega)]
  have e : (2 : Int) ^ (min (1 : Int).toNat IntKind.u64.bits) = 2 := by decide
  rw [e, Int.fdiv_eq_ediv_of_nonneg _ (by omega), wrap64 (by omega)]
  omega

theorem bs44 (k : SK) (l : List ByteArray) (x : ByteArray) (H : Heap) (hl : l.length < 4611686018427387903) (hr : rises l = true) :
    W env (.call 44 [.sl k (encS l), .str x]) H (fun o H' => ∃ i : Nat, o = .val (.tup [.int .i64 i, .bool (memB l x)]) ∧ H' = H) := by
  refine W.fnI rfl rfl rfl ?_
  simp -implicitDefEqProofs only [ir44, b_nil, b_b, b_g, b_c, b_cg, step_s, grd_t, grd_f, grdc_t, grdc_f, c_skip, c_ops, norm_ap, Int.reduceLT, c_seq, c_cond, c_block, c_exit, c_ret, c_loop, c_range, cont_ap, cond_t, cond_f, then_n, then_r, then_e, blk_n, blk_r, blk_e, Bool.false_eq_true, want_t, want_f, isT_b, isF_b, isT_u, isF_u, ldc_tail, retg_val, retg_same, List.length_cons, List.length_nil, Nat.reduceAdd, Nat.reduceLeDiff, Nat.reduceLT, List.drop_succ_cons, List.drop_zero, List.take_succ_cons, List.take_zero, T.cells?, fadT, Nat.zero_add, op, ef, cl, sq, evop, ev_r, ev_c, stB, updo_s, updo_n, upd_ap, regs0_0, regs0_1, regs0_2, regs0_3, regs0_4, reduceIte, Nat.reduceEqDiff, true_and, and_true, Option.map_some, Option.bind_some, binT, unT, lenT, natOf_nat, ldc1, val1, valA, endQ, resT, resL, resV, tupT, dlt, dle, deq, dne, List.map_cons, List.map_nil, decide_true, decide_false, strEq_eq, not_le, Bool.not_true, Bool.not_false, beq_self_eq_true, bne_self_eq_false, List.getElem?_cons_zero, List.getElem?_cons_succ, List.getElem?_nil, List.length_map, ret_val, T.bool.injEq, T.int.injEq, T.str.injEq, T.tup.injEq, encS_len]
  refine W.loopI (fun (s : Nat × Nat) R H' => H' = H ∧ R 0 = .sl k (encS l) ∧ R 1 = .str x ∧ R 6 = .int .i64 l.length ∧ R 7 = .int .i64 s.1 ∧ R 8 = .int .i64 s.2 ∧ s.1 ≤ s.2 ∧ s.2 ≤ l.length ∧ (∀ p a, p < s.1 → l[p]? = some a → strLt a x = true) ∧ ∀ p a, s.2 ≤ p → l[p]? = some a → strLt a x = false)
    (fun s => s.2 - s.1) (0, l.length) ⟨rfl, rfl, rfl, rfl, rfl, rfl, Nat.zero_le _, Nat.le_refl _, fun p a h => by omega, fun p a h ha => by rw [List.getElem?_eq_none h] at ha; cases ha⟩ ?_
  rintro ⟨i, j⟩ R _ ⟨rfl, h0, h1, h6, h7, h8, hij, hjn, hlo, hhi⟩
  simp -implicitDefEqProofs only [b_nil, b_b, b_g, b_c, b_cg, step_s, grd_t, grd_f, grdc_t, grdc_f, c_skip, c_ops, norm_ap, Int.reduceLT, c_seq, c_cond, c_block, c_exit, c_ret, c_loop, c_range, cont_ap, cond_t, cond_f, then_n, then_r, then_e, blk_n, blk_r, blk_e, Bool.false_eq_true, want_t, want_f, isT_b, isF_b, isT_u, isF_u, ldc_tail, retg_val, retg_same, List.length_cons, List.length_nil, Nat.reduceAdd, Nat.reduceLeDiff, Nat.reduceLT, List.drop_succ_cons, List.drop_zero, List.take_succ_cons, List.take_zero, T.cells?, fadT, Nat.zero_add, op, ef, cl, sq, evop, ev_r, ev_c, stB, updo_s, updo_n, upd_ap, regs0_0, regs0_1, regs0_2, regs0_3, regs0_4, reduceIte, Nat.reduceEqDiff, true_and, and_true, Option.map_some, Option.bind_some, binT, unT, lenT, natOf_nat, ldc1, val1, valA, endQ, resT, resL, resV, tupT, dlt, dle, deq, dne, List.map_cons, List.map_nil, decide_true, decide_false, strEq_eq, not_le, Bool.not_true, Bool.not_false, beq_self_eq_true, bne_self_eq_false, List.getElem?_cons_zero, List.getElem?_cons_succ, List.getElem?_nil, List.length_map, ret_val, T.bool.injEq, T.int.injEq, T.str.injEq, T.tup.injEq, h0, h1, h6, h7, h8, encS_len]
  by_cases hlt : i < j
  · obtain ⟨y, hy⟩ := getS (l := l) (i := (i + j) / 2) (by omega)
    simp -implicitDefEqProofs only [hlt, b_nil, b_b, b_g, b_c, b_cg, step_s, grd_t, grd_f, grdc_t, grdc_f, c_skip, c_ops, norm_ap, Int.reduceLT, c_seq, c_cond, c_block, c_exit, c_ret, c_loop, c_range, cont_ap, cond_t, cond_f, then_n, then_r, then_e, blk_n, blk_r, blk_e, Bool.false_eq_true, want_t, want_f, isT_b, isF_b, isT_u, isF_u, ldc_tail, retg_val, retg_same, List.length_cons, List.length_nil, Nat.reduceAdd, Nat.reduceLeDiff, Nat.reduceLT, List.drop_succ_cons, List.drop_zero, List.take_succ_cons, List.take_zero, T.cells?, fadT, Nat.zero_add, op, ef, cl, sq, evop, ev_r, ev_c, stB, updo_s, updo_n, upd_ap, regs0_0, regs0_1, regs0_2, regs0_3, regs0_4, reduceIte, Nat.reduceEqDiff, true_and, and_true, Option.map_some, Option.bind_some, binT, unT, lenT, natOf_nat, ldc1, val1, valA, endQ, resT, resL, resV, tupT, dlt, dle, deq, dne, List.map_cons, List.map_nil, decide_true, decide_false, strEq_eq, not_le, Bool.not_true, Bool.not_false, beq_self_eq_true, bne_self_eq_false, List.getElem?_cons_zero, List.getElem?_cons_succ, List.getElem?_nil, List.length_map, ret_val, T.bool.injEq, T.int.injEq, T.str.injEq, T.tup.injEq, h0, h1, h6, h7, h8, half i j (by omega), iadS hy]
    refine callB_of _ _ _ _ _ _ _ _ (less45 y x _) ?_
    rintro v H' ⟨hv, rfl⟩
    cases hv
    simp -implicitDefEqProofs only [b_nil, b_b, b_g, b_c, b_cg, step_s, grd_t, grd_f, grdc_t, grdc_f, c_skip, c_ops, norm_ap, Int.reduceLT, c_seq, c_cond, c_block, c_exit, c_ret, c_loop, c_range, cont_ap, cond_t, cond_f, then_n, then_r, then_e, blk_n, blk_r, blk_e, Bool.false_eq_true, want_t, want_f, isT_b, isF_b, isT_u, isF_u, ldc_tail, retg_val, retg_same, List.length_cons, List.length_nil, Nat.reduceAdd, Nat.reduceLeDiff, Nat.reduceLT, List.drop_succ_cons, List.drop_zero, List.take_succ_cons, List.take_zero, T.cells?, fadT, Nat.zero_add, op, ef, cl, sq, evop, ev_r, ev_c, stB, updo_s, updo_n, upd_ap, regs0_0, regs0_1, regs0_2, regs0_3, regs0_4, reduceIte, Nat.reduceEqDiff, true_and, and_true, Option.map_some, Option.bind_some, binT, unT, lenT, natOf_nat, ldc1, val1, valA, endQ, resT, resL, resV, tupT, dlt, dle, deq, dne, List.map_cons, List.map_nil, decide_true, decide_false, strEq_eq, not_le, Bool.not_true, Bool.not_false, beq_self_eq_true, bne_self_eq_false, List.getElem?_cons_zero, List.getElem?_cons_succ, List.getElem?_nil, List.length_map, ret_val, T.bool.injEq, T.int.injEq, T.str.injEq, T.tup.injEq, h0, h1, h6, h7, h8]
    cases hc : strLt y x
    · simp -implicitDefEqProofs only [b_nil, b_b, b_g, b_c, b_cg, step_s, grd_t, grd_f, grdc_t, grdc_f, c_skip, c_ops, norm_ap, Int.reduceLT, c_seq, c_cond, c_block, c_exit, c_ret, c_loop, c_range, cont_ap, cond_t, cond_f, then_n, then_r, then_e, blk_n, blk_r, blk_e, Bool.false_eq_true, want_t, want_f, isT_b, isF_b, isT_u, isF_u, ldc_tail, retg_val, retg_same, List.length_cons, List.length_nil, Nat.reduceAdd, Nat.reduceLeDiff, Nat.reduceLT, List.drop_succ_cons, List.drop_zero, List.take_succ_cons, List.take_zero, T.cells?, fadT, Nat.zero_add, op, ef, cl, sq, evop, ev_r, ev_c, stB, updo_s, updo_n, upd_ap, regs0_0, regs0_1, regs0_2, regs0_3, regs0_4, reduceIte, Nat.reduceEqDiff, true_and, and_true, Option.map_some, Option.bind_some, binT, unT, lenT, natOf_nat, ldc1, val1, valA, endQ, resT, resL, resV, tupT, dlt, dle, deq, dne, List.map_cons, List.map_nil, decide_true, decide_false, strEq_eq, not_le, Bool.not_true, Bool.not_false, beq_self_eq_true, bne_self_eq_false, List.getElem?_cons_zero, List.getElem?_cons_succ, List.getElem?_nil, List.length_map, ret_val, T.bool.injEq, T.int.injEq, T.str.injEq, T.tup.injEq, h0, h1, h6, h7, h8]
      refine ⟨(i, (i + j) / 2), by omega, rfl, rfl, by omega, by omega, hlo, fun p a hp ha => ?_⟩
      by_cases e : p = (i + j) / 2
      · subst e; rw [hy] at ha; cases ha; exact hc
      · cases hh : strLt a x with
        | false => rfl
        | true => rw [lt_trans' (rises_lt hr p ((i + j) / 2) y a (by omega) hy ha) hh] at hc; cases hc
    · simp -implicitDefEqProofs only [b_nil, b_b, b_g, b_c, b_cg, step_s, grd_t, grd_f, grdc_t, grdc_f, c_skip, c_ops, norm_ap, Int.reduceLT, c_seq, c_cond, c_block, c_exit, c_ret, c_loop, c_range, cont_ap, cond_t, cond_f, then_n, then_r, then_e, blk_n, blk_r, blk_e, Bool.false_eq_true, want_t, want_f, isT_b, isF_b, isT_u, isF_u, ldc_tail, retg_val, retg_same, List.length_cons, List.length_nil, Nat.reduceAdd, Nat.reduceLeDiff, Nat.reduceLT, List.drop_succ_cons, List.drop_zero, List.take_succ_cons, List.take_zero, T.cells?, fadT, Nat.zero_add, op, ef, cl, sq, evop, ev_r, ev_c, stB, updo_s, updo_n, upd_ap, regs0_0, regs0_1, regs0_2, regs0_3, regs0_4, reduceIte, Nat.reduceEqDiff, true_and, and_true, Option.map_some, Option.bind_some, binT, unT, lenT, natOf_nat, ldc1, val1, valA, endQ, resT, resL, resV, tupT, dlt, dle, deq, dne, List.map_cons, List.map_nil, decide_true, decide_false, strEq_eq, not_le, Bool.not_true, Bool.not_false, beq_self_eq_true, bne_self_eq_false, List.getElem?_cons_zero, List.getElem?_cons_succ, List.getElem?_nil, List.length_map, ret_val, T.bool.injEq, T.int.injEq, T.str.injEq, T.tup.injEq, h0, h1, h6, h7, h8, wrap_succ (show (i + j) / 2 < 9223372036854775807 by omega)]
      refine ⟨((i + j) / 2 + 1, j), by omega, rfl, rfl, by omega, by omega, fun p a hp ha => ?_, hhi⟩
      by_cases e : p = (i + j) / 2
      · subst e; rw [hy] at ha; cases ha; exact hc
      · exact lt_trans' (rises_lt hr ((i + j) / 2) p a y (by omega) ha hy) hc
  · have hij' : i = j := by simp only at hij; omega
    subst hij'
    by_cases hin : i < l.length
    · obtain ⟨y, hy⟩ := getS hin
      by_cases hyx : y = x
      · have : memB l x = true := memB_iff.2 (hyx ▸ List.mem_of_getElem? hy)
        simp -implicitDefEqProofs only [b_nil, b_b, b_g, b_c, b_cg, step_s, grd_t, grd_f, grdc_t, grdc_f, c_skip, c_ops, norm_ap, Int.reduceLT, c_seq, c_cond, c_block, c_exit, c_ret, c_loop, c_range, cont_ap, cond_t, cond_f, then_n, then_r, then_e, blk_n, blk_r, blk_e, Bool.false_eq_true, want_t, want_f, isT_b, isF_b, isT_u, isF_u, ldc_tail, retg_val, retg_same, List.length_cons, List.length_nil, Nat.reduceAdd, Nat.reduceLeDiff, Nat.reduceLT, List.drop_succ_cons, List.drop_zero, List.take_succ_cons, List.take_zero, T.cells?, fadT, Nat.zero_add, op, ef, cl, sq, evop, ev_r, ev_c, stB, updo_s, updo_n, upd_ap, regs0_0, regs0_1, regs0_2, regs0_3, regs0_4, reduceIte, Nat.reduceEqDiff, true_and, and_true, Option.map_some, Option.bind_some, binT, unT, lenT, natOf_nat, ldc1, val1, valA, endQ, resT, resL, resV, tupT, dlt, dle, deq, dne, List.map_cons, List.map_nil, decide_true, decide_false, strEq_eq, not_le, Bool.not_true, Bool.not_false, beq_self_eq_true, bne_self_eq_false, List.getElem?_cons_zero, List.getElem?_cons_succ, List.getElem?_nil, List.length_map, ret_val, T.bool.injEq, T.int.injEq, T.str.injEq, T.tup.injEq, h0, h1, h6, h7, h8, encS_len, hlt, hin, iadS hy, hyx, this]
        exact ⟨i, rfl⟩
      · have : memB l x = false := memB_no.2 fun hm => by
          obtain ⟨p, hp, e⟩ := List.getElem_of_mem hm
          have hpx : l[p]? = some x := by rw [List.getElem?_eq_getElem hp, e]
          rcases Nat.lt_trichotomy p i with h | h | h
          · have := hlo p x h hpx; rw [lt_irr] at this; cases this
          · subst h; rw [hy] at hpx; cases hpx; exact hyx rfl
          · have a1 := hhi i y (Nat.le_refl _) hy
            rw [rises_lt hr p i y x h hy hpx] at a1; cases a1
        simp -implicitDefEqProofs only [b_nil, b_b, b_g, b_c, b_cg, step_s, grd_t, grd_f, grdc_t, grdc_f, c_skip, c_ops, norm_ap, Int.reduceLT, c_seq, c_cond, c_block, c_exit, c_ret, c_loop, c_range, cont_ap, cond_t, cond_f, then_n, then_r, then_e, blk_n, blk_r, blk_e, Bool.false_eq_true, want_t, want_f, isT_b, isF_b, isT_u, isF_u, ldc_tail, retg_val, retg_same, List.length_cons, List.length_nil, Nat.reduceAdd, Nat.reduceLeDiff, Nat.reduceLT, List.drop_succ_cons, List.drop_zero, List.take_succ_cons, List.take_zero, T.cells?, fadT, Nat.zero_add, op, ef, cl, sq, evop, ev_r, ev_c, stB, updo_s, updo_n, upd_ap, regs0_0, regs0_1, regs0_2, regs0_3, regs0_4, reduceIte, Nat.reduceEqDiff, true_and, and_true, Option.map_some, Option.bind_some, binT, unT, lenT, natOf_nat, ldc1, val1, valA, endQ, resT, resL, resV, tupT, dlt, dle, deq, dne, List.map_cons, List.map_nil, decide_true, decide_false, strEq_eq, not_le, Bool.not_true, Bool.not_false, beq_self_eq_true, bne_self_eq_false, List.getElem?_cons_zero, List.getElem?_cons_succ, List.getElem?_nil, List.length_map, ret_val, T.bool.injEq, T.int.injEq, T.str.injEq, T.tup.injEq, h0, h1, h6, h7, h8, encS_len, hlt, hin, iadS hy, hyx]
        refine callB_of _ _ _ _ _ _ _ _ (nan46 y _) ?_
        rintro v H' ⟨hv, rfl⟩
        cases hv
        simp -implicitDefEqProofs only [b_nil, b_b, b_g, b_c, b_cg, step_s, grd_t, grd_f, grdc_t, grdc_f, c_skip, c_ops, norm_ap, Int.reduceLT, c_seq, c_cond, c_block, c_exit, c_ret, c_loop, c_range, cont_ap, cond_t, cond_f, then_n, then_r, then_e, blk_n, blk_r, blk_e, Bool.false_eq_true, want_t, want_f, isT_b, isF_b, isT_u, isF_u, ldc_tail, retg_val, retg_same, List.length_cons, List.length_nil, Nat.reduceAdd, Nat.reduceLeDiff, Nat.reduceLT, List.drop_succ_cons, List.drop_zero, List.take_succ_cons, List.take_zero, T.cells?, fadT, Nat.zero_add, op, ef, cl, sq, evop, ev_r, ev_c, stB, updo_s, updo_n, upd_ap, regs0_0, regs0_1, regs0_2, regs0_3, regs0_4, reduceIte, Nat.reduceEqDiff, true_and, and_true, Option.map_some, Option.bind_some, binT, unT, lenT, natOf_nat, ldc1, val1, valA, endQ, resT, resL, resV, tupT, dlt, dle, deq, dne, List.map_cons, List.map_nil, decide_true, decide_false, strEq_eq, not_le, Bool.not_true, Bool.not_false, beq_self_eq_true, bne_self_eq_false, List.getElem?_cons_zero, List.getElem?_cons_succ, List.getElem?_nil, List.length_map, ret_val, T.bool.injEq, T.int.injEq, T.str.injEq, T.tup.injEq, this]
        exact ⟨i, rfl⟩
    · have : memB l x = false := memB_no.2 fun hm => by
        obtain ⟨p, hp, e⟩ := List.getElem_of_mem hm
        have := hlo p x (by simp only; omega) (by rw [List.getElem?_eq_getElem hp, e]); rw [lt_irr] at this; cases this
      simp -implicitDefEqProofs only [b_nil, b_b, b_g, b_c, b_cg, step_s, grd_t, grd_f, grdc_t, grdc_f, c_skip, c_ops, norm_ap, Int.reduceLT, c_seq, c_cond, c_block, c_exit, c_ret, c_loop, c_range, cont_ap, cond_t, cond_f, then_n, then_r, then_e, blk_n, blk_r, blk_e, Bool.false_eq_true, want_t, want_f, isT_b, isF_b, isT_u, isF_u, ldc_tail, retg_val, retg_same, List.length_cons, List.length_nil, Nat.reduceAdd, Nat.reduceLeDiff, Nat.reduceLT, List.drop_succ_cons, List.drop_zero, List.take_succ_cons, List.take_zero, T.cells?, fadT, Nat.zero_add, op, ef, cl, sq, evop, ev_r, ev_c, stB, updo_s, updo_n, upd_ap, regs0_0, regs0_1, regs0_2, regs0_3, regs0_4, reduceIte, Nat.reduceEqDiff, true_and, and_true, Option.map_some, Option.bind_some, binT, unT, lenT, natOf_nat, ldc1, val1, valA, endQ, resT, resL, resV, tupT, dlt, dle, deq, dne, List.map_cons, List.map_nil, decide_true, decide_false, strEq_eq, not_le, Bool.not_true, Bool.not_false, beq_self_eq_true, bne_self_eq_false, List.getElem?_cons_zero, List.getElem?_cons_succ, List.getElem?_nil, List.length_map, ret_val, T.bool.injEq, T.int.injEq, T.str.injEq, T.tup.injEq, h0, h1, h6, h7, h8, encS_len, hlt, hin, this]
      exact ⟨i, rfl⟩

theorem has40 (k : SK) (l : List ByteArray) (x : ByteArray) (H : Heap) (hl : l.length < 4611686018427387903) (hr : rises l = true) : W env (.call 40 [.sl k (encS l), .str x]) H (Ret (.bool (memB l x)) H) := by
  refine W.fnI rfl rfl rfl ?_
  simp -implicitDefEqProofs only [ir40, b_nil, b_b, b_g, b_c, b_cg, step_s, grd_t, grd_f, grdc_t, grdc_f, c_skip, c_ops, norm_ap, Int.reduceLT, c_seq, c_cond, c_block, c_exit, c_ret, c_loop, c_range, cont_ap, cond_t, cond_f, then_n, then_r, then_e, blk_n, blk_r, blk_e, Bool.false_eq_true, want_t, want_f, isT_b, isF_b, isT_u, isF_u, ldc_tail, retg_val, retg_same, List.length_cons, List.length_nil, Nat.reduceAdd, Nat.reduceLeDiff, Nat.reduceLT, List.drop_succ_cons, List.drop_zero, List.take_succ_cons, List.take_zero, T.cells?, fadT, Nat.zero_add, op, ef, cl, sq, evop, ev_r, ev_c, stB, updo_s, updo_n, upd_ap, regs0_0, regs0_1, regs0_2, regs0_3, regs0_4, reduceIte, Nat.reduceEqDiff, true_and, and_true, Option.map_some, Option.bind_some, binT, unT, lenT, natOf_nat, ldc1, val1, valA, endQ, resT, resL, resV, tupT, dlt, dle, deq, dne, List.map_cons, List.map_nil, decide_true, decide_false, strEq_eq, not_le, Bool.not_true, Bool.not_false, beq_self_eq_true, bne_self_eq_false, List.getElem?_cons_zero, List.getElem?_cons_succ, List.getElem?_nil, List.length_map, ret_val, T.bool.injEq, T.int.injEq, T.str.injEq, T.tup.injEq]
  refine callB_of _ _ _ _ _ _ _ _ (bs44 k l x H hl hr) ?_
  rintro v H' ⟨i, hv, rfl⟩
  cases hv
  simp -implicitDefEqProofs only [b_nil, b_b, b_g, b_c, b_cg, step_s, grd_t, grd_f, grdc_t, grdc_f, c_skip, c_ops, norm_ap, Int.reduceLT, c_seq, c_cond, c_block, c_exit, c_ret, c_loop, c_range, cont_ap, cond_t, cond_f, then_n, then_r, then_e, blk_n, blk_r, blk_e, Bool.false_eq_true, want_t, want_f, isT_b, isF_b, isT_u, isF_u, ldc_tail, retg_val, retg_same, List.length_cons, List.length_nil, Nat.reduceAdd, Nat.reduceLeDiff, Nat.reduceLT, List.drop_succ_cons, List.drop_zero, List.take_succ_cons, List.take_zero, T.cells?, fadT, Nat.zero_add, op, ef, cl, sq, evop, ev_r, ev_c, stB, updo_s, updo_n, upd_ap, regs0_0, regs0_1, regs0_2, regs0_3, regs0_4, reduceIte, Nat.reduceEqDiff, true_and, and_true, Option.map_some, Option.bind_some, binT, unT, lenT, natOf_nat, ldc1, val1, valA, endQ, resT, resL, resV, tupT, dlt, dle, deq, dne, List.map_cons, List.map_nil, decide_true, decide_false, strEq_eq, not_le, Bool.not_true, Bool.not_false, beq_self_eq_true, bne_self_eq_false, List.getElem?_cons_zero, List.getElem?_cons_succ, List.getElem?_nil, List.length_map, ret_val, T.bool.injEq, T.int.injEq, T.str.injEq, T.tup.injEq]
theorem id41 (n : Nat) (H : Heap) : W env (.call 41 [.int .u64 n]) H (Ret (.bool (decide (65536 ≤ n))) H) := by
  refine W.fnI rfl rfl rfl ?_
  simp -implicitDefEqProofs only [ir41, b_nil, b_b, b_g, b_c, b_cg, step_s, grd_t, grd_f, grdc_t, grdc_f, c_skip, c_ops, norm_ap, Int.reduceLT, c_seq, c_cond, c_block, c_exit, c_ret, c_loop, c_range, cont_ap, cond_t, cond_f, then_n, then_r, then_e, blk_n, blk_r, blk_e, Bool.false_eq_true, want_t, want_f, isT_b, isF_b, isT_u, isF_u, ldc_tail, retg_val, retg_same, List.length_cons, List.length_nil, Nat.reduceAdd, Nat.reduceLeDiff, Nat.reduceLT, List.drop_succ_cons, List.drop_zero, List.take_succ_cons, List.take_zero, T.cells?, fadT, Nat.zero_add, op, ef, cl, sq, evop, ev_r, ev_c, stB, updo_s, updo_n, upd_ap, regs0_0, regs0_1, regs0_2, regs0_3, regs0_4, reduceIte, Nat.reduceEqDiff, true_and, and_true, Option.map_some, Option.bind_some, binT, unT, lenT, natOf_nat, ldc1, val1, valA, endQ, resT, resL, resV, tupT, dlt, dle, deq, dne, List.map_cons, List.map_nil, decide_true, decide_false, strEq_eq, not_le, Bool.not_true, Bool.not_false, beq_self_eq_true, bne_self_eq_false, List.getElem?_cons_zero, List.getElem?_cons_succ, List.getElem?_nil, List.length_map, ret_val, T.bool.injEq, T.int.injEq, T.str.injEq, T.tup.injEq]
  simp
  omega
end Go.Proofs.Ytobnjpgggocdlaa.Fx
end

/-! text FixC -/
section
namespace Go.Proofs.Ytobnjpgggocdlaa.Fx
open Go.Rmp Go.Proofs.Ytobnjpgggocdlaa.Ir
set_option maxRecDepth 10000
structure Ver where
  key : ByteArray
  id : Nat
  val : ByteArray
  kk : SK
  keys : List ByteArray
def encV (v : Ver) : List T := [.str v.key, .int .u64 v.id, .str v.val, .sl v.kk (encS v.keys)]
def may (v : Ver) : Bool := if v.id = 0 then decide (v.val = ⟨#[]⟩) && decide (v.keys.length = 0) else decide (65536 ≤ v.id) && ((rises v.keys && decide (v.keys.length ≤ 1024)) && memB v.keys v.key)
theorem dge (a b : Nat) : decide ((a : Int) ≥ (b : Int)) = decide (b ≤ a) := by simp
theorem may28 (v : Ver) (H : Heap) (hl : v.keys.length < 4611686018427387903) : W env (.call 28 [.agg (encV v)]) H (RetG (.bool (may v)) H) := by
  refine W.fnI rfl rfl rfl ?_
  have d0 : ((v.id : Int) == 0) = decide (v.id = 0) := by have := deq v.id 0; simpa using this
  have d1 : (((v.keys.length : Nat) : Int) == 0) = decide (v.keys.length = 0) := by have := deq v.keys.length 0; simpa using this
  have d2 : decide ((v.id : Int) ≥ 65536) = decide (65536 ≤ v.id) := by have := dge v.id 65536; simpa using this
  by_cases hid : v.id = 0
  · have e0 : ((v.id : Int) == 0) = true := by rw [d0]; simp [hid]
    have hm : may v = (decide (v.val = ⟨#[]⟩) && decide (v.keys.length = 0)) := by simp [may, hid]
    rw [hm]
    by_cases hv : v.val = ⟨#[]⟩
    · simp -implicitDefEqProofs only [ir28, b_nil, b_b, b_g, b_c, b_cg, step_s, grd_t, grd_f, grdc_t, grdc_f, c_skip, c_ops, norm_ap, Int.reduceLT, c_seq, c_cond, c_block, c_exit, c_ret, c_loop, c_range, cont_ap, cond_t, cond_f, then_n, then_r, then_e, blk_n, blk_r, blk_e, Bool.false_eq_true, want_t, want_f, isT_b, isF_b, isT_u, isF_u, ldc_tail, retg_val, retg_same, List.length_cons, List.length_nil, Nat.reduceAdd, Nat.reduceLeDiff, Nat.reduceLT, List.drop_succ_cons, List.drop_zero, List.take_succ_cons, List.take_zero, T.cells?, fadT, Nat.zero_add, op, ef, cl, sq, evop, ev_r, ev_c, stB, updo_s, updo_n, upd_ap, regs0_0, regs0_1, regs0_2, regs0_3, regs0_4, reduceIte, Nat.reduceEqDiff, true_and, and_true, Option.map_some, Option.bind_some, binT, unT, lenT, natOf_nat, ldc1, val1, valA, endQ, resT, resL, resV, tupT, dlt, dle, deq, dne, List.map_cons, List.map_nil, decide_true, decide_false, strEq_eq, not_le, Bool.not_true, Bool.not_false, beq_self_eq_true, bne_self_eq_false, List.getElem?_cons_zero, List.getElem?_cons_succ, List.getElem?_nil, List.length_map, ret_val, T.bool.injEq, T.int.injEq, T.str.injEq, T.tup.injEq, encV, encS_len, e0, d1, hv, Bool.true_and]
    · simp -implicitDefEqProofs only [ir28, b_nil, b_b, b_g, b_c, b_cg, step_s, grd_t, grd_f, grdc_t, grdc_f, c_skip, c_ops, norm_ap, Int.reduceLT, c_seq, c_cond, c_block, c_exit, c_ret, c_loop, c_range, cont_ap, cond_t, cond_f, then_n, then_r, then_e, blk_n, blk_r, blk_e, Bool.false_eq_true, want_t, want_f, isT_b, isF_b, isT_u, isF_u, ldc_tail, retg_val, retg_same, List.length_cons, List.length_nil, Nat.reduceAdd, Nat.reduceLeDiff, Nat.reduceLT, List.drop_succ_cons, List.drop_zero, List.take_succ_cons, List.take_zero, T.cells?, fadT, Nat.zero_add, op, ef, cl, sq, evop, ev_r, ev_c, stB, updo_s, updo_n, upd_ap, regs0_0, regs0_1, regs0_2, regs0_3, regs0_4, reduceIte, Nat.reduceEqDiff, true_and, and_true, Option.map_some, Option.bind_some, binT, unT, lenT, natOf_nat, ldc1, val1, valA, endQ, resT, resL, resV, tupT, dlt, dle, deq, dne, List.map_cons, List.map_nil, decide_true, decide_false, strEq_eq, not_le, Bool.not_true, Bool.not_false, beq_self_eq_true, bne_self_eq_false, List.getElem?_cons_zero, List.getElem?_cons_succ, List.getElem?_nil, List.length_map, ret_val, T.bool.injEq, T.int.injEq, T.str.injEq, T.tup.injEq, encV, encS_len, e0, d1, hv, Bool.false_and]
  · have e0 : ((v.id : Int) == 0) = false := by rw [d0]; simp [hid]
    have hm : may v = (decide (65536 ≤ v.id) && ((rises v.keys && decide (v.keys.length ≤ 1024)) && memB v.keys v.key)) := by simp [may, hid]
    rw [hm]
    by_cases hi : 65536 ≤ v.id
    · simp -implicitDefEqProofs only [ir28, b_nil, b_b, b_g, b_c, b_cg, step_s, grd_t, grd_f, grdc_t, grdc_f, c_skip, c_ops, norm_ap, Int.reduceLT, c_seq, c_cond, c_block, c_exit, c_ret, c_loop, c_range, cont_ap, cond_t, cond_f, then_n, then_r, then_e, blk_n, blk_r, blk_e, Bool.false_eq_true, want_t, want_f, isT_b, isF_b, isT_u, isF_u, ldc_tail, retg_val, retg_same, List.length_cons, List.length_nil, Nat.reduceAdd, Nat.reduceLeDiff, Nat.reduceLT, List.drop_succ_cons, List.drop_zero, List.take_succ_cons, List.take_zero, T.cells?, fadT, Nat.zero_add, op, ef, cl, sq, evop, ev_r, ev_c, stB, updo_s, updo_n, upd_ap, regs0_0, regs0_1, regs0_2, regs0_3, regs0_4, reduceIte, Nat.reduceEqDiff, true_and, and_true, Option.map_some, Option.bind_some, binT, unT, lenT, natOf_nat, ldc1, val1, valA, endQ, resT, resL, resV, tupT, dlt, dle, deq, dne, List.map_cons, List.map_nil, decide_true, decide_false, strEq_eq, not_le, Bool.not_true, Bool.not_false, beq_self_eq_true, bne_self_eq_false, List.getElem?_cons_zero, List.getElem?_cons_succ, List.getElem?_nil, List.length_map, ret_val, T.bool.injEq, T.int.injEq, T.str.injEq, T.tup.injEq, encV, encS_len, e0, d1, d2, hi, Bool.true_and]
      refine callB_of _ _ _ _ _ _ _ _ (rising39 v.kk v.keys _ (by omega)) ?_
      rintro u H' ⟨hu, rfl⟩
      cases hu
      cases hr : (rises v.keys && decide (v.keys.length ≤ 1024))
      · simp -implicitDefEqProofs only [b_nil, b_b, b_g, b_c, b_cg, step_s, grd_t, grd_f, grdc_t, grdc_f, c_skip, c_ops, norm_ap, Int.reduceLT, c_seq, c_cond, c_block, c_exit, c_ret, c_loop, c_range, cont_ap, cond_t, cond_f, then_n, then_r, then_e, blk_n, blk_r, blk_e, Bool.false_eq_true, want_t, want_f, isT_b, isF_b, isT_u, isF_u, ldc_tail, retg_val, retg_same, List.length_cons, List.length_nil, Nat.reduceAdd, Nat.reduceLeDiff, Nat.reduceLT, List.drop_succ_cons, List.drop_zero, List.take_succ_cons, List.take_zero, T.cells?, fadT, Nat.zero_add, op, ef, cl, sq, evop, ev_r, ev_c, stB, updo_s, updo_n, upd_ap, regs0_0, regs0_1, regs0_2, regs0_3, regs0_4, reduceIte, Nat.reduceEqDiff, true_and, and_true, Option.map_some, Option.bind_some, binT, unT, lenT, natOf_nat, ldc1, val1, valA, endQ, resT, resL, resV, tupT, dlt, dle, deq, dne, List.map_cons, List.map_nil, decide_true, decide_false, strEq_eq, not_le, Bool.not_true, Bool.not_false, beq_self_eq_true, bne_self_eq_false, List.getElem?_cons_zero, List.getElem?_cons_succ, List.getElem?_nil, List.length_map, ret_val, T.bool.injEq, T.int.injEq, T.str.injEq, T.tup.injEq, Bool.false_and]
      · simp -implicitDefEqProofs only [b_nil, b_b, b_g, b_c, b_cg, step_s, grd_t, grd_f, grdc_t, grdc_f, c_skip, c_ops, norm_ap, Int.reduceLT, c_seq, c_cond, c_block, c_exit, c_ret, c_loop, c_range, cont_ap, cond_t, cond_f, then_n, then_r, then_e, blk_n, blk_r, blk_e, Bool.false_eq_true, want_t, want_f, isT_b, isF_b, isT_u, isF_u, ldc_tail, retg_val, retg_same, List.length_cons, List.length_nil, Nat.reduceAdd, Nat.reduceLeDiff, Nat.reduceLT, List.drop_succ_cons, List.drop_zero, List.take_succ_cons, List.take_zero, T.cells?, fadT, Nat.zero_add, op, ef, cl, sq, evop, ev_r, ev_c, stB, updo_s, updo_n, upd_ap, regs0_0, regs0_1, regs0_2, regs0_3, regs0_4, reduceIte, Nat.reduceEqDiff, true_and, and_true, Option.map_some, Option.bind_some, binT, unT, lenT, natOf_nat, ldc1, val1, valA, endQ, resT, resL, resV, tupT, dlt, dle, deq, dne, List.map_cons, List.map_nil, decide_true, decide_false, strEq_eq, not_le, Bool.not_true, Bool.not_false, beq_self_eq_true, bne_self_eq_false, List.getElem?_cons_zero, List.getElem?_cons_succ, List.getElem?_nil, List.length_map, ret_val, T.bool.injEq, T.int.injEq, T.str.injEq, T.tup.injEq, Bool.true_and]
        refine callB_of _ _ _ _ _ _ _ _ (has40 v.kk v.keys v.key _ hl (by simp at hr; exact hr.1)) ?_
        rintro u H' ⟨hu, rfl⟩
        cases hu
        simp -implicitDefEqProofs only [b_nil, b_b, b_g, b_c, b_cg, step_s, grd_t, grd_f, grdc_t, grdc_f, c_skip, c_ops, norm_ap, Int.reduceLT, c_seq, c_cond, c_block, c_exit, c_ret, c_loop, c_range, cont_ap, cond_t, cond_f, then_n, then_r, then_e, blk_n, blk_r, blk_e, Bool.false_eq_true, want_t, want_f, isT_b, isF_b, isT_u, isF_u, ldc_tail, retg_val, retg_same, List.length_cons, List.length_nil, Nat.reduceAdd, Nat.reduceLeDiff, Nat.reduceLT, List.drop_succ_cons, List.drop_zero, List.take_succ_cons, List.take_zero, T.cells?, fadT, Nat.zero_add, op, ef, cl, sq, evop, ev_r, ev_c, stB, updo_s, updo_n, upd_ap, regs0_0, regs0_1, regs0_2, regs0_3, regs0_4, reduceIte, Nat.reduceEqDiff, true_and, and_true, Option.map_some, Option.bind_some, binT, unT, lenT, natOf_nat, ldc1, val1, valA, endQ, resT, resL, resV, tupT, dlt, dle, deq, dne, List.map_cons, List.map_nil, decide_true, decide_false, strEq_eq, not_le, Bool.not_true, Bool.not_false, beq_self_eq_true, bne_self_eq_false, List.getElem?_cons_zero, List.getElem?_cons_succ, List.getElem?_nil, List.length_map, ret_val, T.bool.injEq, T.int.injEq, T.str.injEq, T.tup.injEq]
    · simp -implicitDefEqProofs only [ir28, b_nil, b_b, b_g, b_c, b_cg, step_s, grd_t, grd_f, grdc_t, grdc_f, c_skip, c_ops, norm_ap, Int.reduceLT, c_seq, c_cond, c_block, c_exit, c_ret, c_loop, c_range, cont_ap, cond_t, cond_f, then_n, then_r, then_e, blk_n, blk_r, blk_e, Bool.false_eq_true, want_t, want_f, isT_b, isF_b, isT_u, isF_u, ldc_tail, retg_val, retg_same, List.length_cons, List.length_nil, Nat.reduceAdd, Nat.reduceLeDiff, Nat.reduceLT, List.drop_succ_cons, List.drop_zero, List.take_succ_cons, List.take_zero, T.cells?, fadT, Nat.zero_add, op, ef, cl, sq, evop, ev_r, ev_c, stB, updo_s, updo_n, upd_ap, regs0_0, regs0_1, regs0_2, regs0_3, regs0_4, reduceIte, Nat.reduceEqDiff, true_and, and_true, Option.map_some, Option.bind_some, binT, unT, lenT, natOf_nat, ldc1, val1, valA, endQ, resT, resL, resV, tupT, dlt, dle, deq, dne, List.map_cons, List.map_nil, decide_true, decide_false, strEq_eq, not_le, Bool.not_true, Bool.not_false, beq_self_eq_true, bne_self_eq_false, List.getElem?_cons_zero, List.getElem?_cons_succ, List.getElem?_nil, List.length_map, ret_val, T.bool.injEq, T.int.injEq, T.str.injEq, T.tup.injEq, encV, encS_len, e0, d1, d2, hi, Bool.false_and]

/-! the document's: one -/
def one (v : Ver) : Bool := if v.id = 0 then decide (v.val = ⟨#[]⟩) && decide (v.keys.length = 0) else decide (65536 ≤ v.id) && (decide (v.keys.length ≤ 1024) && (rises v.keys && memB v.keys v.key))
theorem one_may (v : Ver) : one v = may v := by
  unfold one may
  split
  · rfl
  · cases decide (65536 ≤ v.id) <;> cases rises v.keys <;> cases decide (v.keys.length ≤ 1024) <;> simp
theorem one30 (v : Ver) (H : Heap) (hl : v.keys.length < 4611686018427387903) : W env (.call 30 [.agg (encV v)]) H (RetG (.bool (may v)) H) := by
  refine W.fnI rfl rfl rfl ?_
  rw [← one_may]
  have d0 : ((v.id : Int) == 0) = decide (v.id = 0) := by have := deq v.id 0; simpa using this
  have d1 : (((v.keys.length : Nat) : Int) == 0) = decide (v.keys.length = 0) := by have := deq v.keys.length 0; simpa using this
  have d3 : decide (((v.keys.length : Nat) : Int) ≤ 1024) = decide (v.keys.length ≤ 1024) := by have := dle v.keys.length 1024; simpa using this
  by_cases hid : v.id = 0
  · have e0 : ((v.id : Int) == 0) = true := by rw [d0]; simp [hid]
    have hm : one v = (decide (v.val = ⟨#[]⟩) && decide (v.keys.length = 0)) := by simp [one, hid]
    rw [hm]
    by_cases hv : v.val = ⟨#[]⟩
    · simp -implicitDefEqProofs only [ir30, b_nil, b_b, b_g, b_c, b_cg, step_s, grd_t, grd_f, grdc_t, grdc_f, c_skip, c_ops, norm_ap, Int.reduceLT, c_seq, c_cond, c_block, c_exit, c_ret, c_loop, c_range, cont_ap, cond_t, cond_f, then_n, then_r, then_e, blk_n, blk_r, blk_e, Bool.false_eq_true, want_t, want_f, isT_b, isF_b, isT_u, isF_u, ldc_tail, retg_val, retg_same, List.length_cons, List.length_nil, Nat.reduceAdd, Nat.reduceLeDiff, Nat.reduceLT, List.drop_succ_cons, List.drop_zero, List.take_succ_cons, List.take_zero, T.cells?, fadT, Nat.zero_add, op, ef, cl, sq, evop, ev_r, ev_c, stB, updo_s, updo_n, upd_ap, regs0_0, regs0_1, regs0_2, regs0_3, regs0_4, reduceIte, Nat.reduceEqDiff, true_and, and_true, Option.map_some, Option.bind_some, binT, unT, lenT, natOf_nat, ldc1, val1, valA, endQ, resT, resL, resV, tupT, dlt, dle, deq, dne, List.map_cons, List.map_nil, decide_true, decide_false, strEq_eq, not_le, Bool.not_true, Bool.not_false, beq_self_eq_true, bne_self_eq_false, List.getElem?_cons_zero, List.getElem?_cons_succ, List.getElem?_nil, List.length_map, ret_val, T.bool.injEq, T.int.injEq, T.str.injEq, T.tup.injEq, encV, encS_len, e0, d1, hv, Bool.true_and]
    · simp -implicitDefEqProofs only [ir30, b_nil, b_b, b_g, b_c, b_cg, step_s, grd_t, grd_f, grdc_t, grdc_f, c_skip, c_ops, norm_ap, Int.reduceLT, c_seq, c_cond, c_block, c_exit, c_ret, c_loop, c_range, cont_ap, cond_t, cond_f, then_n, then_r, then_e, blk_n, blk_r, blk_e, Bool.false_eq_true, want_t, want_f, isT_b, isF_b, isT_u, isF_u, ldc_tail, retg_val, retg_same, List.length_cons, List.length_nil, Nat.reduceAdd, Nat.reduceLeDiff, Nat.reduceLT, List.drop_succ_cons, List.drop_zero, List.take_succ_cons, List.take_zero, T.cells?, fadT, Nat.zero_add, op, ef, cl, sq, evop, ev_r, ev_c, stB, updo_s, updo_n, upd_ap, regs0_0, regs0_1, regs0_2, regs0_3, regs0_4, reduceIte, Nat.reduceEqDiff, true_and, and_true, Option.map_some, Option.bind_some, binT, unT, lenT, natOf_nat, ldc1, val1, valA, endQ, resT, resL, resV, tupT, dlt, dle, deq, dne, List.map_cons, List.map_nil, decide_true, decide_false, strEq_eq, not_le, Bool.not_true, Bool.not_false, beq_self_eq_true, bne_self_eq_false, List.getElem?_cons_zero, List.getElem?_cons_succ, List.getElem?_nil, List.length_map, ret_val, T.bool.injEq, T.int.injEq, T.str.injEq, T.tup.injEq, encV, encS_len, e0, d1, hv, Bool.false_and]
  · have e0 : ((v.id : Int) == 0) = false := by rw [d0]; simp [hid]
    have hm : one v = (decide (65536 ≤ v.id) && (decide (v.keys.length ≤ 1024) && (rises v.keys && memB v.keys v.key))) := by simp [one, hid]
    rw [hm]
    simp -implicitDefEqProofs only [ir30, b_nil, b_b, b_g, b_c, b_cg, step_s, grd_t, grd_f, grdc_t, grdc_f, c_skip, c_ops, norm_ap, Int.reduceLT, c_seq, c_cond, c_block, c_exit, c_ret, c_loop, c_range, cont_ap, cond_t, cond_f, then_n, then_r, then_e, blk_n, blk_r, blk_e, Bool.false_eq_true, want_t, want_f, isT_b, isF_b, isT_u, isF_u, ldc_tail, retg_val, retg_same, List.length_cons, List.length_nil, Nat.reduceAdd, Nat.reduceLeDiff, Nat.reduceLT, List.drop_succ_cons, List.drop_zero, List.take_succ_cons, List.take_zero, T.cells?, fadT, Nat.zero_add, op, ef, cl, sq, evop, ev_r, ev_c, stB, updo_s, updo_n, upd_ap, regs0_0, regs0_1, regs0_2, regs0_3, regs0_4, reduceIte, Nat.reduceEqDiff, true_and, and_true, Option.map_some, Option.bind_some, binT, unT, lenT, natOf_nat, ldc1, val1, valA, endQ, resT, resL, resV, tupT, dlt, dle, deq, dne, List.map_cons, List.map_nil, decide_true, decide_false, strEq_eq, not_le, Bool.not_true, Bool.not_false, beq_self_eq_true, bne_self_eq_false, List.getElem?_cons_zero, List.getElem?_cons_succ, List.getElem?_nil, List.length_map, ret_val, T.bool.injEq, T.int.injEq, T.str.injEq, T.tup.injEq, encV, encS_len, e0]
    refine callB_of _ _ _ _ _ _ _ _ (id41 v.id _) ?_
    rintro u H' ⟨hu, rfl⟩
    cases hu
    by_cases hi : 65536 ≤ v.id
    · by_cases hn : v.keys.length ≤ 1024
      · simp -implicitDefEqProofs only [b_nil, b_b, b_g, b_c, b_cg, step_s, grd_t, grd_f, grdc_t, grdc_f, c_skip, c_ops, norm_ap, Int.reduceLT, c_seq, c_cond, c_block, c_exit, c_ret, c_loop, c_range, cont_ap, cond_t, cond_f, then_n, then_r, then_e, blk_n, blk_r, blk_e, Bool.false_eq_true, want_t, want_f, isT_b, isF_b, isT_u, isF_u, ldc_tail, retg_val, retg_same, List.length_cons, List.length_nil, Nat.reduceAdd, Nat.reduceLeDiff, Nat.reduceLT, List.drop_succ_cons, List.drop_zero, List.take_succ_cons, List.take_zero, T.cells?, fadT, Nat.zero_add, op, ef, cl, sq, evop, ev_r, ev_c, stB, updo_s, updo_n, upd_ap, regs0_0, regs0_1, regs0_2, regs0_3, regs0_4, reduceIte, Nat.reduceEqDiff, true_and, and_true, Option.map_some, Option.bind_some, binT, unT, lenT, natOf_nat, ldc1, val1, valA, endQ, resT, resL, resV, tupT, dlt, dle, deq, dne, List.map_cons, List.map_nil, decide_true, decide_false, strEq_eq, not_le, Bool.not_true, Bool.not_false, beq_self_eq_true, bne_self_eq_false, List.getElem?_cons_zero, List.getElem?_cons_succ, List.getElem?_nil, List.length_map, ret_val, T.bool.injEq, T.int.injEq, T.str.injEq, T.tup.injEq, encS_len, d3, hi, hn, Bool.true_and]
        refine callB_of _ _ _ _ _ _ _ _ (rising42 v.kk v.keys _ (by omega)) ?_
        rintro u H' ⟨hu, rfl⟩
        cases hu
        cases hr : rises v.keys
        · simp -implicitDefEqProofs only [b_nil, b_b, b_g, b_c, b_cg, step_s, grd_t, grd_f, grdc_t, grdc_f, c_skip, c_ops, norm_ap, Int.reduceLT, c_seq, c_cond, c_block, c_exit, c_ret, c_loop, c_range, cont_ap, cond_t, cond_f, then_n, then_r, then_e, blk_n, blk_r, blk_e, Bool.false_eq_true, want_t, want_f, isT_b, isF_b, isT_u, isF_u, ldc_tail, retg_val, retg_same, List.length_cons, List.length_nil, Nat.reduceAdd, Nat.reduceLeDiff, Nat.reduceLT, List.drop_succ_cons, List.drop_zero, List.take_succ_cons, List.take_zero, T.cells?, fadT, Nat.zero_add, op, ef, cl, sq, evop, ev_r, ev_c, stB, updo_s, updo_n, upd_ap, regs0_0, regs0_1, regs0_2, regs0_3, regs0_4, reduceIte, Nat.reduceEqDiff, true_and, and_true, Option.map_some, Option.bind_some, binT, unT, lenT, natOf_nat, ldc1, val1, valA, endQ, resT, resL, resV, tupT, dlt, dle, deq, dne, List.map_cons, List.map_nil, decide_true, decide_false, strEq_eq, not_le, Bool.not_true, Bool.not_false, beq_self_eq_true, bne_self_eq_false, List.getElem?_cons_zero, List.getElem?_cons_succ, List.getElem?_nil, List.length_map, ret_val, T.bool.injEq, T.int.injEq, T.str.injEq, T.tup.injEq, Bool.false_and]
        · simp -implicitDefEqProofs only [b_nil, b_b, b_g, b_c, b_cg, step_s, grd_t, grd_f, grdc_t, grdc_f, c_skip, c_ops, norm_ap, Int.reduceLT, c_seq, c_cond, c_block, c_exit, c_ret, c_loop, c_range, cont_ap, cond_t, cond_f, then_n, then_r, then_e, blk_n, blk_r, blk_e, Bool.false_eq_true, want_t, want_f, isT_b, isF_b, isT_u, isF_u, ldc_tail, retg_val, retg_same, List.length_cons, List.length_nil, Nat.reduceAdd, Nat.reduceLeDiff, Nat.reduceLT, List.drop_succ_cons, List.drop_zero, List.take_succ_cons, List.take_zero, T.cells?, fadT, Nat.zero_add, op, ef, cl, sq, evop, ev_r, ev_c, stB, updo_s, updo_n, upd_ap, regs0_0, regs0_1, regs0_2, regs0_3, regs0_4, reduceIte, Nat.reduceEqDiff, true_and, and_true, Option.map_some, Option.bind_some, binT, unT, lenT, natOf_nat, ldc1, val1, valA, endQ, resT, resL, resV, tupT, dlt, dle, deq, dne, List.map_cons, List.map_nil, decide_true, decide_false, strEq_eq, not_le, Bool.not_true, Bool.not_false, beq_self_eq_true, bne_self_eq_false, List.getElem?_cons_zero, List.getElem?_cons_succ, List.getElem?_nil, List.length_map, ret_val, T.bool.injEq, T.int.injEq, T.str.injEq, T.tup.injEq, Bool.true_and, Bool.and_true]
          refine callB_of _ _ _ _ _ _ _ _ (has26 v.kk v.keys v.key _ (by omega)) ?_
          rintro u H' ⟨hu, rfl⟩
          cases hu
          simp -implicitDefEqProofs only [b_nil, b_b, b_g, b_c, b_cg, step_s, grd_t, grd_f, grdc_t, grdc_f, c_skip, c_ops, norm_ap, Int.reduceLT, c_seq, c_cond, c_block, c_exit, c_ret, c_loop, c_range, cont_ap, cond_t, cond_f, then_n, then_r, then_e, blk_n, blk_r, blk_e, Bool.false_eq_true, want_t, want_f, isT_b, isF_b, isT_u, isF_u, ldc_tail, retg_val, retg_same, List.length_cons, List.length_nil, Nat.reduceAdd, Nat.reduceLeDiff, Nat.reduceLT, List.drop_succ_cons, List.drop_zero, List.take_succ_cons, List.take_zero, T.cells?, fadT, Nat.zero_add, op, ef, cl, sq, evop, ev_r, ev_c, stB, updo_s, updo_n, upd_ap, regs0_0, regs0_1, regs0_2, regs0_3, regs0_4, reduceIte, Nat.reduceEqDiff, true_and, and_true, Option.map_some, Option.bind_some, binT, unT, lenT, natOf_nat, ldc1, val1, valA, endQ, resT, resL, resV, tupT, dlt, dle, deq, dne, List.map_cons, List.map_nil, decide_true, decide_false, strEq_eq, not_le, Bool.not_true, Bool.not_false, beq_self_eq_true, bne_self_eq_false, List.getElem?_cons_zero, List.getElem?_cons_succ, List.getElem?_nil, List.length_map, ret_val, T.bool.injEq, T.int.injEq, T.str.injEq, T.tup.injEq]
      · simp -implicitDefEqProofs only [b_nil, b_b, b_g, b_c, b_cg, step_s, grd_t, grd_f, grdc_t, grdc_f, c_skip, c_ops, norm_ap, Int.reduceLT, c_seq, c_cond, c_block, c_exit, c_ret, c_loop, c_range, cont_ap, cond_t, cond_f, then_n, then_r, then_e, blk_n, blk_r, blk_e, Bool.false_eq_true, want_t, want_f, isT_b, isF_b, isT_u, isF_u, ldc_tail, retg_val, retg_same, List.length_cons, List.length_nil, Nat.reduceAdd, Nat.reduceLeDiff, Nat.reduceLT, List.drop_succ_cons, List.drop_zero, List.take_succ_cons, List.take_zero, T.cells?, fadT, Nat.zero_add, op, ef, cl, sq, evop, ev_r, ev_c, stB, updo_s, updo_n, upd_ap, regs0_0, regs0_1, regs0_2, regs0_3, regs0_4, reduceIte, Nat.reduceEqDiff, true_and, and_true, Option.map_some, Option.bind_some, binT, unT, lenT, natOf_nat, ldc1, val1, valA, endQ, resT, resL, resV, tupT, dlt, dle, deq, dne, List.map_cons, List.map_nil, decide_true, decide_false, strEq_eq, not_le, Bool.not_true, Bool.not_false, beq_self_eq_true, bne_self_eq_false, List.getElem?_cons_zero, List.getElem?_cons_succ, List.getElem?_nil, List.length_map, ret_val, T.bool.injEq, T.int.injEq, T.str.injEq, T.tup.injEq, encS_len, d3, hi, hn, Bool.true_and, Bool.false_and]
    · simp -implicitDefEqProofs only [b_nil, b_b, b_g, b_c, b_cg, step_s, grd_t, grd_f, grdc_t, grdc_f, c_skip, c_ops, norm_ap, Int.reduceLT, c_seq, c_cond, c_block, c_exit, c_ret, c_loop, c_range, cont_ap, cond_t, cond_f, then_n, then_r, then_e, blk_n, blk_r, blk_e, Bool.false_eq_true, want_t, want_f, isT_b, isF_b, isT_u, isF_u, ldc_tail, retg_val, retg_same, List.length_cons, List.length_nil, Nat.reduceAdd, Nat.reduceLeDiff, Nat.reduceLT, List.drop_succ_cons, List.drop_zero, List.take_succ_cons, List.take_zero, T.cells?, fadT, Nat.zero_add, op, ef, cl, sq, evop, ev_r, ev_c, stB, updo_s, updo_n, upd_ap, regs0_0, regs0_1, regs0_2, regs0_3, regs0_4, reduceIte, Nat.reduceEqDiff, true_and, and_true, Option.map_some, Option.bind_some, binT, unT, lenT, natOf_nat, ldc1, val1, valA, endQ, resT, resL, resV, tupT, dlt, dle, deq, dne, List.map_cons, List.map_nil, decide_true, decide_false, strEq_eq, not_le, Bool.not_true, Bool.not_false, beq_self_eq_true, bne_self_eq_false, List.getElem?_cons_zero, List.getElem?_cons_succ, List.getElem?_nil, List.length_map, ret_val, T.bool.injEq, T.int.injEq, T.str.injEq, T.tup.injEq, encS_len, hi, Bool.false_and]
end Go.Proofs.Ytobnjpgggocdlaa.Fx
end

/-! text FixD -/
section
namespace Go.Proofs.Ytobnjpgggocdlaa.Fx
open Go.Rmp Go.Proofs.Ytobnjpgggocdlaa.Ir
set_option maxRecDepth 10000

def encVs (l : List Ver) : List (List T) := l.map encV
theorem encVs_len (l : List Ver) : (encVs l).length = l.length := by simp [encVs]
theorem iadV {l : List Ver} {k : SK} {i : Nat} {v : Ver} (h : l[i]? = some v) : iadT 4 i (.sl k (encVs l)) = some (.iptr (encV v)) := iad_map h rfl (by decide)
theorem getV {l : List Ver} {i : Nat} (h : i < l.length) : ∃ x, l[i]? = some x := ⟨l[i], List.getElem?_eq_getElem h⟩
theorem ldV (H : Heap) (v : Ver) : ldc H 4 (.iptr (encV v)) = some (encV v) := rfl
theorem fadV0 (v : Ver) : (fadT 0 (.iptr (encV v))) = some (.iptr [.str v.key, .int .u64 v.id, .str v.val, .sl v.kk (encS v.keys)]) := rfl
theorem fadV1 (v : Ver) : (fadT 1 (.iptr (encV v))) = some (.iptr [.int .u64 v.id, .str v.val, .sl v.kk (encS v.keys)]) := rfl
theorem fadV3 (v : Ver) : (fadT 3 (.iptr (encV v))) = some (.iptr [.sl v.kk (encS v.keys)]) := rfl
theorem ldcI (H : Heap) (x : T) (cs : List T) : ldc H 1 (.iptr (x :: cs)) = some [x] := by simp [ldc]
/-- lists within bounds: what a law is asked of -/
def Small (l : List Ver) : Prop := l.length < 4611686018427387903 ∧ ∀ v ∈ l, v.keys.length < 4611686018427387903

/-- two versions beside one another -/
def ok2 (u v : Ver) : Bool := !decide (u.key = v.key) && (!decide (u.id = v.id) || decide (u.keys = v.keys))
def Good (l : List Ver) (i : Nat) : Prop := ∀ v, l[i]? = some v → may v = true ∧ ∀ k u, k < i → l[k]? = some u → ok2 u v = true
def Formed (l : List Ver) : Prop := 1 ≤ l.length ∧ l.length ≤ 1024 ∧ ∀ i, i < l.length → Good l i
open Classical in
noncomputable def formed (l : List Ver) : Bool := decide (Formed l)
theorem formed_t {l : List Ver} (h : Formed l) : formed l = true := by simp [formed, h]
theorem formed_f {l : List Ver} (h : ¬ Formed l) : formed l = false := by simp [formed, h]
theorem Ext.refl' (H : Heap) : ∃ l, H = H ++ l := ⟨[], by simp⟩
theorem Ext.trans' {H H' H'' : Heap} (h : ∃ l, H' = H ++ l) (h' : ∃ l, H'' = H' ++ l) : ∃ l, H'' = H ++ l := by
  obtain ⟨a, rfl⟩ := h; obtain ⟨b, rfl⟩ := h'; exact ⟨a ++ b, by simp⟩
theorem retg_mk {v v' : T} {H H' : Heap} (h : ∃ l, H' = H ++ l) : RetG v H (.val v') H' = (v' = v) := by
  simp -implicitDefEqProofs only [RetG, Out.val.injEq, eq_iff_iff]; exact ⟨fun x => x.1, fun x => ⟨x, h⟩⟩
theorem duid (a b : Nat) : ((a : Int) == (b : Int)) = decide (a = b) := deq a b

theorem formed13 (k : SK) (l : List Ver) (H : Heap) (hs : Small l) : W env (.call 13 [.sl k (encVs l)]) H (RetG (.bool (formed l)) H) := by
  refine W.fnI rfl rfl rfl ?_
  have d1 : decide (((l.length : Nat) : Int) < 1) = decide (l.length < 1) := by have := dlt l.length 1; simpa using this
  have d2 : decide (((l.length : Nat) : Int) > 1024) = decide (1024 < l.length) := by have := dlt 1024 l.length; simpa using this
  by_cases hn1 : l.length < 1
  · have : formed l = false := formed_f fun h => by have := h.1; omega
    simp -implicitDefEqProofs only [ir13, b_nil, b_b, b_g, b_c, b_cg, step_s, grd_t, grd_f, grdc_t, grdc_f, c_skip, c_ops, norm_ap, Int.reduceLT, c_seq, c_cond, c_block, c_exit, c_ret, c_loop, c_range, cont_ap, cond_t, cond_f, then_n, then_r, then_e, blk_n, blk_r, blk_e, Bool.false_eq_true, want_t, want_f, isT_b, isF_b, isT_u, isF_u, ldc_tail, retg_val, retg_same, List.length_cons, List.length_nil, Nat.reduceAdd, Nat.reduceLeDiff, Nat.reduceLT, List.drop_succ_cons, List.drop_zero, List.take_succ_cons, List.take_zero, T.cells?, fadT, Nat.zero_add, op, ef, cl, sq, evop, ev_r, ev_c, stB, updo_s, updo_n, upd_ap, regs0_0, regs0_1, regs0_2, regs0_3, regs0_4, reduceIte, Nat.reduceEqDiff, true_and, and_true, Option.map_some, Option.bind_some, binT, unT, lenT, natOf_nat, ldc1, val1, valA, endQ, resT, resL, resV, tupT, dlt, dle, deq, dne, List.map_cons, List.map_nil, decide_true, decide_false, strEq_eq, not_le, Bool.not_true, Bool.not_false, beq_self_eq_true, bne_self_eq_false, List.getElem?_cons_zero, List.getElem?_cons_succ, List.getElem?_nil, List.length_map, ret_val, T.bool.injEq, T.int.injEq, T.str.injEq, T.tup.injEq, encVs_len, d1, hn1, this]
  by_cases hn2 : 1024 < l.length
  · have : formed l = false := formed_f fun h => by have := h.2.1; omega
    simp -implicitDefEqProofs only [ir13, b_nil, b_b, b_g, b_c, b_cg, step_s, grd_t, grd_f, grdc_t, grdc_f, c_skip, c_ops, norm_ap, Int.reduceLT, c_seq, c_cond, c_block, c_exit, c_ret, c_loop, c_range, cont_ap, cond_t, cond_f, then_n, then_r, then_e, blk_n, blk_r, blk_e, Bool.false_eq_true, want_t, want_f, isT_b, isF_b, isT_u, isF_u, ldc_tail, retg_val, retg_same, List.length_cons, List.length_nil, Nat.reduceAdd, Nat.reduceLeDiff, Nat.reduceLT, List.drop_succ_cons, List.drop_zero, List.take_succ_cons, List.take_zero, T.cells?, fadT, Nat.zero_add, op, ef, cl, sq, evop, ev_r, ev_c, stB, updo_s, updo_n, upd_ap, regs0_0, regs0_1, regs0_2, regs0_3, regs0_4, reduceIte, Nat.reduceEqDiff, true_and, and_true, Option.map_some, Option.bind_some, binT, unT, lenT, natOf_nat, ldc1, val1, valA, endQ, resT, resL, resV, tupT, dlt, dle, deq, dne, List.map_cons, List.map_nil, decide_true, decide_false, strEq_eq, not_le, Bool.not_true, Bool.not_false, beq_self_eq_true, bne_self_eq_false, List.getElem?_cons_zero, List.getElem?_cons_succ, List.getElem?_nil, List.length_map, ret_val, T.bool.injEq, T.int.injEq, T.str.injEq, T.tup.injEq, encVs_len, d1, d2, hn1, hn2, this]
  simp -implicitDefEqProofs only [ir13, b_nil, b_b, b_g, b_c, b_cg, step_s, grd_t, grd_f, grdc_t, grdc_f, c_skip, c_ops, norm_ap, Int.reduceLT, c_seq, c_cond, c_block, c_exit, c_ret, c_loop, c_range, cont_ap, cond_t, cond_f, then_n, then_r, then_e, blk_n, blk_r, blk_e, Bool.false_eq_true, want_t, want_f, isT_b, isF_b, isT_u, isF_u, ldc_tail, retg_val, retg_same, List.length_cons, List.length_nil, Nat.reduceAdd, Nat.reduceLeDiff, Nat.reduceLT, List.drop_succ_cons, List.drop_zero, List.take_succ_cons, List.take_zero, T.cells?, fadT, Nat.zero_add, op, ef, cl, sq, evop, ev_r, ev_c, stB, updo_s, updo_n, upd_ap, regs0_0, regs0_1, regs0_2, regs0_3, regs0_4, reduceIte, Nat.reduceEqDiff, true_and, and_true, Option.map_some, Option.bind_some, binT, unT, lenT, natOf_nat, ldc1, val1, valA, endQ, resT, resL, resV, tupT, dlt, dle, deq, dne, List.map_cons, List.map_nil, decide_true, decide_false, strEq_eq, not_le, Bool.not_true, Bool.not_false, beq_self_eq_true, bne_self_eq_false, List.getElem?_cons_zero, List.getElem?_cons_succ, List.getElem?_nil, List.length_map, ret_val, T.bool.injEq, T.int.injEq, T.str.injEq, T.tup.injEq, encVs_len, d1, d2, hn1, hn2]
  refine W.loopI (fun (i : Nat) R H' => (∃ m, H' = H ++ m) ∧ R 0 = .sl k (encVs l) ∧ R 3 = .int .i64 i ∧ i ≤ l.length ∧ ∀ j, j < i → Good l j) (fun i => l.length - i) 0 ⟨Ext.refl' H, rfl, rfl, Nat.zero_le _, fun j h => by omega⟩ ?_
  rintro i R H1 ⟨hH1, h0, h3, hi, hg⟩
  by_cases hlt : i < l.length
  · obtain ⟨v, hv⟩ := getV hlt
    have ws := wrap_succ (show i < 9223372036854775807 by omega)
    simp -implicitDefEqProofs only [b_nil, b_b, b_g, b_c, b_cg, step_s, grd_t, grd_f, grdc_t, grdc_f, c_skip, c_ops, norm_ap, Int.reduceLT, c_seq, c_cond, c_block, c_exit, c_ret, c_loop, c_range, cont_ap, cond_t, cond_f, then_n, then_r, then_e, blk_n, blk_r, blk_e, Bool.false_eq_true, want_t, want_f, isT_b, isF_b, isT_u, isF_u, ldc_tail, retg_val, retg_same, List.length_cons, List.length_nil, Nat.reduceAdd, Nat.reduceLeDiff, Nat.reduceLT, List.drop_succ_cons, List.drop_zero, List.take_succ_cons, List.take_zero, T.cells?, fadT, Nat.zero_add, op, ef, cl, sq, evop, ev_r, ev_c, stB, updo_s, updo_n, upd_ap, regs0_0, regs0_1, regs0_2, regs0_3, regs0_4, reduceIte, Nat.reduceEqDiff, true_and, and_true, Option.map_some, Option.bind_some, binT, unT, lenT, natOf_nat, ldc1, val1, valA, endQ, resT, resL, resV, tupT, dlt, dle, deq, dne, List.map_cons, List.map_nil, decide_true, decide_false, strEq_eq, not_le, Bool.not_true, Bool.not_false, beq_self_eq_true, bne_self_eq_false, List.getElem?_cons_zero, List.getElem?_cons_succ, List.getElem?_nil, List.length_map, ret_val, T.bool.injEq, T.int.injEq, T.str.injEq, T.tup.injEq, h0, h3, encVs_len, hlt, iadV hv, ldV, ws]
    refine callB_of _ _ _ _ _ _ _ _ (one30 v H1 (hs.2 v (List.mem_of_getElem? hv))) ?_
    rintro u H2 ⟨hu, hH2⟩
    cases hu
    have hH := Ext.trans' hH1 hH2
    cases hm : may v
    · have : formed l = false := formed_f fun h => by
        have := ((h.2.2 i hlt) v hv).1; rw [hm] at this; cases this
      simp -implicitDefEqProofs only [b_nil, b_b, b_g, b_c, b_cg, step_s, grd_t, grd_f, grdc_t, grdc_f, c_skip, c_ops, norm_ap, Int.reduceLT, c_seq, c_cond, c_block, c_exit, c_ret, c_loop, c_range, cont_ap, cond_t, cond_f, then_n, then_r, then_e, blk_n, blk_r, blk_e, Bool.false_eq_true, want_t, want_f, isT_b, isF_b, isT_u, isF_u, ldc_tail, retg_val, retg_same, List.length_cons, List.length_nil, Nat.reduceAdd, Nat.reduceLeDiff, Nat.reduceLT, List.drop_succ_cons, List.drop_zero, List.take_succ_cons, List.take_zero, T.cells?, fadT, Nat.zero_add, op, ef, cl, sq, evop, ev_r, ev_c, stB, updo_s, updo_n, upd_ap, regs0_0, regs0_1, regs0_2, regs0_3, regs0_4, reduceIte, Nat.reduceEqDiff, true_and, and_true, Option.map_some, Option.bind_some, binT, unT, lenT, natOf_nat, ldc1, val1, valA, endQ, resT, resL, resV, tupT, dlt, dle, deq, dne, List.map_cons, List.map_nil, decide_true, decide_false, strEq_eq, not_le, Bool.not_true, Bool.not_false, beq_self_eq_true, bne_self_eq_false, List.getElem?_cons_zero, List.getElem?_cons_succ, List.getElem?_nil, List.length_map, ret_val, T.bool.injEq, T.int.injEq, T.str.injEq, T.tup.injEq, this, retg_mk hH]
    · simp -implicitDefEqProofs only [b_nil, b_b, b_g, b_c, b_cg, step_s, grd_t, grd_f, grdc_t, grdc_f, c_skip, c_ops, norm_ap, Int.reduceLT, c_seq, c_cond, c_block, c_exit, c_ret, c_loop, c_range, cont_ap, cond_t, cond_f, then_n, then_r, then_e, blk_n, blk_r, blk_e, Bool.false_eq_true, want_t, want_f, isT_b, isF_b, isT_u, isF_u, ldc_tail, retg_val, retg_same, List.length_cons, List.length_nil, Nat.reduceAdd, Nat.reduceLeDiff, Nat.reduceLT, List.drop_succ_cons, List.drop_zero, List.take_succ_cons, List.take_zero, T.cells?, fadT, Nat.zero_add, op, ef, cl, sq, evop, ev_r, ev_c, stB, updo_s, updo_n, upd_ap, regs0_0, regs0_1, regs0_2, regs0_3, regs0_4, reduceIte, Nat.reduceEqDiff, true_and, and_true, Option.map_some, Option.bind_some, binT, unT, lenT, natOf_nat, ldc1, val1, valA, endQ, resT, resL, resV, tupT, dlt, dle, deq, dne, List.map_cons, List.map_nil, decide_true, decide_false, strEq_eq, not_le, Bool.not_true, Bool.not_false, beq_self_eq_true, bne_self_eq_false, List.getElem?_cons_zero, List.getElem?_cons_succ, List.getElem?_nil, List.length_map, ret_val, T.bool.injEq, T.int.injEq, T.str.injEq, T.tup.injEq, h0, h3]
      refine W.loopI (fun (j : Nat) R H' => (∃ m, H' = H ++ m) ∧ R 0 = .sl k (encVs l) ∧ R 3 = .int .i64 i ∧ R 4 = .int .i64 j ∧ j ≤ i ∧ ∀ p u, p < j → l[p]? = some u → ok2 u v = true) (fun j => i - j) 0 ⟨hH, by simp -implicitDefEqProofs only [b_nil, b_b, b_g, b_c, b_cg, step_s, grd_t, grd_f, grdc_t, grdc_f, c_skip, c_ops, norm_ap, Int.reduceLT, c_seq, c_cond, c_block, c_exit, c_ret, c_loop, c_range, cont_ap, cond_t, cond_f, then_n, then_r, then_e, blk_n, blk_r, blk_e, Bool.false_eq_true, want_t, want_f, isT_b, isF_b, isT_u, isF_u, ldc_tail, retg_val, retg_same, List.length_cons, List.length_nil, Nat.reduceAdd, Nat.reduceLeDiff, Nat.reduceLT, List.drop_succ_cons, List.drop_zero, List.take_succ_cons, List.take_zero, T.cells?, fadT, Nat.zero_add, op, ef, cl, sq, evop, ev_r, ev_c, stB, updo_s, updo_n, upd_ap, regs0_0, regs0_1, regs0_2, regs0_3, regs0_4, reduceIte, Nat.reduceEqDiff, true_and, and_true, Option.map_some, Option.bind_some, binT, unT, lenT, natOf_nat, ldc1, val1, valA, endQ, resT, resL, resV, tupT, dlt, dle, deq, dne, List.map_cons, List.map_nil, decide_true, decide_false, strEq_eq, not_le, Bool.not_true, Bool.not_false, beq_self_eq_true, bne_self_eq_false, List.getElem?_cons_zero, List.getElem?_cons_succ, List.getElem?_nil, List.length_map, ret_val, T.bool.injEq, T.int.injEq, T.str.injEq, T.tup.injEq, h0], by simp -implicitDefEqProofs only [b_nil, b_b, b_g, b_c, b_cg, step_s, grd_t, grd_f, grdc_t, grdc_f, c_skip, c_ops, norm_ap, Int.reduceLT, c_seq, c_cond, c_block, c_exit, c_ret, c_loop, c_range, cont_ap, cond_t, cond_f, then_n, then_r, then_e, blk_n, blk_r, blk_e, Bool.false_eq_true, want_t, want_f, isT_b, isF_b, isT_u, isF_u, ldc_tail, retg_val, retg_same, List.length_cons, List.length_nil, Nat.reduceAdd, Nat.reduceLeDiff, Nat.reduceLT, List.drop_succ_cons, List.drop_zero, List.take_succ_cons, List.take_zero, T.cells?, fadT, Nat.zero_add, op, ef, cl, sq, evop, ev_r, ev_c, stB, updo_s, updo_n, upd_ap, regs0_0, regs0_1, regs0_2, regs0_3, regs0_4, reduceIte, Nat.reduceEqDiff, true_and, and_true, Option.map_some, Option.bind_some, binT, unT, lenT, natOf_nat, ldc1, val1, valA, endQ, resT, resL, resV, tupT, dlt, dle, deq, dne, List.map_cons, List.map_nil, decide_true, decide_false, strEq_eq, not_le, Bool.not_true, Bool.not_false, beq_self_eq_true, bne_self_eq_false, List.getElem?_cons_zero, List.getElem?_cons_succ, List.getElem?_nil, List.length_map, ret_val, T.bool.injEq, T.int.injEq, T.str.injEq, T.tup.injEq, h3], by simp -implicitDefEqProofs only [b_nil, b_b, b_g, b_c, b_cg, step_s, grd_t, grd_f, grdc_t, grdc_f, c_skip, c_ops, norm_ap, Int.reduceLT, c_seq, c_cond, c_block, c_exit, c_ret, c_loop, c_range, cont_ap, cond_t, cond_f, then_n, then_r, then_e, blk_n, blk_r, blk_e, Bool.false_eq_true, want_t, want_f, isT_b, isF_b, isT_u, isF_u, ldc_tail, retg_val, retg_same, List.length_cons, List.length_nil, Nat.reduceAdd, Nat.reduceLeDiff, Nat.reduceLT, List.drop_succ_cons, List.drop_zero, List.take_succ_cons, List.take_zero, T.cells?, fadT, Nat.zero_add, op, ef, cl, sq, evop, ev_r, ev_c, stB, updo_s, updo_n, upd_ap, regs0_0, regs0_1, regs0_2, regs0_3, regs0_4, reduceIte, Nat.reduceEqDiff, true_and, and_true, Option.map_some, Option.bind_some, binT, unT, lenT, natOf_nat, ldc1, val1, valA, endQ, resT, resL, resV, tupT, dlt, dle, deq, dne, List.map_cons, List.map_nil, decide_true, decide_false, strEq_eq, not_le, Bool.not_true, Bool.not_false, beq_self_eq_true, bne_self_eq_false, List.getElem?_cons_zero, List.getElem?_cons_succ, List.getElem?_nil, List.length_map, ret_val, T.bool.injEq, T.int.injEq, T.str.injEq, T.tup.injEq]; rfl, Nat.zero_le _, fun j u h => by omega⟩ ?_
      rintro j R H3 ⟨hH3, g0, g3, g4, hj, hgj⟩
      by_cases hji : j < i
      · obtain ⟨x, hx⟩ := getV (l := l) (i := j) (by omega)
        have wj := wrap_succ (show j < 9223372036854775807 by omega)
        have bad : ok2 x v = false → formed l = false := fun hb => formed_f fun h => by
          have := ((h.2.2 i hlt) v hv).2 j x hji hx; rw [hb] at this; cases this
        have next : ok2 x v = true → ∀ p u, p < j + 1 → l[p]? = some u → ok2 u v = true := fun hb p u hp hu => by
          by_cases e : p = j
          · subst e; rw [hx] at hu; cases hu; exact hb
          · exact hgj p u (by omega) hu
        by_cases hkey : x.key = v.key
        · have := bad (by simp [ok2, hkey])
          simp -implicitDefEqProofs only [b_nil, b_b, b_g, b_c, b_cg, step_s, grd_t, grd_f, grdc_t, grdc_f, c_skip, c_ops, norm_ap, Int.reduceLT, c_seq, c_cond, c_block, c_exit, c_ret, c_loop, c_range, cont_ap, cond_t, cond_f, then_n, then_r, then_e, blk_n, blk_r, blk_e, Bool.false_eq_true, want_t, want_f, isT_b, isF_b, isT_u, isF_u, ldc_tail, retg_val, retg_same, List.length_cons, List.length_nil, Nat.reduceAdd, Nat.reduceLeDiff, Nat.reduceLT, List.drop_succ_cons, List.drop_zero, List.take_succ_cons, List.take_zero, T.cells?, fadT, Nat.zero_add, op, ef, cl, sq, evop, ev_r, ev_c, stB, updo_s, updo_n, upd_ap, regs0_0, regs0_1, regs0_2, regs0_3, regs0_4, reduceIte, Nat.reduceEqDiff, true_and, and_true, Option.map_some, Option.bind_some, binT, unT, lenT, natOf_nat, ldc1, val1, valA, endQ, resT, resL, resV, tupT, dlt, dle, deq, dne, List.map_cons, List.map_nil, decide_true, decide_false, strEq_eq, not_le, Bool.not_true, Bool.not_false, beq_self_eq_true, bne_self_eq_false, List.getElem?_cons_zero, List.getElem?_cons_succ, List.getElem?_nil, List.length_map, ret_val, T.bool.injEq, T.int.injEq, T.str.injEq, T.tup.injEq, g0, g3, g4, hji, iadV hx, iadV hv, encV, ldcI, hkey, this, retg_mk hH3]
        · by_cases hid : x.id = v.id
          · simp -implicitDefEqProofs only [b_nil, b_b, b_g, b_c, b_cg, step_s, grd_t, grd_f, grdc_t, grdc_f, c_skip, c_ops, norm_ap, Int.reduceLT, c_seq, c_cond, c_block, c_exit, c_ret, c_loop, c_range, cont_ap, cond_t, cond_f, then_n, then_r, then_e, blk_n, blk_r, blk_e, Bool.false_eq_true, want_t, want_f, isT_b, isF_b, isT_u, isF_u, ldc_tail, retg_val, retg_same, List.length_cons, List.length_nil, Nat.reduceAdd, Nat.reduceLeDiff, Nat.reduceLT, List.drop_succ_cons, List.drop_zero, List.take_succ_cons, List.take_zero, T.cells?, fadT, Nat.zero_add, op, ef, cl, sq, evop, ev_r, ev_c, stB, updo_s, updo_n, upd_ap, regs0_0, regs0_1, regs0_2, regs0_3, regs0_4, reduceIte, Nat.reduceEqDiff, true_and, and_true, Option.map_some, Option.bind_some, binT, unT, lenT, natOf_nat, ldc1, val1, valA, endQ, resT, resL, resV, tupT, dlt, dle, deq, dne, List.map_cons, List.map_nil, decide_true, decide_false, strEq_eq, not_le, Bool.not_true, Bool.not_false, beq_self_eq_true, bne_self_eq_false, List.getElem?_cons_zero, List.getElem?_cons_succ, List.getElem?_nil, List.length_map, ret_val, T.bool.injEq, T.int.injEq, T.str.injEq, T.tup.injEq, g0, g3, g4, hji, iadV hx, iadV hv, encV, ldcI, hkey, hid]
            refine callB_of _ _ _ _ _ _ _ _ (eq31 x.kk v.kk x.keys v.keys _ (by have := hs.2 x (List.mem_of_getElem? hx); omega)) ?_
            rintro w H4 ⟨hw, rfl⟩
            cases hw
            by_cases hks : x.keys = v.keys
            · simp -implicitDefEqProofs only [b_nil, b_b, b_g, b_c, b_cg, step_s, grd_t, grd_f, grdc_t, grdc_f, c_skip, c_ops, norm_ap, Int.reduceLT, c_seq, c_cond, c_block, c_exit, c_ret, c_loop, c_range, cont_ap, cond_t, cond_f, then_n, then_r, then_e, blk_n, blk_r, blk_e, Bool.false_eq_true, want_t, want_f, isT_b, isF_b, isT_u, isF_u, ldc_tail, retg_val, retg_same, List.length_cons, List.length_nil, Nat.reduceAdd, Nat.reduceLeDiff, Nat.reduceLT, List.drop_succ_cons, List.drop_zero, List.take_succ_cons, List.take_zero, T.cells?, fadT, Nat.zero_add, op, ef, cl, sq, evop, ev_r, ev_c, stB, updo_s, updo_n, upd_ap, regs0_0, regs0_1, regs0_2, regs0_3, regs0_4, reduceIte, Nat.reduceEqDiff, true_and, and_true, Option.map_some, Option.bind_some, binT, unT, lenT, natOf_nat, ldc1, val1, valA, endQ, resT, resL, resV, tupT, dlt, dle, deq, dne, List.map_cons, List.map_nil, decide_true, decide_false, strEq_eq, not_le, Bool.not_true, Bool.not_false, beq_self_eq_true, bne_self_eq_false, List.getElem?_cons_zero, List.getElem?_cons_succ, List.getElem?_nil, List.length_map, ret_val, T.bool.injEq, T.int.injEq, T.str.injEq, T.tup.injEq, g0, g3, g4, hks, wj]
              exact ⟨j + 1, by omega, hH3, rfl, by omega, next (by simp [ok2, hkey, hks])⟩
            · have := bad (by simp [ok2, hid, hks])
              simp -implicitDefEqProofs only [b_nil, b_b, b_g, b_c, b_cg, step_s, grd_t, grd_f, grdc_t, grdc_f, c_skip, c_ops, norm_ap, Int.reduceLT, c_seq, c_cond, c_block, c_exit, c_ret, c_loop, c_range, cont_ap, cond_t, cond_f, then_n, then_r, then_e, blk_n, blk_r, blk_e, Bool.false_eq_true, want_t, want_f, isT_b, isF_b, isT_u, isF_u, ldc_tail, retg_val, retg_same, List.length_cons, List.length_nil, Nat.reduceAdd, Nat.reduceLeDiff, Nat.reduceLT, List.drop_succ_cons, List.drop_zero, List.take_succ_cons, List.take_zero, T.cells?, fadT, Nat.zero_add, op, ef, cl, sq, evop, ev_r, ev_c, stB, updo_s, updo_n, upd_ap, regs0_0, regs0_1, regs0_2, regs0_3, regs0_4, reduceIte, Nat.reduceEqDiff, true_and, and_true, Option.map_some, Option.bind_some, binT, unT, lenT, natOf_nat, ldc1, val1, valA, endQ, resT, resL, resV, tupT, dlt, dle, deq, dne, List.map_cons, List.map_nil, decide_true, decide_false, strEq_eq, not_le, Bool.not_true, Bool.not_false, beq_self_eq_true, bne_self_eq_false, List.getElem?_cons_zero, List.getElem?_cons_succ, List.getElem?_nil, List.length_map, ret_val, T.bool.injEq, T.int.injEq, T.str.injEq, T.tup.injEq, hks, this, retg_mk hH3]
          · simp -implicitDefEqProofs only [b_nil, b_b, b_g, b_c, b_cg, step_s, grd_t, grd_f, grdc_t, grdc_f, c_skip, c_ops, norm_ap, Int.reduceLT, c_seq, c_cond, c_block, c_exit, c_ret, c_loop, c_range, cont_ap, cond_t, cond_f, then_n, then_r, then_e, blk_n, blk_r, blk_e, Bool.false_eq_true, want_t, want_f, isT_b, isF_b, isT_u, isF_u, ldc_tail, retg_val, retg_same, List.length_cons, List.length_nil, Nat.reduceAdd, Nat.reduceLeDiff, Nat.reduceLT, List.drop_succ_cons, List.drop_zero, List.take_succ_cons, List.take_zero, T.cells?, fadT, Nat.zero_add, op, ef, cl, sq, evop, ev_r, ev_c, stB, updo_s, updo_n, upd_ap, regs0_0, regs0_1, regs0_2, regs0_3, regs0_4, reduceIte, Nat.reduceEqDiff, true_and, and_true, Option.map_some, Option.bind_some, binT, unT, lenT, natOf_nat, ldc1, val1, valA, endQ, resT, resL, resV, tupT, dlt, dle, deq, dne, List.map_cons, List.map_nil, decide_true, decide_false, strEq_eq, not_le, Bool.not_true, Bool.not_false, beq_self_eq_true, bne_self_eq_false, List.getElem?_cons_zero, List.getElem?_cons_succ, List.getElem?_nil, List.length_map, ret_val, T.bool.injEq, T.int.injEq, T.str.injEq, T.tup.injEq, g0, g3, g4, hji, iadV hx, iadV hv, encV, ldcI, hkey, hid, wj]
            exact ⟨j + 1, by omega, hH3, rfl, by omega, next (by simp [ok2, hkey, hid])⟩
      · simp -implicitDefEqProofs only [b_nil, b_b, b_g, b_c, b_cg, step_s, grd_t, grd_f, grdc_t, grdc_f, c_skip, c_ops, norm_ap, Int.reduceLT, c_seq, c_cond, c_block, c_exit, c_ret, c_loop, c_range, cont_ap, cond_t, cond_f, then_n, then_r, then_e, blk_n, blk_r, blk_e, Bool.false_eq_true, want_t, want_f, isT_b, isF_b, isT_u, isF_u, ldc_tail, retg_val, retg_same, List.length_cons, List.length_nil, Nat.reduceAdd, Nat.reduceLeDiff, Nat.reduceLT, List.drop_succ_cons, List.drop_zero, List.take_succ_cons, List.take_zero, T.cells?, fadT, Nat.zero_add, op, ef, cl, sq, evop, ev_r, ev_c, stB, updo_s, updo_n, upd_ap, regs0_0, regs0_1, regs0_2, regs0_3, regs0_4, reduceIte, Nat.reduceEqDiff, true_and, and_true, Option.map_some, Option.bind_some, binT, unT, lenT, natOf_nat, ldc1, val1, valA, endQ, resT, resL, resV, tupT, dlt, dle, deq, dne, List.map_cons, List.map_nil, decide_true, decide_false, strEq_eq, not_le, Bool.not_true, Bool.not_false, beq_self_eq_true, bne_self_eq_false, List.getElem?_cons_zero, List.getElem?_cons_succ, List.getElem?_nil, List.length_map, ret_val, T.bool.injEq, T.int.injEq, T.str.injEq, T.tup.injEq, g0, g3, g4, hji, ws]
        refine ⟨i + 1, by omega, hH3, rfl, by omega, fun p hp => ?_⟩
        by_cases e : p = i
        · subst e
          intro v' hv'
          rw [hv] at hv'; cases hv'
          exact ⟨hm, fun q u hq hu => hgj q u (by omega) hu⟩
        · exact hg p (by omega)
  · have : formed l = true := formed_t ⟨by omega, by omega, fun p hp => hg p (by omega)⟩
    simp -implicitDefEqProofs only [b_nil, b_b, b_g, b_c, b_cg, step_s, grd_t, grd_f, grdc_t, grdc_f, c_skip, c_ops, norm_ap, Int.reduceLT, c_seq, c_cond, c_block, c_exit, c_ret, c_loop, c_range, cont_ap, cond_t, cond_f, then_n, then_r, then_e, blk_n, blk_r, blk_e, Bool.false_eq_true, want_t, want_f, isT_b, isF_b, isT_u, isF_u, ldc_tail, retg_val, retg_same, List.length_cons, List.length_nil, Nat.reduceAdd, Nat.reduceLeDiff, Nat.reduceLT, List.drop_succ_cons, List.drop_zero, List.take_succ_cons, List.take_zero, T.cells?, fadT, Nat.zero_add, op, ef, cl, sq, evop, ev_r, ev_c, stB, updo_s, updo_n, upd_ap, regs0_0, regs0_1, regs0_2, regs0_3, regs0_4, reduceIte, Nat.reduceEqDiff, true_and, and_true, Option.map_some, Option.bind_some, binT, unT, lenT, natOf_nat, ldc1, val1, valA, endQ, resT, resL, resV, tupT, dlt, dle, deq, dne, List.map_cons, List.map_nil, decide_true, decide_false, strEq_eq, not_le, Bool.not_true, Bool.not_false, beq_self_eq_true, bne_self_eq_false, List.getElem?_cons_zero, List.getElem?_cons_succ, List.getElem?_nil, List.length_map, ret_val, T.bool.injEq, T.int.injEq, T.str.injEq, T.tup.injEq, h0, h3, encVs_len, hlt, this, retg_mk hH1]
end Go.Proofs.Ytobnjpgggocdlaa.Fx
end

/-! text FixF -/
section
namespace Go.Proofs.Ytobnjpgggocdlaa.Fx
open Go.Rmp Go.Proofs.Ytobnjpgggocdlaa.Ir
set_option maxRecDepth 10000
/-- keys seen among the first i: each once -/
def KsOk (l : List Ver) (i : Nat) (ks : List (ByteArray × T)) : Prop := ∀ k, (k ∈ (l.take i).map Ver.key → mlook ks k = some (T.int .i64 1)) ∧ (k ∉ (l.take i).map Ver.key → mlook ks k = Option.none)
/-- the writes seen among the first i: each with a place -/
def WsOk (l : List Ver) (i : Nat) (ws : List (Nat × T)) : Prop := ∀ id, match mlook ws id with
  | .none => id ∉ (l.take i).map Ver.id
  | some t => ∃ p v, p < i ∧ l[p]? = some v ∧ v.id = id ∧ t = .int .i64 (p : Int)
theorem take_snoc {l : List Ver} {i : Nat} {v : Ver} (h : l[i]? = some v) : l.take (i + 1) = l.take i ++ [v] := by
  rw [List.take_add_one, h]; rfl
theorem mem_take {l : List Ver} {i : Nat} {v : Ver} (h : v ∈ l.take i) : ∃ j, j < i ∧ l[j]? = some v := by
  obtain ⟨j, hj, e⟩ := List.getElem_of_mem h
  simp at hj e
  exact ⟨j, by omega, by rw [List.getElem?_eq_getElem (by omega), e]⟩
theorem take_mem {l : List Ver} {i j : Nat} {v : Ver} (hj : j < i) (h : l[j]? = some v) : v ∈ l.take i := by
  rw [List.mem_iff_getElem?]; exact ⟨j, by rw [List.getElem?_take, if_pos hj, h]⟩
theorem formed12 (k : SK) (l : List Ver) (H : Heap) (hs : Small l) : W env (.call 12 [.sl k (encVs l)]) H (RetG (.bool (formed l)) H) := by
  refine W.fnI rfl rfl rfl ?_
  simp -implicitDefEqProofs only [ir12, op, ef, cl, sq, reduceIte, Int.reduceLT, Int.reduceLE, Int.reduceBEq, Int.reduceBNe, Int.reduceEq, Nat.reduceAdd, Nat.reduceLeDiff, Nat.reduceLT, Nat.reduceEqDiff, S1, encVs_len]
  by_cases hn1 : l.length < 1
  · have : formed l = false := formed_f fun h => by have := h.1; omega
    simp -implicitDefEqProofs only [op, ef, cl, sq, reduceIte, Int.reduceLT, Int.reduceLE, Int.reduceBEq, Int.reduceBNe, Int.reduceEq, Nat.reduceAdd, Nat.reduceLeDiff, Nat.reduceLT, Nat.reduceEqDiff, S1, hn1, this]
  by_cases hn2 : 1024 < l.length
  · have : formed l = false := formed_f fun h => by have := h.2.1; omega
    simp -implicitDefEqProofs only [op, ef, cl, sq, reduceIte, Int.reduceLT, Int.reduceLE, Int.reduceBEq, Int.reduceBNe, Int.reduceEq, Nat.reduceAdd, Nat.reduceLeDiff, Nat.reduceLT, Nat.reduceEqDiff, S1, encVs_len, hn1, hn2, this]
  simp -implicitDefEqProofs only [op, ef, cl, sq, reduceIte, Int.reduceLT, Int.reduceLE, Int.reduceBEq, Int.reduceBNe, Int.reduceEq, Nat.reduceAdd, Nat.reduceLeDiff, Nat.reduceLT, Nat.reduceEqDiff, S1, encVs_len, hn1, hn2]
  refine W.loopI (fun (i : Nat) R H' => (∃ ks ws, Ext H H' ∧ H'[H.length]? = some (.map (encK T.str ks)) ∧ H'[H.length + 1]? = some (.map (encK kU ws)) ∧ KsOk l i ks ∧ WsOk l i ws) ∧ R 0 = .sl k (encVs l) ∧ R 3 = .map H.length ∧ R 4 = .map (H.length + 1) ∧ R 19 = .sl k (encVs l) ∧ R 20 = .int .i64 l.length ∧ R 21 = .int .i64 i ∧ i ≤ l.length ∧ ∀ j, j < i → Good l j) (fun i => l.length - i) 0 ?_ ?_
  · refine ⟨⟨[], [], (Ext.rfl'.app _).app _, by simp [encK], by simp [encK], ?_, ?_⟩, rfl, rfl, ?_, rfl, ?_, rfl, Nat.zero_le _, fun j h => by omega⟩
    · intro k; simp [mlook_nil]
    · intro k; simp [mlook_nil]
    · simp -implicitDefEqProofs only [op, ef, cl, sq, reduceIte, Int.reduceLT, Int.reduceLE, Int.reduceBEq, Int.reduceBNe, Int.reduceEq, Nat.reduceAdd, Nat.reduceLeDiff, Nat.reduceLT, Nat.reduceEqDiff, S1]; simp
    · simp -implicitDefEqProofs only [op, ef, cl, sq, reduceIte, Int.reduceLT, Int.reduceLE, Int.reduceBEq, Int.reduceBNe, Int.reduceEq, Nat.reduceAdd, Nat.reduceLeDiff, Nat.reduceLT, Nat.reduceEqDiff, S1, encVs_len]
  · rintro i R H1 ⟨⟨ks, ws, hx, hb3, hb4, hks, hws⟩, h0, h3, h4, h19, h20, h21, hi, hg⟩
    have l3 := glt hb3
    have l4 := glt hb4
    by_cases hlt : i < l.length
    · obtain ⟨v, hv⟩ := getV hlt
      have wsi := wrap_succ (show i < 9223372036854775807 by omega)
      have n34 : H.length ≠ H.length + 1 := by omega
      have n1 : H1.length ≠ H.length := by omega
      have n2 : H1.length ≠ H.length + 1 := by omega
      have n3 : H1.length ≠ H.length := by omega
      have hvs := hs.2 v (List.mem_of_getElem? hv)
      have bad : ¬ Good l i → formed l = false := fun hb => formed_f fun h => hb (h.2.2 i hlt)
      by_cases hsk : v.key ∈ (l.take i).map Ver.key
      · have hno : formed l = false := bad fun hgi => by
          obtain ⟨u, hu, hku⟩ := List.mem_map.1 hsk
          obtain ⟨j, hj, hju⟩ := mem_take hu
          have := (hgi v hv).2 j u hj hju
          simp [ok2, hku] at this
        have w1 : IntKind.i64.wrap ((1 : Int) + 1) = 2 := by decide
        simp -implicitDefEqProofs only [op, ef, cl, sq, reduceIte, Int.reduceLT, Int.reduceLE, Int.reduceBEq, Int.reduceBNe, Int.reduceEq, Nat.reduceAdd, Nat.reduceLeDiff, Nat.reduceLT, Nat.reduceEqDiff, S1, S2, h0, h3, h4, h19, h20, h21, encVs_len, hlt, iadV hv, encV, l3, l4, hb3, hb4, n34, (hks v.key).1 hsk, w1]
        refine callB_of _ _ _ _ _ _ _ _ (may28 v _ hvs) ?_
        rintro u H2 ⟨hu, hx2⟩
        cases hu
        have hx2 : Ext _ H2 := hx2
        have hxx : Ext H H2 := ((hx.set (Nat.le_refl _) _).app _).trans hx2
        cases hm : may v
        · simp -implicitDefEqProofs only [op, ef, cl, sq, reduceIte, Int.reduceLT, Int.reduceLE, Int.reduceBEq, Int.reduceBNe, Int.reduceEq, Nat.reduceAdd, Nat.reduceLeDiff, Nat.reduceLT, Nat.reduceEqDiff, S1, hno, retg_ext hxx]
        · have g3 : H2[H.length]? = some (.map (encK T.str (mput ks v.key (.int .i64 2)))) := hx2.get (by simp -implicitDefEqProofs only [S2, l3])
          have gc : H2[H1.length]? = some (.cells (encV v)) := hx2.get (by simp [encV])
          simp -implicitDefEqProofs only [op, ef, cl, sq, reduceIte, Int.reduceLT, Int.reduceLE, Int.reduceBEq, Int.reduceBNe, Int.reduceEq, Nat.reduceAdd, Nat.reduceLeDiff, Nat.reduceLT, Nat.reduceEqDiff, S1, hno, retg_ext hxx, g3, gc, encV, h3, mlook_put]
      · have w1 : IntKind.i64.wrap ((0 : Int) + 1) = 1 := by decide
        simp -implicitDefEqProofs only [op, ef, cl, sq, reduceIte, Int.reduceLT, Int.reduceLE, Int.reduceBEq, Int.reduceBNe, Int.reduceEq, Nat.reduceAdd, Nat.reduceLeDiff, Nat.reduceLT, Nat.reduceEqDiff, S1, S2, h0, h3, h4, h19, h20, h21, encVs_len, hlt, iadV hv, encV, l3, l4, hb3, hb4, n34, (hks v.key).2 hsk, w1]
        refine callB_of _ _ _ _ _ _ _ _ (may28 v _ hvs) ?_
        rintro u H2 ⟨hu, hx2⟩
        cases hu
        have hx2 : Ext _ H2 := hx2
        have hxx : Ext H H2 := ((hx.set (Nat.le_refl _) _).app _).trans hx2
        cases hm : may v
        · have hno : formed l = false := bad fun hgi => by
            have := (hgi v hv).1; rw [hm] at this; cases this
          simp -implicitDefEqProofs only [op, ef, cl, sq, reduceIte, Int.reduceLT, Int.reduceLE, Int.reduceBEq, Int.reduceBNe, Int.reduceEq, Nat.reduceAdd, Nat.reduceLeDiff, Nat.reduceLT, Nat.reduceEqDiff, S1, hno, retg_ext hxx]
        · have g3 : H2[H.length]? = some (.map (encK T.str (mput ks v.key (.int .i64 1)))) := hx2.get (by simp -implicitDefEqProofs only [S2, l3])
          have g4 : H2[H.length + 1]? = some (.map (encK kU ws)) := hx2.get (by simp -implicitDefEqProofs only [S2, l3, l4, hb4, ne_eq, n34, not_false_eq_true])
          have gc : H2[H1.length]? = some (.cells (encV v)) := hx2.get (by simp [encV])
          have m4 := glt g4
          have hks' : KsOk l (i + 1) (mput ks v.key (.int .i64 1)) := fun k => by
            rw [mlook_put, take_snoc hv]
            by_cases e : k = v.key
            · simp [e]
            · have := hks k
              simp -implicitDefEqProofs only [e, if_false, List.map_append, List.map_cons, List.map_nil, List.mem_append, List.mem_singleton, or_false]
              exact this
          have hkk : ∀ j u, j < i → l[j]? = some u → u.key ≠ v.key := fun j u hj hu e => hsk (e ▸ List.mem_map_of_mem (take_mem hj hu))
          have hw := hws v.id
          cases hl : mlook ws v.id with
          | none =>
            rw [hl] at hw
            simp -implicitDefEqProofs only [op, ef, cl, sq, reduceIte, Int.reduceLT, Int.reduceLE, Int.reduceBEq, Int.reduceBNe, Int.reduceEq, Nat.reduceAdd, Nat.reduceLeDiff, Nat.reduceLT, Nat.reduceEqDiff, S1, S2, g3, g4, gc, encV, h0, h3, h4, h19, h20, h21, mlook_put, hl, m4, wsi]
            refine ⟨i + 1, by omega, ⟨_, _, hxx.set (by omega) _, by rw [g_ne (by omega)]; exact g3, rfl, hks', ?_⟩, rfl, by omega, ?_⟩
            · intro id
              rw [mlook_put, take_snoc hv]
              by_cases e : id = v.id
              · subst e; simp -implicitDefEqProofs only [if_true]; exact ⟨i, v, by omega, hv, rfl, rfl⟩
              · have := hws id
                simp -implicitDefEqProofs only [e, if_false]
                cases hl' : mlook ws id with
                | none => rw [hl'] at this; simp [e]; simpa using this
                | some t => rw [hl'] at this; obtain ⟨p, u, hp, hu, he⟩ := this; exact ⟨p, u, by omega, hu, he⟩
            · intro j hj
              by_cases e : j = i
              · subst e; intro v' hv'; rw [hv] at hv'; cases hv'
                refine ⟨hm, fun q u hq hu => ?_⟩
                have a1 : u.id ≠ v.id := fun e => hw (e ▸ List.mem_map_of_mem (take_mem hq hu))
                simp [ok2, hkk q u hq hu, a1]
              · exact hg j (by omega)
          | some t =>
            rw [hl] at hw
            obtain ⟨p, u, hp, hu, he, rfl⟩ := hw
            simp -implicitDefEqProofs only [op, ef, cl, sq, reduceIte, Int.reduceLT, Int.reduceLE, Int.reduceBEq, Int.reduceBNe, Int.reduceEq, Nat.reduceAdd, Nat.reduceLeDiff, Nat.reduceLT, Nat.reduceEqDiff, S1, S2, g3, g4, gc, encV, h0, h3, h4, h19, h20, h21, mlook_put, hl, m4, wsi, iadV hu]
            refine callB_of _ _ _ _ _ _ _ _ (eq29 u.kk v.kk u.keys v.keys _ (by have := hs.2 u (List.mem_of_getElem? hu); omega)) ?_
            rintro w H4 ⟨hw, rfl⟩
            cases hw
            by_cases hks2 : u.keys = v.keys
            · simp -implicitDefEqProofs only [op, ef, cl, sq, reduceIte, Int.reduceLT, Int.reduceLE, Int.reduceBEq, Int.reduceBNe, Int.reduceEq, Nat.reduceAdd, Nat.reduceLeDiff, Nat.reduceLT, Nat.reduceEqDiff, S1, S2, g3, g4, gc, encV, h0, h3, h4, h19, h20, h21, hks2, wsi]
              refine ⟨i + 1, by omega, ⟨_, _, hxx, rfl, rfl, hks', ?_⟩, rfl, by omega, ?_⟩
              · intro id
                have := hws id
                cases hl' : mlook ws id with
                | none => rw [hl'] at this; rw [take_snoc hv]; simp; simp at this; refine ⟨this, ?_⟩; rintro rfl; rw [hl] at hl'; cases hl'
                | some t => rw [hl'] at this; obtain ⟨p, u, hp, hu, he⟩ := this; exact ⟨p, u, by omega, hu, he⟩
              · intro j hj
                by_cases e : j = i
                · subst e; intro v' hv'; rw [hv] at hv'; cases hv'
                  refine ⟨hm, fun q x hq hx => ?_⟩
                  by_cases a1 : x.id = v.id
                  · have a2 : x.keys = u.keys := by
                      by_cases e2 : q = p
                      · subst e2; rw [hu] at hx; cases hx; rfl
                      · rcases Nat.lt_or_gt_of_ne e2 with h | h
                        · have := (hg p hp u hu).2 q x h hx
                          simp [ok2, he, a1] at this; exact this.2
                        · have := (hg q hq x hx).2 p u h hu
                          simp [ok2, he, a1] at this; exact this.2.symm
                    simp [ok2, hkk q x hq hx, a1, a2, hks2]
                  · simp [ok2, hkk q x hq hx, a1]
                · exact hg j (by omega)
            · have hno : formed l = false := bad fun hgi => by
                have := (hgi v hv).2 p u hp hu
                simp [ok2, he, hks2] at this
              simp -implicitDefEqProofs only [op, ef, cl, sq, reduceIte, Int.reduceLT, Int.reduceLE, Int.reduceBEq, Int.reduceBNe, Int.reduceEq, Nat.reduceAdd, Nat.reduceLeDiff, Nat.reduceLT, Nat.reduceEqDiff, S1, hno, hks2, retg_ext hxx]
    · have : formed l = true := formed_t ⟨by omega, by omega, fun p hp => hg p (by omega)⟩
      simp -implicitDefEqProofs only [op, ef, cl, sq, reduceIte, Int.reduceLT, Int.reduceLE, Int.reduceBEq, Int.reduceBNe, Int.reduceEq, Nat.reduceAdd, Nat.reduceLeDiff, Nat.reduceLT, Nat.reduceEqDiff, S1, h0, h3, h4, h19, h20, h21, encVs_len, hlt, this, retg_ext hx]
end Go.Proofs.Ytobnjpgggocdlaa.Fx
end
