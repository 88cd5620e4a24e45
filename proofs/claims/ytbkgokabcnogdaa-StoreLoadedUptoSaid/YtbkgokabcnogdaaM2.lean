/- Part of a proof of a law of this seat: the machine of plain values, its simulation, and the contracts of the functions that the law reaches. Conditions: none beyond the given row. -/
import Derived.Test.YtbkgokabcnogdaaM1
import Derived.Laws.Strings
import Derived.Test.YtbkgokabcnogdaaProg
import Derived.KernelRfl
set_option linter.unusedSimpArgs false
set_option linter.unusedVariables false
set_option linter.unnecessarySimpa false
set_option maxHeartbeats 4000000
section
namespace Go.Rmp
def Ret (v : T) (H : Heap) : Out → Heap → Prop := fun o H' => o = .val v ∧ H' = H
theorem ret_val (v v' : T) (H H' : Heap) : Ret v H (.val v') H' = (v' = v ∧ H' = H) := by simp [Ret]
theorem regs0_1 (a b : T) (l : List T) : regs0 (a :: b :: l) 1 = b := rfl
theorem regs0_2 (a b c : T) (l : List T) : regs0 (a :: b :: c :: l) 2 = c := rfl
theorem regs0_3 (a b c d : T) (l : List T) : regs0 (a :: b :: c :: d :: l) 3 = d := rfl
theorem regs0_4 (a b c d e : T) (l : List T) : regs0 (a :: b :: c :: d :: e :: l) 4 = e := rfl
def RetG (v : T) (H : Heap) : Out → Heap → Prop := fun o H' => o = .val v ∧ ∃ l, H' = H ++ l
theorem retg_val (v v' : T) (H l : Heap) : RetG v H (.val v') (H ++ l) = (v' = v) := by simp [RetG]
theorem retg_same (v v' : T) (H : Heap) : RetG v H (.val v') H = (v' = v) := by
  simp only [RetG, Out.val.injEq, eq_iff_iff]
  exact ⟨fun h => h.1, fun h => ⟨h, [], by simp⟩⟩
theorem natOf_nat (k : IntKind) (n : Nat) : natOf (.int k (n : Int)) = some n := by simp [natOf]
theorem wrap64 {n : Int} (h : -9223372036854775808 ≤ n ∧ n < 9223372036854775808) : IntKind.i64.wrap n = n := by
  unfold IntKind.wrap
  simp only [IntKind.signed, IntKind.bits]
  simp
  omega
theorem wrapu64 {n : Int} (h : 0 ≤ n ∧ n < 18446744073709551616) : IntKind.u64.wrap n = n := by
  unfold IntKind.wrap
  simp only [IntKind.signed, IntKind.bits]
  simp
  omega
theorem wrap_succ {i : Nat} (h : i < 9223372036854775807) : IntKind.i64.wrap ((i : Int) + 1) = ((i + 1 : Nat) : Int) := by rw [wrap64 (by omega)]; simp
theorem wrap_pred {i : Nat} (h : i < 9223372036854775807) (h1 : 1 ≤ i) : IntKind.i64.wrap ((i : Int) - 1) = ((i - 1 : Nat) : Int) := by rw [wrap64 (by omega)]; omega
theorem ldc1 (H : Heap) (v : T) : ldc H 1 (.iptr [v]) = some [v] := rfl
theorem val1 (v : T) : valOf false [v] = some v := rfl
theorem valA (cs : List T) : valOf true cs = some (.agg cs) := rfl
theorem dlt (a b : Nat) : decide ((a : Int) < (b : Int)) = decide (a < b) := by simp
theorem dle (a b : Nat) : decide ((a : Int) ≤ (b : Int)) = decide (a ≤ b) := by simp
theorem deq (a b : Nat) : ((a : Int) == (b : Int)) = decide (a = b) := by rw [Bool.eq_iff_iff]; simp; omega
theorem dne (a b : Nat) : ((a : Int) != (b : Int)) = !decide (a = b) := by rw [Bool.eq_iff_iff]; simp; omega
end Go.Rmp
end

section
namespace Go.Rmp
theorem bl_irr : ∀ (a : List UInt8), Op.bytesLess a a = false
  | [] => rfl
  | x :: a => by simp [Op.bytesLess, bl_irr a]
theorem bl_trans : ∀ (a b c : List UInt8), Op.bytesLess a b = true → Op.bytesLess b c = true → Op.bytesLess a c = true
  | _, [], _, h, _ => by cases ‹List UInt8› <;> simp [Op.bytesLess] at h
  | _, _ :: _, [], _, h => by simp [Op.bytesLess] at h
  | [], _ :: _, _ :: _, _, _ => rfl
  | x :: a, y :: b, z :: c, h1, h2 => by
    simp only [Op.bytesLess, Bool.or_eq_true, decide_eq_true_eq, Bool.and_eq_true, beq_iff_eq] at h1 h2 ⊢
    rcases h1 with h1 | ⟨rfl, h1⟩
    · rcases h2 with h2 | ⟨rfl, h2⟩
      · exact .inl (UInt8.lt_trans h1 h2)
      · exact .inl h1
    · rcases h2 with h2 | ⟨rfl, h2⟩
      · exact .inl h2
      · exact .inr ⟨rfl, bl_trans a b c h1 h2⟩
theorem bl_tri : ∀ (a b : List UInt8), Op.bytesLess a b = false → Op.bytesLess b a = false → a = b
  | [], [], _, _ => rfl
  | [], _ :: _, h, _ => by simp [Op.bytesLess] at h
  | _ :: _, [], _, h => by simp [Op.bytesLess] at h
  | x :: a, y :: b, h1, h2 => by
    simp only [Op.bytesLess, Bool.or_eq_false_iff, decide_eq_false_iff_not, Bool.and_eq_false_iff, beq_eq_false_iff_ne] at h1 h2
    have e : x = y := by
      have a1 := h1.1; have a2 := h2.1
      exact UInt8.le_antisymm (UInt8.not_lt.1 a2) (UInt8.not_lt.1 a1)
    subst e
    rw [bl_tri a b (h1.2.resolve_left (fun h => h rfl)) (h2.2.resolve_left (fun h => h rfl))]
theorem toList_inj {a b : ByteArray} (h : a.toList = b.toList) : a = b := by
  have e : ∀ c : ByteArray, c.toList = c.data.toList := fun c => Go.ByteArray.toList_eq c
  rw [e, e] at h
  cases a; cases b
  simp only [ByteArray.mk.injEq]
  exact Array.toList_inj.1 h
theorem strEq_eq (a b : ByteArray) : strEq a b = decide (a = b) := by
  unfold strEq
  rw [Bool.eq_iff_iff]
  simp only [beq_iff_eq, decide_eq_true_eq]
  exact ⟨toList_inj, fun h => by rw [h]⟩
theorem lt_irr (a : ByteArray) : strLt a a = false := bl_irr _
theorem lt_trans' {a b c : ByteArray} (h1 : strLt a b = true) (h2 : strLt b c = true) : strLt a c = true := bl_trans _ _ _ h1 h2
theorem lt_tri {a b : ByteArray} (h1 : strLt a b = false) (h2 : strLt b a = false) : a = b := toList_inj (bl_tri _ _ h1 h2)
theorem lt_asymm {a b : ByteArray} (h : strLt a b = true) : strLt b a = false := by
  cases e : strLt b a with
  | false => rfl
  | true => have := lt_trans' h e; rw [lt_irr] at this; cases this
theorem not_le (a b : ByteArray) : (!(strLt b a || strEq b a)) = strLt a b := by
  cases h : strLt a b with
  | true =>
    have h1 := lt_asymm h
    have h2 : strEq b a = false := by rw [strEq_eq]; simp; rintro rfl; rw [lt_irr] at h; cases h
    simp [h1, h2]
  | false =>
    cases h1 : strLt b a with
    | true => simp
    | false => have := lt_tri h h1; subst this; simp [strEq_eq]
end Go.Rmp
end

section
namespace Go.Rmp
def At (H : Heap) (P : Heap → Prop) : Prop := P H
theorem At.i {H : Heap} {P : Heap → Prop} (h : P H) : At H P := h
def Ext (H H' : Heap) : Prop := ∃ m, H' = H ++ m
theorem Ext.rfl' {H : Heap} : Ext H H := ⟨[], by simp⟩
theorem Ext.trans {H H' H'' : Heap} (h : Ext H H') (h' : Ext H' H'') : Ext H H'' := by
  obtain ⟨a, rfl⟩ := h; obtain ⟨b, rfl⟩ := h'; exact ⟨a ++ b, by simp⟩
theorem Ext.app {H H' : Heap} (h : Ext H H') (l : Heap) : Ext H (H' ++ l) := h.trans ⟨l, rfl⟩
theorem Ext.set {H H' : Heap} (h : Ext H H') {b : Nat} (hb : H.length ≤ b) (x : B) : Ext H (H'.set b x) := by
  obtain ⟨m, rfl⟩ := h
  exact ⟨m.set (b - H.length) x, by rw [List.set_append_right _ _ hb]⟩
theorem Ext.get {H H' : Heap} (h : Ext H H') {b : Nat} {x : B} (hx : H[b]? = some x) : H'[b]? = some x := by
  obtain ⟨m, rfl⟩ := h
  have := (List.getElem?_eq_some_iff.1 hx).1
  rw [List.getElem?_append_left this]; exact hx
theorem Ext.len {H H' : Heap} (h : Ext H H') : H.length ≤ H'.length := by obtain ⟨m, rfl⟩ := h; simp
theorem glt {H : Heap} {b : Nat} {x : B} (hx : H[b]? = some x) : b < H.length := (List.getElem?_eq_some_iff.1 hx).1
theorem retg_ext {v v' : T} {H H' : Heap} (h : Ext H H') : RetG v H (.val v') H' = (v' = v) := by
  simp only [RetG, Out.val.injEq, eq_iff_iff]; exact ⟨fun x => x.1, fun x => ⟨x, h⟩⟩
theorem g_tail {H l : Heap} {x : B} {b : Nat} (h : b = H.length) : (H ++ x :: l)[b]? = some x := by subst h; simp
theorem g_app {H l : Heap} {b : Nat} (h : b < H.length) : (H ++ l)[b]? = H[b]? := by rw [List.getElem?_append_left h]
theorem g_eq {H : Heap} {x : B} {b : Nat} (h : b < H.length) : (H.set b x)[b]? = some x := by simp [h]
theorem g_ne {H : Heap} {x : B} {b c : Nat} (h : b ≠ c) : (H.set b x)[c]? = H[c]? := by simp [h]
theorem s_tail {H l : Heap} {x y : B} {b : Nat} (h : b = H.length) : (H ++ x :: l).set b y = H ++ y :: l := by subst h; simp
theorem s_app {H l : Heap} {x : B} {b : Nat} (h : b < H.length) : (H ++ l).set b x = H.set b x ++ l := by rw [List.set_append_left _ _ h]
theorem l_app {H l : Heap} {b : Nat} (h : b < H.length) : (b < (H ++ l).length) = True := by simp; omega
theorem l_set {H : Heap} {x : B} {b c : Nat} : (b < (H.set c x).length) = (b < H.length) := by simp
theorem e_set {H : Heap} {x : B} {b c : Nat} : (b = (H.set c x).length) = (b = H.length) := by simp
def ldcB (n off : Nat) : Option B → Option (List T)
  | some (.cells cs) => if off + n ≤ cs.length then some ((cs.drop off).take n) else none
  | _ => none
theorem ldc_ptr (H : Heap) (n b off : Nat) : ldc H n (.ptr b off) = ldcB n off H[b]? := by
  simp only [ldc, ldcB]; rfl
theorem ldc_iptr (H : Heap) (n : Nat) (cs : List T) : ldc H n (.iptr cs) = if n ≤ cs.length then some (cs.take n) else none := rfl
theorem ldcB_c (n off : Nat) (cs : List T) : ldcB n off (some (.cells cs)) = if off + n ≤ cs.length then some ((cs.drop off).take n) else none := rfl
def stcB (H : Heap) (b : Nat) (vs : List T) (off : Nat) : Option B → Option Heap
  | some (.cells cs) => if off + vs.length ≤ cs.length then some (H.set b (.cells (cs.take off ++ vs ++ cs.drop (off + vs.length)))) else none
  | _ => none
theorem stc_ptr (H : Heap) (vs : List T) (b off : Nat) : stc H vs (.ptr b off) = stcB H b vs off H[b]? := by
  simp only [stc, stcB]; rfl
theorem stcB_c (H : Heap) (b : Nat) (vs : List T) (off : Nat) (cs : List T) : stcB H b vs off (some (.cells cs)) = if off + vs.length ≤ cs.length then some (H.set b (.cells (cs.take off ++ vs ++ cs.drop (off + vs.length)))) else none := rfl
theorem hset_tail (H l : Heap) (x y : B) : (H ++ x :: l).set H.length y = H ++ y :: l := s_tail rfl
theorem fad_ptr (off b o : Nat) : fadT off (.ptr b o) = some (.ptr b (o + off)) := rfl
def exitQ (id : Nat) (P : Regs → Heap → Prop) (Q : Out → Heap → Prop) : Out → Heap → Prop
  | .ex (.exit i) R, H => if i = id then P R H else Q (.ex (.exit i) R) H
  | o, H => Q o H
theorem ex_n (id : Nat) (P : Regs → Heap → Prop) (Q : Out → Heap → Prop) (R : Regs) (H : Heap) : exitQ id P Q (.ex .normal R) H = Q (.ex .normal R) H := rfl
theorem ex_r (id : Nat) (P : Regs → Heap → Prop) (Q : Out → Heap → Prop) (R : Regs) (H : Heap) : exitQ id P Q (.ex .ret R) H = Q (.ex .ret R) H := rfl
theorem ex_e (id i : Nat) (P : Regs → Heap → Prop) (Q : Out → Heap → Prop) (R : Regs) (H : Heap) : exitQ id P Q (.ex (.exit i) R) H = if i = id then P R H else Q (.ex (.exit i) R) H := rfl
theorem W.loopE {E : Env} {α : Type} {a : C} {R : Regs} {H : Heap} {Q : Out → Heap → Prop} (id : Nat) (I : α → Regs → Heap → Prop) (μ : α → Nat) (x : α) (P : Regs → Heap → Prop) (h0 : I x R H)
    (step : ∀ x R H, I x R H → wpC E a R H (thenQ (fun R' H' => ∃ y, μ y < μ x ∧ I y R' H') (exitQ id P Q))) (rest : ∀ R H, P R H → Q (.ex (.exit id) R) H) : W E (.code (.loop a) R) H Q :=
  W.use (W.loopI I μ x h0 step) fun o H' h => by
    cases o with
    | ex e R' => cases e with
      | exit i => simp only [exitQ] at h; split at h; rename_i e; subst e; exact rest _ _ h; exact h
      | normal => exact h
      | ret => exact h
    | val v => exact h
def mlook {α β : Type} [DecidableEq α] (es : List (α × β)) (k : α) : Option β := (es.find? fun e => decide (k = e.1)).map (·.2)
def mput {α β : Type} [DecidableEq α] (es : List (α × β)) (k : α) (v : β) : List (α × β) :=
  match es.findIdx? fun e => decide (k = e.1) with
  | some i => es.set i (k, v)
  | none => es ++ [(k, v)]
def mcut {α β : Type} [DecidableEq α] (es : List (α × β)) (k : α) : List (α × β) :=
  match es.findIdx? fun e => decide (k = e.1) with
  | some i => es.eraseIdx i
  | none => es
section
variable {α β : Type} [DecidableEq α]
theorem mlook_nil (k : α) : mlook ([] : List (α × β)) k = none := rfl
theorem mlook_cons (e : α × β) (es : List (α × β)) (k : α) : mlook (e :: es) k = if k = e.1 then some e.2 else mlook es k := by
  unfold mlook; rw [List.find?_cons]; by_cases h : k = e.1 <;> simp [h]
theorem mput_nil (k : α) (v : β) : mput [] k v = [(k, v)] := rfl
theorem mput_cons (e : α × β) (es : List (α × β)) (k : α) (v : β) : mput (e :: es) k v = if k = e.1 then (k, v) :: es else e :: mput es k v := by
  unfold mput; rw [List.findIdx?_cons]
  by_cases h : k = e.1
  · simp [h]
  · simp only [h, decide_false, if_false, Bool.false_eq_true]
    cases List.findIdx? (fun e => decide (k = e.1)) es <;> simp
theorem mlook_put (es : List (α × β)) (k k' : α) (v : β) : mlook (mput es k v) k' = if k' = k then some v else mlook es k' := by
  induction es with
  | nil => rw [mput_nil, mlook_cons]
  | cons e es ih =>
    rw [mput_cons]
    by_cases h : k = e.1
    · simp only [h, if_true, mlook_cons]; by_cases h' : k' = e.1 <;> simp [h']
    · simp only [h, if_false, mlook_cons, ih]
      by_cases h' : k' = e.1
      · subst h'; simp [Ne.symm h]
      · simp [h']
theorem mlook_idx (es : List (α × β)) (k : α) : mlook es k = match es.findIdx? fun e => decide (k = e.1) with
    | some i => (es[i]?).map (·.2)
    | none => none := by
  induction es with
  | nil => rfl
  | cons e es ih =>
    rw [mlook_cons, List.findIdx?_cons]
    by_cases h : k = e.1
    · simp [h]
    · simp only [h, if_false, decide_false, Bool.false_eq_true, ih]
      cases List.findIdx? (fun e => decide (k = e.1)) es <;> simp
theorem idx_some {es : List (α × β)} {k : α} {i : Nat} (h : (es.findIdx? fun e => decide (k = e.1)) = some i) : ∃ v, es[i]? = some (k, v) := by
  rw [List.findIdx?_eq_some_iff_getElem] at h
  obtain ⟨hi, h, -⟩ := h
  refine ⟨es[i].2, ?_⟩
  rw [List.getElem?_eq_getElem hi]
  simp only [decide_eq_true_eq] at h
  rw [h]
end
def encK {α : Type} (ek : α → T) (es : List (α × T)) : List (T × T) := es.map fun e => (ek e.1, e.2)
structure KeyOk {α : Type} [DecidableEq α] (kt : KT) (ek : α → T) : Prop where
  has : ∀ a, (ek a).hasK kt = true
  eq : ∀ a b, keyEq (ek a) (ek b) = some (decide (a = b))
section
variable {α : Type} [DecidableEq α] {kt : KT} {ek : α → T}
theorem mfindK (ho : KeyOk kt ek) (k : α) : ∀ es : List (α × T), mfind (ek k) (encK ek es) = some (es.findIdx? fun e => decide (k = e.1))
  | [] => rfl
  | e :: es => by
    have ih := mfindK ho k es
    simp only [encK] at ih ⊢
    simp only [List.map_cons, mfind, ho.eq, List.findIdx?_cons]
    cases h : decide (k = e.1)
    · simp [ih]
    · simp
def lkpT (o : Option T) (z : T) (ok : Bool) : T := match o with
  | some v => if ok then .tup [v, .bool true] else v
  | none => if ok then .tup [z, .bool false] else z
def lkpB (kt : KT) (z : T) (ok : Bool) (H : Heap) (mb : Option B) (k : T) : Option (T × Heap) := match mb with
  | some (.map es) => if k.hasK kt then match mfind k es with
    | some (some i) => match es[i]? with
      | some e => some (if ok then .tup [e.2, .bool true] else e.2, H)
      | none => none
    | some none => some (if ok then .tup [z, .bool false] else z, H)
    | none => none else none
  | some (.rmap es _ _ _) => if k.hasK kt then match mfind k es with
    | some (some i) => match es[i]? with
      | some e => some (if ok then .tup [e.2, .bool true] else e.2, H)
      | none => none
    | some none => some (if ok then .tup [z, .bool false] else z, H)
    | none => none else none
  | _ => none
def lkpV (kt : KT) (z : T) (ok : Bool) (H : Heap) (m k : T) : Option (T × Heap) := match m with
  | .map b => lkpB kt z ok H H[b]? k
  | .nilm => if k.hasK kt then some (if ok then .tup [z, .bool false] else z, H) else none
  | _ => none
theorem ev_lkp (R : Regs) (H : Heap) (kt : KT) (z : T) (ok : Bool) (m k : X) : evop R H (.lkp kt z ok m k) = lkpV kt z ok H (m.ev R) (k.ev R) := by
  unfold lkpV lkpB
  simp only [evop]
  cases h1 : (k.ev R).hasK kt
  · simp only [Bool.false_eq_true, if_false]
    cases m.ev R with
    | map b => simp only; split <;> rfl
    | _ => rfl
  · simp only [if_true]
    cases m.ev R with
    | map b =>
      simp only [mapEs]
      cases H[b]? with
      | none => rfl
      | some x => cases x <;> rfl
    | nilm => simp only [mapEs, mfind]
    | _ => rfl
theorem lkpV_map (kt : KT) (z : T) (ok : Bool) (H : Heap) (b : Nat) (k : T) : lkpV kt z ok H (.map b) k = lkpB kt z ok H H[b]? k := rfl
theorem lkpB_K (ho : KeyOk kt ek) (z : T) (ok : Bool) (H : Heap) (es : List (α × T)) (s : α) : lkpB kt z ok H (some (.map (encK ek es))) (ek s) = some (lkpT (mlook es s) z ok, H) := by
  simp only [lkpB, ho.has, mfindK ho, if_true, mlook_idx]
  cases h : List.findIdx? (fun e => decide (s = e.1)) es with
  | none => cases ok <;> rfl
  | some i =>
    obtain ⟨v, hv⟩ := idx_some h
    have : (encK ek es)[i]? = some (ek s, v) := by simp [encK, hv]
    simp only [this, hv, lkpT, Option.map_some]
def upmB (kt : KT) (H : Heap) (b : Nat) (mb : Option B) (k v : T) : Option (T × Heap) := match mb with
  | some (.map es) => if k.hasK kt then match mfind k es with
    | some (some i) => some (undefT, H.set b (.map (es.set i (k, v))))
    | some none => some (undefT, H.set b (.map (es ++ [(k, v)])))
    | none => none else none
  | _ => none
def upmV (kt : KT) (H : Heap) (m k v : T) : Option (T × Heap) := match m with
  | .map b => upmB kt H b H[b]? k v
  | _ => none
theorem ev_upm (R : Regs) (H : Heap) (kt : KT) (m k v : X) : evop R H (.upm kt m k v) = upmV kt H (m.ev R) (k.ev R) (v.ev R) := by
  unfold upmV upmB
  simp only [evop]
  cases m.ev R with
  | map b =>
    simp only
    cases h1 : (k.ev R).hasK kt
    · simp only [Bool.false_eq_true, if_false]; split <;> rfl
    · simp only [if_true]
      cases H[b]? with
      | none => rfl
      | some x => cases x <;> rfl
  | _ => rfl
theorem mapErase {β γ : Type} (f : β → γ) : ∀ (l : List β) (j : Nat), (l.map f).eraseIdx j = (l.eraseIdx j).map f
  | [], _ => by simp
  | _ :: _, 0 => by simp
  | _ :: l, j + 1 => by simp [mapErase f l j]
def delB (kt : KT) (H : Heap) (b : Nat) (mb : Option B) (k : T) : Option (T × Heap) := match mb with
  | some (.map es) => if k.hasK kt then match mfind k es with
    | some (some i) => some (.tup [], H.set b (.map (es.eraseIdx i)))
    | some none => some (.tup [], H)
    | none => none else none
  | _ => none
def delV (kt : KT) (H : Heap) (m k : T) : Option (T × Heap) := match m with
  | .map b => delB kt H b H[b]? k
  | _ => none
theorem ev_del (R : Regs) (H : Heap) (kt : KT) (m k : X) : evop R H (.del kt m k) = delV kt H (m.ev R) (k.ev R) := by
  unfold delV delB
  simp only [evop]
  cases m.ev R with
  | map b =>
    simp only
    cases h1 : (k.ev R).hasK kt
    · simp only [Bool.false_eq_true, if_false]; split <;> rfl
    · simp only [if_true]
      cases H[b]? with
      | none => rfl
      | some x => cases x <;> rfl
  | _ => rfl
theorem delV_map (kt : KT) (H : Heap) (b : Nat) (k : T) : delV kt H (.map b) k = delB kt H b H[b]? k := rfl
def mdel (es : List (α × T)) (s : α) : List (α × T) := match es.findIdx? (fun e => decide (s = e.1)) with
  | some i => es.eraseIdx i
  | none => es
theorem delB_K (ho : KeyOk kt ek) (H : Heap) (b : Nat) (es : List (α × T)) (s : α) {v : T} (hv : mlook es s = some v) : delB kt H b (some (.map (encK ek es))) (ek s) = some (.tup [], H.set b (.map (encK ek (mdel es s)))) := by
  rw [mlook_idx] at hv
  simp only [delB, ho.has, mfindK ho, if_true, mdel]
  cases h : List.findIdx? (fun e => decide (s = e.1)) es with
  | none => rw [h] at hv; simp at hv
  | some i => simp only [encK, Option.some.injEq, Prod.mk.injEq, true_and]; congr 2; rw [mapErase]
def rngB (H : Heap) (b : Nat) : Option B → Option (T × Heap)
  | some (.map es) => some (.ptr H.length 0, H.set b (.rmap es (List.range es.length) H.length none) ++ [.itr b])
  | some (.rmap es _ _ _) => some (.ptr H.length 0, H.set b (.rmap es (List.range es.length) H.length none) ++ [.itr b])
  | _ => none
def rngV (H : Heap) : T → Option (T × Heap)
  | .map b => rngB H b H[b]?
  | _ => none
theorem ev_rng (R : Regs) (H : Heap) (x : X) : evop R H (.rng x) = rngV H (x.ev R) := by
  simp only [evop]
  cases x.ev R with
  | map b =>
    simp only [mapEs, rngV]
    cases H[b]? with
    | none => rfl
    | some y => cases y <;> rfl
  | _ => rfl
theorem rngV_map (H : Heap) (b : Nat) : rngV H (.map b) = rngB H b H[b]? := rfl
theorem rngB_M (H : Heap) (b : Nat) (es : List (T × T)) : rngB H b (some (.map es)) = some (.ptr H.length 0, H.set b (.rmap es (List.range es.length) H.length none) ++ [.itr b]) := rfl
theorem ev_nxt (R : Regs) (H : Heap) (x : X) : evop R H (.nxt x) = none := rfl
def entC (H : Heap) (bi : Nat) : Option B → Option (T × Heap)
  | some (.rmap es _ bi' (some c)) => if bi' = bi then (es[c]?).map fun e => (.tup [e.1, e.2], H) else none
  | _ => none
def entB (H : Heap) (bi : Nat) : Option B → Option (T × Heap)
  | some (.itr b) => entC H bi H[b]?
  | _ => none
def entV (H : Heap) : T → Option (T × Heap)
  | .ptr bi 0 => entB H bi H[bi]?
  | _ => none
theorem ev_ent (R : Regs) (H : Heap) (x : X) : evop R H (.ent x) = entV H (x.ev R) := by
  simp only [evop]
  cases x.ev R with
  | ptr bi o =>
    cases o with
    | zero =>
      simp only [entV]
      cases H[bi]? with
      | none => rfl
      | some y => cases y with
        | itr b =>
          simp only [entB]
          cases H[b]? with
          | none => rfl
          | some z => cases z with
            | rmap es ix bi' cur => cases cur <;> rfl
            | _ => rfl
        | _ => rfl
    | succ _ => rfl
  | _ => rfl
theorem entV_ptr (H : Heap) (bi : Nat) : entV H (.ptr bi 0) = entB H bi H[bi]? := rfl
theorem entB_I (H : Heap) (bi b : Nat) : entB H bi (some (.itr b)) = entC H bi H[b]? := rfl
theorem entC_R (H : Heap) (bi : Nat) (es : List (T × T)) (ix : List Nat) (c : Nat) : entC H bi (some (.rmap es ix bi (some c))) = (es[c]?).map fun e => (.tup [e.1, e.2], H) := by simp only [entC, if_true]
def clrB (H : Heap) (b off len n n' : Nat) (z : List T) : Option B → Option (T × Heap)
  | some (.cells cs) => if n' = n ∧ z.length = n ∧ off + len * n ≤ cs.length then some (undefT, H.set b (.cells (cs.take off ++ (List.replicate len z).flatten ++ cs.drop (off + len * n)))) else none
  | _ => none
def clrV (H : Heap) (n : Nat) (z : List T) : T → Option (T × Heap)
  | .msl b off len n' => clrB H b off len n n' z H[b]?
  | _ => none
theorem ev_clr (R : Regs) (H : Heap) (n : Nat) (z : List T) (x : X) : evop R H (.clr n z x) = clrV H n z (x.ev R) := by
  simp only [evop]
  cases x.ev R with
  | msl b off len n' =>
    simp only [clrV]
    cases H[b]? with
    | none => rfl
    | some y => cases y <;> rfl
  | _ => rfl
theorem clrV_msl (H : Heap) (n : Nat) (z : List T) (b off len n' : Nat) : clrV H n z (.msl b off len n') = clrB H b off len n n' z H[b]? := rfl
theorem upmV_map (kt : KT) (H : Heap) (b : Nat) (k v : T) : upmV kt H (.map b) k v = upmB kt H b H[b]? k v := rfl
theorem upmB_K (ho : KeyOk kt ek) (H : Heap) (b : Nat) (es : List (α × T)) (s : α) (v : T) : upmB kt H b (some (.map (encK ek es))) (ek s) v = some (undefT, H.set b (.map (encK ek (mput es s v)))) := by
  simp only [upmB, ho.has, mfindK ho, if_true, mput]
  cases h : List.findIdx? (fun e => decide (s = e.1)) es with
  | none => simp [encK]
  | some i => simp [encK]
end
theorem kStr : KeyOk (.sc .str) T.str := ⟨fun _ => rfl, fun a b => by simp only [keyEq, eqSc, strEq_eq]⟩
def kU (n : Nat) : T := .int .u64 n
theorem kNat : KeyOk (.sc .int) kU := ⟨fun _ => rfl, fun a b => by simp only [kU, keyEq, eqSc, if_true, deq]⟩
theorem lkpB_M (z : T) (ok : Bool) (H : Heap) (es : List (ByteArray × T)) (s : ByteArray) : lkpB (.sc .str) z ok H (some (.map (encK T.str es))) (.str s) = some (lkpT (mlook es s) z ok, H) := lkpB_K kStr z ok H es s
theorem lkpB_N (z : T) (ok : Bool) (H : Heap) (es : List (Nat × T)) (s : Nat) : lkpB (.sc .int) z ok H (some (.map (encK kU es))) (.int .u64 s) = some (lkpT (mlook es s) z ok, H) := lkpB_K kNat z ok H es s
theorem upmB_M (H : Heap) (b : Nat) (es : List (ByteArray × T)) (s : ByteArray) (v : T) : upmB (.sc .str) H b (some (.map (encK T.str es))) (.str s) v = some (undefT, H.set b (.map (encK T.str (mput es s v)))) := upmB_K kStr H b es s v
theorem upmB_N (H : Heap) (b : Nat) (es : List (Nat × T)) (s : Nat) (v : T) : upmB (.sc .int) H b (some (.map (encK kU es))) (.int .u64 s) v = some (undefT, H.set b (.map (encK kU (mput es s v)))) := upmB_K kNat H b es s v
theorem lkp_some (v z : T) : lkpT (some v) z false = v := rfl
theorem lkp_none (z : T) : lkpT none z false = z := rfl
theorem lkp_some2 (v z : T) : lkpT (some v) z true = .tup [v, .bool true] := rfl
theorem lkp_none2 (z : T) : lkpT none z true = .tup [z, .bool false] := rfl
end Go.Rmp
end

section
namespace Go.Rmp
theorem cells_agg (l : List T) : (T.agg l).cells? = some l := rfl
theorem cells_int (k : IntKind) (n : Int) : (T.int k n).cells? = some [.int k n] := rfl
theorem cells_str (s : ByteArray) : (T.str s).cells? = some [.str s] := rfl
theorem cells_bool (s : Bool) : (T.bool s).cells? = some [.bool s] := rfl
theorem cells_sl (k : SK) (l : List (List T)) : (T.sl k l).cells? = some [.sl k l] := rfl
theorem cells_msl (a b c d : Nat) : (T.msl a b c d).cells? = some [.msl a b c d] := rfl
theorem cells_map (b : Nat) : (T.map b).cells? = some [.map b] := rfl
theorem cells_ptr (a b : Nat) : (T.ptr a b).cells? = some [.ptr a b] := rfl
theorem cells_nilm : (T.nilm).cells? = some [.nilm] := rfl
theorem cells_nilp : (T.nilp).cells? = some [.nilp] := rfl
theorem tup1 (v : T) : tupT [v] = v := rfl
theorem tup2 (v w : T) : tupT [v, w] = .tup [v, w] := rfl
theorem tup3 (v w x : T) : tupT [v, w, x] = .tup [v, w, x] := rfl
theorem er_int (k : IntKind) (n : Int) : (T.int k n).erase = .int k n := rfl
theorem er_str (s : ByteArray) : (T.str s).erase = .str s := rfl
theorem er_bool (s : Bool) : (T.bool s).erase = .bool s := rfl
theorem er_sl (k : SK) (l : List (List T)) : (T.sl k l).erase = .sl .arg l := rfl
theorem er_ptr (a b : Nat) : (T.ptr a b).erase = .ptr a b := rfl
theorem er_map (b : Nat) : (T.map b).erase = .map b := rfl
theorem er_nilm : (T.nilm).erase = .nilm := rfl
theorem er_nilp : (T.nilp).erase = .nilp := rfl
theorem el_sl (H : Heap) (n : Nat) (k : SK) (es : List (List T)) : elemsOf H n (.sl k es) = if es.all (·.length == n) then some es else none := rfl
theorem want_n (R : Regs) : wants R Option.none = true := rfl
theorem tr_imp (p : Prop) : (True → p) = p := by simp
theorem im_tr (p : Prop) : (p → True) = True := by simp
theorem imp_t (p : Prop) : (true = true → p) = p := by simp
theorem imp_f (p : Prop) : (false = true → p) = True := by simp
theorem un_not (b : Bool) : unT .not (.bool b) = some (.bool !b) := rfl
theorem bi_add (k : IntKind) (a b : Int) : binT .add (.int k a) (.int k b) = some (.int k (k.wrap (a + b))) := by simp [binT]
theorem bi_sub (k : IntKind) (a b : Int) : binT .sub (.int k a) (.int k b) = some (.int k (k.wrap (a - b))) := by simp [binT]
theorem bi_mul (k : IntKind) (a b : Int) : binT .mul (.int k a) (.int k b) = some (.int k (k.wrap (a * b))) := by simp [binT]
theorem bi_quo (k : IntKind) (a b : Int) : binT .quo (.int k a) (.int k b) = if b = 0 then none else some (.int k (k.wrap (a.tdiv b))) := by simp [binT]
theorem bi_rem (k : IntKind) (a b : Int) : binT .rem (.int k a) (.int k b) = if b = 0 then none else some (.int k (a.tmod b)) := by simp [binT]
theorem bi_shl (k k' : IntKind) (a b : Int) : binT .shl (.int k a) (.int k' b) = if b < 0 then none else some (.int k (k.wrap (a * 2 ^ (min b.toNat k.bits)))) := by simp [binT]
theorem bi_shr (k k' : IntKind) (a b : Int) : binT .shr (.int k a) (.int k' b) = if b < 0 then none else some (.int k (a.fdiv (2 ^ (min b.toNat k.bits)))) := by simp [binT]
theorem bi_and (k : IntKind) (a b : Int) : binT .and (.int k a) (.int k b) = some (.int k (k.wrap (BitVec.ofInt k.bits a &&& BitVec.ofInt k.bits b).toNat)) := by simp [binT]
theorem bi_or (k : IntKind) (a b : Int) : binT .or (.int k a) (.int k b) = some (.int k (k.wrap (BitVec.ofInt k.bits a ||| BitVec.ofInt k.bits b).toNat)) := by simp [binT]
theorem bi_xor (k : IntKind) (a b : Int) : binT .xor (.int k a) (.int k b) = some (.int k (k.wrap (BitVec.ofInt k.bits a ^^^ BitVec.ofInt k.bits b).toNat)) := by simp [binT]
theorem bi_eql (k : IntKind) (a b : Int) : binT .eql (.int k a) (.int k b) = some (.bool (a == b)) := by simp [binT]
theorem bi_neq (k : IntKind) (a b : Int) : binT .neq (.int k a) (.int k b) = some (.bool (a != b)) := by simp [binT]
theorem bi_lss (k : IntKind) (a b : Int) : binT .lss (.int k a) (.int k b) = some (.bool (a < b)) := by simp [binT]
theorem bi_leq (k : IntKind) (a b : Int) : binT .leq (.int k a) (.int k b) = some (.bool (a ≤ b)) := by simp [binT]
theorem bi_gtr (k : IntKind) (a b : Int) : binT .gtr (.int k a) (.int k b) = some (.bool (b < a)) := by simp [binT]
theorem bi_geq (k : IntKind) (a b : Int) : binT .geq (.int k a) (.int k b) = some (.bool (b ≤ a)) := by simp [binT]
theorem bs_eql (a b : ByteArray) : binT .eql (.str a) (.str b) = some (.bool (decide (a = b))) := by simp [binT, strEq_eq]
theorem bs_neq (a b : ByteArray) : binT .neq (.str a) (.str b) = some (.bool (!decide (a = b))) := by simp [binT, strEq_eq]
theorem bs_lss (a b : ByteArray) : binT .lss (.str a) (.str b) = some (.bool (strLt a b)) := by rfl
theorem bs_leq (a b : ByteArray) : binT .leq (.str a) (.str b) = some (.bool (!strLt b a)) := by have := not_le b a; simp only [binT, Option.some.injEq, T.bool.injEq]; rw [← this]; simp
theorem bs_gtr (a b : ByteArray) : binT .gtr (.str a) (.str b) = some (.bool (strLt b a)) := by have := not_le b a; simp only [binT, Option.some.injEq, T.bool.injEq]; exact this
theorem bs_geq (a b : ByteArray) : binT .geq (.str a) (.str b) = some (.bool (!strLt a b)) := by rfl
theorem bs_add (a b : ByteArray) : binT .add (.str a) (.str b) = if a.size + b.size ≤ 9223372036854775807 then some (.str (a ++ b)) else none := rfl
theorem lit_lt (a b : Nat) : decide ((a : Int) < (no_index (OfNat.ofNat b))) = decide (a < OfNat.ofNat b) := dlt a b
theorem lit_gt (a b : Nat) : decide ((no_index (OfNat.ofNat b) : Int) < (a : Int)) = decide (OfNat.ofNat b < a) := dlt b a
theorem lit_le (a b : Nat) : decide ((a : Int) ≤ (no_index (OfNat.ofNat b))) = decide (a ≤ OfNat.ofNat b) := dle a b
theorem lit_ge (a b : Nat) : decide ((no_index (OfNat.ofNat b) : Int) ≤ (a : Int)) = decide (OfNat.ofNat b ≤ a) := dle b a
theorem lit_eq (a b : Nat) : ((a : Int) == (no_index (OfNat.ofNat b))) = decide (a = OfNat.ofNat b) := deq a b
theorem lit_ne (a b : Nat) : ((a : Int) != (no_index (OfNat.ofNat b))) = !decide (a = OfNat.ofNat b) := dne a b
set_option linter.defProp false in
theorem S1 : type_of% (And.intro (@b_vf) <| And.intro (@evop.eq_37) <| And.intro (@evop.eq_38) <| And.intro (@evop.eq_43) <| And.intro (@evop.eq_44) <| And.intro (@evop.eq_45) <| And.intro (@ex_n) <| And.intro (@ex_r) <| And.intro (@ex_e) <| And.intro (@bnd.eq_1) <| And.intro (@bnd.eq_2) <| And.intro (@want_n) <| And.intro (@tr_imp) <| And.intro (@im_tr) <| And.intro (@imp_t) <| And.intro (@imp_f) <| And.intro (@step_n) <| And.intro (@List.nil_append.{0}) <| And.intro (@List.append_nil.{0}) <| And.intro (@List.cons_append.{0}) <| And.intro (@er_int) <| And.intro (@er_str) <| And.intro (@er_bool) <| And.intro (@er_sl) <| And.intro (@er_ptr) <| And.intro (@er_map) <| And.intro (@er_nilm) <| And.intro (@er_nilp) <| And.intro (@el_sl) <| And.intro (@partsT.eq_1) <| And.intro (@partsT.eq_2) <| And.intro (@fillT.eq_1) <| And.intro (@fillT.eq_2) <| And.intro (@fillE.eq_1) <| And.intro (@fillE.eq_2) <| And.intro (@fillM.eq_1) <| And.intro (@fillM.eq_2) <| And.intro (@List.replicate_zero.{0}) <| And.intro (@List.replicate_succ.{0}) <| And.intro (@List.set_cons_zero.{0}) <| And.intro (@List.set_cons_succ.{0}) <| And.intro (@List.all_cons.{0}) <| And.intro (@List.all_nil.{0}) <| And.intro (@Bool.and_true) <| And.intro (@Bool.true_and) <| And.intro (@ldc_iptr) <| And.intro (@ldc_ptr) <| And.intro (@ldcB_c) <| And.intro (@stc_ptr) <| And.intro (@stcB_c) <| And.intro (@fad_ptr) <| And.intro (@lit_lt) <| And.intro (@lit_gt) <| And.intro (@lit_le) <| And.intro (@lit_ge) <| And.intro (@lit_eq) <| And.intro (@lit_ne) <| And.intro (@b_nil) <| And.intro (@b_b) <| And.intro (@b_g) <| And.intro (@b_c) <| And.intro (@b_cg) <| And.intro (@step_s) <| And.intro (@grd_t) <| And.intro (@grd_f) <| And.intro (@grdc_t) <| And.intro (@grdc_f) <| And.intro (@c_skip) <| And.intro (@c_ops) <| And.intro (@norm_ap) <| And.intro (@c_seq) <| And.intro (@c_cond) <| And.intro (@c_block) <| And.intro (@c_exit) <| And.intro (@c_ret) <| And.intro (@c_loop) <| And.intro (@c_range) <| And.intro (@cont_ap) <| And.intro (@cond_t) <| And.intro (@cond_f) <| And.intro (@then_n) <| And.intro (@then_r) <| And.intro (@then_e) <| And.intro (@blk_n) <| And.intro (@blk_r) <| And.intro (@blk_e) <| And.intro (@Bool.false_eq_true) <| And.intro (@want_t) <| And.intro (@want_f) <| And.intro (@isT_b) <| And.intro (@isF_b) <| And.intro (@isT_u) <| And.intro (@isF_u) <| And.intro (@retg_val) <| And.intro (@retg_same) <| And.intro (@List.length_cons.{0}) <| And.intro (@List.length_nil.{0}) <| And.intro (@List.drop_succ_cons.{0}) <| And.intro (@List.drop_zero.{0}) <| And.intro (@List.take_succ_cons.{0}) <| And.intro (@List.take_zero.{0}) <| And.intro (@cells_agg) <| And.intro (@cells_int) <| And.intro (@cells_str) <| And.intro (@cells_bool) <| And.intro (@cells_sl) <| And.intro (@cells_msl) <| And.intro (@cells_map) <| And.intro (@cells_ptr) <| And.intro (@cells_nilm) <| And.intro (@cells_nilp) <| And.intro (@fadT.eq_1) <| And.intro (@fadT.eq_2) <| And.intro (@Nat.zero_add) <| And.intro (@ev_r) <| And.intro (@ev_c) <| And.intro (@stB.eq_1) <| And.intro (@stB.eq_2) <| And.intro (@updo_s) <| And.intro (@updo_n) <| And.intro (@upd_ap) <| And.intro (@regs0_0) <| And.intro (@regs0_1) <| And.intro (@regs0_2) <| And.intro (@regs0_3) <| And.intro (@regs0_4) <| And.intro (@true_and) <| And.intro (@and_true) <| And.intro (@Option.map_some.{0,0}) <| And.intro (@Option.bind_some.{0,0}) <| And.intro (@un_not) <| And.intro (@lenT.eq_1) <| And.intro (@lenT.eq_2) <| And.intro (@lenT.eq_3) <| And.intro (@lenT.eq_4) <| And.intro (@lenT.eq_5) <| And.intro (@natOf_nat) <| And.intro (@val1) <| And.intro (@valA) <| And.intro (@endQ.eq_1) <| And.intro (@endQ.eq_2) <| And.intro (@resT.eq_1) <| And.intro (@resL.eq_1) <| And.intro (@resL.eq_2) <| And.intro (@resV.eq_1) <| And.intro (@resV.eq_2) <| And.intro (@tup1) <| And.intro (@tup2) <| And.intro (@tup3) <| And.intro (@dlt) <| And.intro (@dle) <| And.intro (@deq) <| And.intro (@dne) <| And.intro (@List.map_cons.{0,0}) <| And.intro (@List.map_nil.{0,0}) <| And.intro (@decide_true) <| And.intro (@decide_false) <| And.intro (@strEq_eq) <| And.intro (@Bool.not_true) <| And.intro (@Bool.not_false) <| And.intro (@beq_self_eq_true.{0}) <| And.intro (@bne_self_eq_false.{0}) <| And.intro (@List.getElem?_cons_zero.{0}) <| And.intro (@List.getElem?_cons_succ.{0}) <| And.intro (@List.getElem?_nil.{0}) <| And.intro (@List.length_map.{0,0}) <| And.intro (@ret_val) <| And.intro (@T.bool.injEq) <| And.intro (@T.int.injEq) <| And.intro (@T.str.injEq) <| And.intro (@T.tup.injEq) <| And.intro (@evop.eq_1) <| And.intro (@evop.eq_2) <| And.intro (@evop.eq_3) <| And.intro (@evop.eq_4) <| And.intro (@evop.eq_5) <| And.intro (@evop.eq_6) <| And.intro (@evop.eq_7) <| And.intro (@evop.eq_8) <| And.intro (@evop.eq_9) <| And.intro (@evop.eq_10) <| And.intro (@evop.eq_11) <| And.intro (@evop.eq_12) <| And.intro (@evop.eq_13) <| And.intro (@evop.eq_14) <| And.intro (@evop.eq_15) <| And.intro (@evop.eq_16) <| And.intro (@evop.eq_17) <| And.intro (@evop.eq_18) <| And.intro (@evop.eq_19) <| And.intro (@evop.eq_20) <| And.intro (@evop.eq_21) <| And.intro (@evop.eq_22) <| And.intro (@evop.eq_23) <| And.intro (@evop.eq_24) <| And.intro (@evop.eq_25) <| And.intro (@evop.eq_26) <| And.intro (@ev_del) <| And.intro (@delV_map) <| And.intro (@ev_rng) <| And.intro (@rngV_map) <| And.intro (@rngB_M) <| And.intro (@ev_nxt) <| And.intro (@ev_ent) <| And.intro (@entV_ptr) <| And.intro (@entB_I) <| And.intro (@entC_R) <| And.intro (@ev_clr) <| And.intro (@clrV_msl) <| And.intro (@evop.eq_30) <| And.intro (@evop.eq_31) <| And.intro (@evop.eq_32) <| And.intro (@evop.eq_33) <| And.intro (@evop.eq_34) <| And.intro (@evop.eq_35) <| And.intro (@evop.eq_36) <| And.intro (@ev_lkp) <| And.intro (@ev_upm) <| And.intro (@lkpV_map) <| And.intro (@lkpB_M) <| And.intro (@lkpB_N) <| And.intro (@upmV_map) <| And.intro (@upmB_M) <| And.intro (@upmB_N) <| And.intro (@lkp_some) <| And.intro (@lkp_none) <| And.intro (@lkp_some2) <| And.intro (@lkp_none2) <| And.intro (@bi_add) <| And.intro (@bi_sub) <| And.intro (@bi_mul) <| And.intro (@bi_quo) <| And.intro (@bi_rem) <| And.intro (@bi_shl) <| And.intro (@bi_shr) <| And.intro (@bi_and) <| And.intro (@bi_or) <| And.intro (@bi_xor) <| And.intro (@bi_eql) <| And.intro (@bi_neq) <| And.intro (@bi_lss) <| And.intro (@bi_leq) <| And.intro (@bi_gtr) <| And.intro (@bi_geq) <| And.intro (@bs_eql) <| And.intro (@bs_neq) <| And.intro (@bs_lss) <| And.intro (@bs_leq) <| And.intro (@bs_gtr) <| And.intro (@bs_geq) <| (@bs_add)) := And.intro (@b_vf) <| And.intro (@evop.eq_37) <| And.intro (@evop.eq_38) <| And.intro (@evop.eq_43) <| And.intro (@evop.eq_44) <| And.intro (@evop.eq_45) <| And.intro (@ex_n) <| And.intro (@ex_r) <| And.intro (@ex_e) <| And.intro (@bnd.eq_1) <| And.intro (@bnd.eq_2) <| And.intro (@want_n) <| And.intro (@tr_imp) <| And.intro (@im_tr) <| And.intro (@imp_t) <| And.intro (@imp_f) <| And.intro (@step_n) <| And.intro (@List.nil_append.{0}) <| And.intro (@List.append_nil.{0}) <| And.intro (@List.cons_append.{0}) <| And.intro (@er_int) <| And.intro (@er_str) <| And.intro (@er_bool) <| And.intro (@er_sl) <| And.intro (@er_ptr) <| And.intro (@er_map) <| And.intro (@er_nilm) <| And.intro (@er_nilp) <| And.intro (@el_sl) <| And.intro (@partsT.eq_1) <| And.intro (@partsT.eq_2) <| And.intro (@fillT.eq_1) <| And.intro (@fillT.eq_2) <| And.intro (@fillE.eq_1) <| And.intro (@fillE.eq_2) <| And.intro (@fillM.eq_1) <| And.intro (@fillM.eq_2) <| And.intro (@List.replicate_zero.{0}) <| And.intro (@List.replicate_succ.{0}) <| And.intro (@List.set_cons_zero.{0}) <| And.intro (@List.set_cons_succ.{0}) <| And.intro (@List.all_cons.{0}) <| And.intro (@List.all_nil.{0}) <| And.intro (@Bool.and_true) <| And.intro (@Bool.true_and) <| And.intro (@ldc_iptr) <| And.intro (@ldc_ptr) <| And.intro (@ldcB_c) <| And.intro (@stc_ptr) <| And.intro (@stcB_c) <| And.intro (@fad_ptr) <| And.intro (@lit_lt) <| And.intro (@lit_gt) <| And.intro (@lit_le) <| And.intro (@lit_ge) <| And.intro (@lit_eq) <| And.intro (@lit_ne) <| And.intro (@b_nil) <| And.intro (@b_b) <| And.intro (@b_g) <| And.intro (@b_c) <| And.intro (@b_cg) <| And.intro (@step_s) <| And.intro (@grd_t) <| And.intro (@grd_f) <| And.intro (@grdc_t) <| And.intro (@grdc_f) <| And.intro (@c_skip) <| And.intro (@c_ops) <| And.intro (@norm_ap) <| And.intro (@c_seq) <| And.intro (@c_cond) <| And.intro (@c_block) <| And.intro (@c_exit) <| And.intro (@c_ret) <| And.intro (@c_loop) <| And.intro (@c_range) <| And.intro (@cont_ap) <| And.intro (@cond_t) <| And.intro (@cond_f) <| And.intro (@then_n) <| And.intro (@then_r) <| And.intro (@then_e) <| And.intro (@blk_n) <| And.intro (@blk_r) <| And.intro (@blk_e) <| And.intro (@Bool.false_eq_true) <| And.intro (@want_t) <| And.intro (@want_f) <| And.intro (@isT_b) <| And.intro (@isF_b) <| And.intro (@isT_u) <| And.intro (@isF_u) <| And.intro (@retg_val) <| And.intro (@retg_same) <| And.intro (@List.length_cons.{0}) <| And.intro (@List.length_nil.{0}) <| And.intro (@List.drop_succ_cons.{0}) <| And.intro (@List.drop_zero.{0}) <| And.intro (@List.take_succ_cons.{0}) <| And.intro (@List.take_zero.{0}) <| And.intro (@cells_agg) <| And.intro (@cells_int) <| And.intro (@cells_str) <| And.intro (@cells_bool) <| And.intro (@cells_sl) <| And.intro (@cells_msl) <| And.intro (@cells_map) <| And.intro (@cells_ptr) <| And.intro (@cells_nilm) <| And.intro (@cells_nilp) <| And.intro (@fadT.eq_1) <| And.intro (@fadT.eq_2) <| And.intro (@Nat.zero_add) <| And.intro (@ev_r) <| And.intro (@ev_c) <| And.intro (@stB.eq_1) <| And.intro (@stB.eq_2) <| And.intro (@updo_s) <| And.intro (@updo_n) <| And.intro (@upd_ap) <| And.intro (@regs0_0) <| And.intro (@regs0_1) <| And.intro (@regs0_2) <| And.intro (@regs0_3) <| And.intro (@regs0_4) <| And.intro (@true_and) <| And.intro (@and_true) <| And.intro (@Option.map_some.{0,0}) <| And.intro (@Option.bind_some.{0,0}) <| And.intro (@un_not) <| And.intro (@lenT.eq_1) <| And.intro (@lenT.eq_2) <| And.intro (@lenT.eq_3) <| And.intro (@lenT.eq_4) <| And.intro (@lenT.eq_5) <| And.intro (@natOf_nat) <| And.intro (@val1) <| And.intro (@valA) <| And.intro (@endQ.eq_1) <| And.intro (@endQ.eq_2) <| And.intro (@resT.eq_1) <| And.intro (@resL.eq_1) <| And.intro (@resL.eq_2) <| And.intro (@resV.eq_1) <| And.intro (@resV.eq_2) <| And.intro (@tup1) <| And.intro (@tup2) <| And.intro (@tup3) <| And.intro (@dlt) <| And.intro (@dle) <| And.intro (@deq) <| And.intro (@dne) <| And.intro (@List.map_cons.{0,0}) <| And.intro (@List.map_nil.{0,0}) <| And.intro (@decide_true) <| And.intro (@decide_false) <| And.intro (@strEq_eq) <| And.intro (@Bool.not_true) <| And.intro (@Bool.not_false) <| And.intro (@beq_self_eq_true.{0}) <| And.intro (@bne_self_eq_false.{0}) <| And.intro (@List.getElem?_cons_zero.{0}) <| And.intro (@List.getElem?_cons_succ.{0}) <| And.intro (@List.getElem?_nil.{0}) <| And.intro (@List.length_map.{0,0}) <| And.intro (@ret_val) <| And.intro (@T.bool.injEq) <| And.intro (@T.int.injEq) <| And.intro (@T.str.injEq) <| And.intro (@T.tup.injEq) <| And.intro (@evop.eq_1) <| And.intro (@evop.eq_2) <| And.intro (@evop.eq_3) <| And.intro (@evop.eq_4) <| And.intro (@evop.eq_5) <| And.intro (@evop.eq_6) <| And.intro (@evop.eq_7) <| And.intro (@evop.eq_8) <| And.intro (@evop.eq_9) <| And.intro (@evop.eq_10) <| And.intro (@evop.eq_11) <| And.intro (@evop.eq_12) <| And.intro (@evop.eq_13) <| And.intro (@evop.eq_14) <| And.intro (@evop.eq_15) <| And.intro (@evop.eq_16) <| And.intro (@evop.eq_17) <| And.intro (@evop.eq_18) <| And.intro (@evop.eq_19) <| And.intro (@evop.eq_20) <| And.intro (@evop.eq_21) <| And.intro (@evop.eq_22) <| And.intro (@evop.eq_23) <| And.intro (@evop.eq_24) <| And.intro (@evop.eq_25) <| And.intro (@evop.eq_26) <| And.intro (@ev_del) <| And.intro (@delV_map) <| And.intro (@ev_rng) <| And.intro (@rngV_map) <| And.intro (@rngB_M) <| And.intro (@ev_nxt) <| And.intro (@ev_ent) <| And.intro (@entV_ptr) <| And.intro (@entB_I) <| And.intro (@entC_R) <| And.intro (@ev_clr) <| And.intro (@clrV_msl) <| And.intro (@evop.eq_30) <| And.intro (@evop.eq_31) <| And.intro (@evop.eq_32) <| And.intro (@evop.eq_33) <| And.intro (@evop.eq_34) <| And.intro (@evop.eq_35) <| And.intro (@evop.eq_36) <| And.intro (@ev_lkp) <| And.intro (@ev_upm) <| And.intro (@lkpV_map) <| And.intro (@lkpB_M) <| And.intro (@lkpB_N) <| And.intro (@upmV_map) <| And.intro (@upmB_M) <| And.intro (@upmB_N) <| And.intro (@lkp_some) <| And.intro (@lkp_none) <| And.intro (@lkp_some2) <| And.intro (@lkp_none2) <| And.intro (@bi_add) <| And.intro (@bi_sub) <| And.intro (@bi_mul) <| And.intro (@bi_quo) <| And.intro (@bi_rem) <| And.intro (@bi_shl) <| And.intro (@bi_shr) <| And.intro (@bi_and) <| And.intro (@bi_or) <| And.intro (@bi_xor) <| And.intro (@bi_eql) <| And.intro (@bi_neq) <| And.intro (@bi_lss) <| And.intro (@bi_leq) <| And.intro (@bi_gtr) <| And.intro (@bi_geq) <| And.intro (@bs_eql) <| And.intro (@bs_neq) <| And.intro (@bs_lss) <| And.intro (@bs_leq) <| And.intro (@bs_gtr) <| And.intro (@bs_geq) <| (@bs_add)
theorem S2 : type_of% (And.intro (@not_false_eq_true) <| And.intro (@ne_eq.{1}) <| And.intro (@Nat.lt_succ_self) <| And.intro (@g_tail) <| And.intro (@g_app) <| And.intro (@g_eq) <| And.intro (@g_ne) <| And.intro (@s_tail) <| And.intro (@s_app) <| And.intro (@l_app) <| And.intro (@l_set) <| And.intro (@e_set) <| And.intro (@List.nil_append.{0}) <| And.intro (@List.append_nil.{0}) <| And.intro (@List.cons_append.{0}) (@List.drop_nil.{0})) := And.intro (@not_false_eq_true) <| And.intro (@ne_eq.{1}) <| And.intro (@Nat.lt_succ_self) <| And.intro (@g_tail) <| And.intro (@g_app) <| And.intro (@g_eq) <| And.intro (@g_ne) <| And.intro (@s_tail) <| And.intro (@s_app) <| And.intro (@l_app) <| And.intro (@l_set) <| And.intro (@e_set) <| And.intro (@List.nil_append.{0}) <| And.intro (@List.append_nil.{0}) <| And.intro (@List.cons_append.{0}) (@List.drop_nil.{0})
theorem l_one (H : Heap) (x : B) : (H ++ [x]).length = H.length + 1 := by simp
theorem lt_s {b n : Nat} (h : b < n) : (b < n + 1) = True := by simp; omega
theorem S3 : type_of% (And.intro (@l_one) <| And.intro (@lt_s) (@Nat.add_assoc)) := And.intro (@l_one) <| And.intro (@lt_s) (@Nat.add_assoc)
end Go.Rmp
end

section
namespace Go.Rmp
section
variable {α : Type} {enc : α → List T} {n : Nat}
def msC (enc : α → List T) (xs : List α) : List T := xs.flatMap enc
theorem msC_len (hn : ∀ x, (enc x).length = n) : ∀ xs : List α, (msC enc xs).length = xs.length * n
  | [] => by simp [msC]
  | x :: xs => by
    have := msC_len hn xs
    simp only [msC, List.flatMap_cons, List.length_append, hn, List.length_cons] at this ⊢
    rw [this, Nat.add_mul]; omega
theorem msC_drop (hn : ∀ x, (enc x).length = n) : ∀ (xs : List α) (i : Nat), (msC enc xs).drop (i * n) = msC enc (xs.drop i)
  | xs, 0 => by simp
  | [], i + 1 => by simp [msC]
  | x :: xs, i + 1 => by
    have := msC_drop hn xs i
    simp only [msC, List.flatMap_cons, List.drop_succ_cons] at this ⊢
    rw [show (i + 1) * n = (enc x).length + i * n by rw [hn, Nat.add_mul]; omega, List.drop_append, List.drop_eq_nil_of_le (by omega)]
    simp [this]
theorem msC_take (hn : ∀ x, (enc x).length = n) : ∀ (xs : List α) (i : Nat), (msC enc xs).take (i * n) = msC enc (xs.take i)
  | xs, 0 => by simp [msC]
  | [], i + 1 => by simp [msC]
  | x :: xs, i + 1 => by
    have := msC_take hn xs i
    simp only [msC, List.flatMap_cons, List.take_succ_cons] at this ⊢
    rw [show (i + 1) * n = (enc x).length + i * n by rw [hn, Nat.add_mul]; omega, List.take_append, List.take_of_length_le (by omega)]
    simp [this]
theorem msC_get (hn : ∀ x, (enc x).length = n) {xs : List α} {i : Nat} {x : α} (hx : xs[i]? = some x) (off m : Nat) (h : off + m ≤ n) : ldcB m (i * n + off) (some (.cells (msC enc xs))) = some (((enc x).drop off).take m) := by
  have hi := (List.getElem?_eq_some_iff.1 hx).1
  have h1 : i * n + n ≤ xs.length * n := by rw [← Nat.succ_mul]; exact Nat.mul_le_mul_right n hi
  have e : (msC enc xs).drop (i * n) = enc x ++ msC enc (xs.drop (i + 1)) := by
    rw [msC_drop hn, List.drop_eq_getElem_cons hi]
    have : xs[i] = x := (List.getElem?_eq_some_iff.1 hx).2
    rw [this]; rfl
  rw [ldcB_c, if_pos (by rw [msC_len hn]; omega), ← List.drop_drop, e, List.drop_append, List.take_append, hn]
  rw [show m - ((enc x).drop off).length = 0 by rw [List.length_drop, hn]; omega]
  simp
theorem msC_set (hn : ∀ x, (enc x).length = n) {xs : List α} {i : Nat} {x y : α} (hx : xs[i]? = some x) (H : Heap) (b : Nat) (vs : List T) (off : Nat) (h : off + vs.length ≤ n) (hy : enc y = (enc x).take off ++ vs ++ (enc x).drop (off + vs.length)) :
    stcB H b vs (i * n + off) (some (.cells (msC enc xs))) = some (H.set b (.cells (msC enc (xs.set i y)))) := by
  have hi := (List.getElem?_eq_some_iff.1 hx).1
  have hxi : xs[i] = x := (List.getElem?_eq_some_iff.1 hx).2
  have h1 : i * n + n ≤ xs.length * n := by rw [← Nat.succ_mul]; exact Nat.mul_le_mul_right n hi
  rw [stcB_c, if_pos (by rw [msC_len hn]; omega)]
  have e : (msC enc xs).drop (i * n) = enc x ++ msC enc (xs.drop (i + 1)) := by
    rw [msC_drop hn, List.drop_eq_getElem_cons hi, hxi]; rfl
  have t : (msC enc xs).take (i * n + off) = msC enc (xs.take i) ++ (enc x).take off := by
    rw [List.take_add, msC_take hn, e, List.take_append, hn, show off - n = 0 by omega]; simp
  have d : (msC enc xs).drop (i * n + off + vs.length) = (enc x).drop (off + vs.length) ++ msC enc (xs.drop (i + 1)) := by
    rw [Nat.add_assoc, ← List.drop_drop, e, List.drop_append, hn, show off + vs.length - n = 0 by omega]; simp
  rw [t, d]
  have : xs.set i y = xs.take i ++ y :: xs.drop (i + 1) := by rw [List.set_eq_take_append_cons_drop, if_pos hi]
  rw [this]
  simp only [msC, List.flatMap_append, List.flatMap_cons, hy, List.append_assoc]
theorem msC_rep (k : Nat) (z : α) : (List.replicate k (enc z)).flatten = msC enc (List.replicate k z) := by
  induction k with
  | zero => rfl
  | succ k ih => simp only [List.replicate_succ, List.flatten_cons, ih, msC, List.flatMap_cons]
end
theorem iad_m (n i b off len : Nat) : iadT n i (.msl b off len n) = if i < len then if n = 0 then none else some (.ptr b (off + i * n)) else none := by
  simp only [iadT, true_and, ne_eq]
  by_cases h : i < len <;> by_cases h' : n = 0 <;> simp [h, h']
def eU (n : Nat) : List T := [.int .u64 n]
def Apd (n0 : Nat) (H : Heap) (k : SK) : Prop := k = .nil ∨ k = .full ∨ ∃ t e, k = .own t e ∧ n0 ≤ t ∧ H[t]? = some (.tok e)
structure Stay (n0 : Nat) (H : Heap) (k : SK) (H' : Heap) : Prop where
  len : H.length ≤ H'.length
  get : ∀ b x, H[b]? = some x → (∀ e, k ≠ .own b e) → H'[b]? = some x
  ext : ∀ H0 : Heap, H0.length ≤ n0 → Ext H0 H → Ext H0 H'
theorem Stay.cells {n0 : Nat} {H H' : Heap} {k : SK} (h : Stay n0 H k H') (ha : Apd n0 H k) {b : Nat} {x : B} (hx : H[b]? = some x) (ht : ∀ e, x ≠ .tok e) : H'[b]? = some x := h.get b x hx fun e he => by
  rcases ha with h | h | ⟨t, e', h, _, h'⟩
  · rw [he] at h; cases h
  · rw [he] at h; cases h
  · rw [he] at h; cases h; rw [hx] at h'; cases h'; exact ht _ rfl
theorem app_ok {n0 : Nat} {H : Heap} {k : SK} {bytes : Nat} (es new : List (List T)) (hk : Apd n0 H k) (hn0 : n0 ≤ H.length) (hnew : new ≠ []) (hr : roomOk (es.length + new.length) bytes = true) :
    ∃ k' H', appT H bytes k es new = some (.sl k' (es ++ new.map (·.map T.erase)), H') ∧ Apd n0 H' k' ∧ Stay n0 H k H' := by
  unfold appT
  cases new with
  | nil => exact absurd rfl hnew
  | cons c new =>
    simp only [hr, if_true]
    rcases hk with rfl | rfl | ⟨t, e, rfl, ht, hg⟩
    · exact ⟨_, _, rfl, .inr (.inr ⟨_, _, rfl, hn0, g_tail rfl⟩), ⟨by simp, fun b x hx _ => by rw [g_app (glt hx)]; exact hx, fun H0 _ h => h.app _⟩⟩
    · exact ⟨_, _, rfl, .inr (.inr ⟨_, _, rfl, hn0, g_tail rfl⟩), ⟨by simp, fun b x hx _ => by rw [g_app (glt hx)]; exact hx, fun H0 _ h => h.app _⟩⟩
    · simp only [hg, if_true]
      refine ⟨_, _, rfl, .inr (.inr ⟨_, _, rfl, ht, g_eq (glt hg)⟩), ⟨by simp, fun b x hx hne => ?_, fun H0 h0 h => h.set (Nat.le_trans h0 ht) _⟩⟩
      have : t ≠ b := fun h => hne e (by rw [h])
      rw [g_ne this]; exact hx
theorem apd_nil (n0 : Nat) (H : Heap) : Apd n0 H .nil := .inl rfl
theorem Apd.ext {n0 : Nat} {H H' : Heap} {k : SK} (h : Apd n0 H k) (hx : Ext H H') : Apd n0 H' k := by
  rcases h with h | h | ⟨t, e, h, h1, h2⟩
  · exact .inl h
  · exact .inr (.inl h)
  · exact .inr (.inr ⟨t, e, h, h1, hx.get h2⟩)
theorem Apd.set {n0 : Nat} {H : Heap} {k : SK} (h : Apd n0 H k) {c : Nat} {x : B} (hx : H[c]? = some x) (ht : ∀ e, x ≠ .tok e) (y : B) : Apd n0 (H.set c y) k := by
  rcases h with h | h | ⟨t, e, h, h1, h2⟩
  · exact .inl h
  · exact .inr (.inl h)
  · refine .inr (.inr ⟨t, e, h, h1, ?_⟩)
    have : c ≠ t := fun he => by subst he; rw [hx] at h2; cases h2; exact ht _ rfl
    rw [g_ne this]; exact h2
theorem endR_r {n b : Nat} {res : List Rs} {Q : Out → Heap → Prop} {R : Regs} {H : Heap} (h : R n = .tup [.ptr b 0]) (hd : H[b]? = some .dfr)
    (hq : match resT R (H.set b .dead) res with | some v => Q (.val v) (H.set b .dead) | none => False) : endR n res Q (.ex .ret R) H :=
  ⟨[b], by rw [h]; rfl, by simp, by simp [hd], hq⟩
theorem push0 (b : Nat) : pushMark (.tup []) b = .tup [.ptr b 0] := rfl
theorem roomT {n m : Nat} (h : (n + n / 4 + 512) * m ≤ 281474976710656) : roomOk n m = true := by simp [roomOk, h]
theorem all_map {α : Type} {enc : α → List T} {n : Nat} (hn : ∀ x, (enc x).length = n) (l : List α) : (l.map enc).all (fun c => c.length == n) = true := by simp [hn]
def Mut {α : Type} (enc : α → List T) (n n0 : Nat) (H : Heap) (t : T) (l : List α) : Prop :=
  (l = [] ∧ t = .sl .nil []) ∨ ∃ b, t = .msl b 0 l.length n ∧ H[b]? = some (.cells (msC enc l)) ∧ n0 ≤ b
theorem mut_nil {α : Type} (enc : α → List T) (n n0 : Nat) (H : Heap) : Mut enc n n0 H (.sl .nil []) [] := .inl ⟨rfl, rfl⟩
theorem Mut.ext {α : Type} {enc : α → List T} {n n0 : Nat} {H H' : Heap} {t : T} {l : List α} (h : Mut enc n n0 H t l) (hx : Ext H H') : Mut enc n n0 H' t l := by
  rcases h with h | ⟨b, h1, h2, h3⟩
  · exact .inl h
  · exact .inr ⟨b, h1, hx.get h2, h3⟩
theorem Mut.len {α : Type} {enc : α → List T} {n n0 : Nat} {H : Heap} {t : T} {l : List α} (h : Mut enc n n0 H t l) : lenT H .sl t = some l.length := by
  rcases h with ⟨rfl, rfl⟩ | ⟨b, rfl, _, _⟩ <;> rfl
structure StayM (n0 : Nat) (H : Heap) (t : T) (H' : Heap) : Prop where
  len : H.length ≤ H'.length
  get : ∀ b x, H[b]? = some x → (∀ off len n, t ≠ .msl b off len n) → H'[b]? = some x
  ext : ∀ H0 : Heap, H0.length ≤ n0 → Ext H0 H → Ext H0 H'
theorem appM_ok {α : Type} {enc : α → List T} {n n0 : Nat} (hn : ∀ x, (enc x).length = n) {H : Heap} {t : T} {l : List α} {bytes : Nat} (new : List α) (h : Mut enc n n0 H t l) (hn0 : n0 ≤ H.length) (hnew : new ≠ []) (hr : roomOk (l.length + new.length) bytes = true) :
    ∃ t' H', appM H n bytes t (new.map enc) = some (t', H') ∧ Mut enc n n0 H' t' (l ++ new) ∧ StayM n0 H t H' := by
  have hfl : (new.map enc).flatten = msC enc new := by simp [msC, List.flatMap]
  have happ : ∀ l : List α, msC enc l ++ msC enc new = msC enc (l ++ new) := fun l => by simp [msC]
  unfold appM
  cases new with
  | nil => exact absurd rfl hnew
  | cons c new =>
    rcases h with ⟨rfl, rfl⟩ | ⟨b, rfl, hb, hb0⟩
    · simp only [List.map_cons, List.length_cons, List.length_nil, List.length_map, Nat.zero_add] at hr hfl ⊢
      simp only [hr, and_true, if_true]
      refine ⟨_, _, rfl, .inr ⟨H.length, by simp, ?_, hn0⟩, ⟨by simp, fun b x hx _ => by rw [g_app (glt hx)]; exact hx, fun H0 _ h => h.app _⟩⟩
      rw [g_tail rfl, hfl]; rfl
    · have hc : l.length * n = (msC enc l).length := (msC_len hn l).symm
      simp only [List.map_cons, List.length_cons, List.length_map] at hr hfl ⊢
      simp only [hb, hc, hr, and_self, if_true]
      refine ⟨_, _, rfl, .inr ⟨H.length, by simp, ?_, hn0⟩, ⟨by simp, fun b' x hx hne => ?_, fun H0 h0 h => (h.set (Nat.le_trans h0 hb0) _).app _⟩⟩
      · rw [g_tail (by simp), hfl, happ]
      · have hbb : b ≠ b' := fun e => hne 0 l.length n (by rw [e])
        rw [g_app (by rw [List.length_set]; exact glt hx), g_ne hbb]; exact hx
theorem frzE_ms {α : Type} {enc : α → List T} {n : Nat} (hn : ∀ x, (enc x).length = n) (l : List α) : frzE (msC enc l) 0 l.length n = l.map enc := by
  unfold frzE
  refine List.ext_getElem? fun i => ?_
  by_cases hi : i < l.length
  · have := msC_get hn (List.getElem?_eq_getElem hi) 0 n (by omega)
    rw [ldcB_c] at this
    split at this
    · simp only [Option.some.injEq, Nat.add_zero, List.drop_zero] at this
      simp only [List.getElem?_map, List.getElem?_range hi, Option.map_some, Nat.zero_add, this, List.getElem?_eq_getElem hi]
      rw [List.take_of_length_le (by rw [hn]; omega)]
    · cases this
  · rw [List.getElem?_eq_none (by simp; omega), List.getElem?_eq_none (by simp; omega)]
theorem W.frz1 {α : Type} {enc : α → List T} {n : Nat} (hn : ∀ x, (enc x).length = n) {E : Env} {f : Nat} {az : List T} {H : Heap} {l : List α} {Q : Out → Heap → Prop}
    (h : W E (.call f az) H (fun o H' => ∃ b, o = .val (.msl b 0 l.length n) ∧ H'[b]? = some (.cells (msC enc l)) ∧ Q (.val (.sl .arg (l.map enc))) (H'.set b .dead))) : W E (.call f az) H Q := by
  refine .frz _ h fun o H' ⟨b, ho, hb, hq⟩ => ⟨_, b, _, ho, rfl, hb, ?_⟩
  have hc : 0 + l.length * n ≤ (msC enc l).length := by rw [msC_len hn]; omega
  simp only [frzV, Go.Rmp.frz1, hc, and_self, if_true, frzE_ms hn]
  exact hq
end Go.Rmp
end

section
namespace Go.Rmp
set_option maxRecDepth 10000
abbrev o1 (d : Nat) (b : Bo) : O := ⟨some d, .b b, none, []⟩
def insIR (n bytes : Nat) (z : List T) (fr : Nat) : Fn := ⟨95, 3, [.t 6],
  C.seq (.ops [o1 6 (.mov (.c (.sl .nil [])))]) <|
  C.seq (.ops [o1 10 (.mov (.r 0)), o1 11 (.mov (.r 1)), o1 12 (.sll n (.r 10) (some (.r 11)) none none)]) <|
  C.seq (.ops [o1 13 (.mov (.r 2)), o1 14 (.len .sl (.r 13)), o1 7 (.mov (.r 14))]) <|
  C.seq (C.seq (.ops [o1 15 (.mov (.r 7)), o1 16 (.bin .eql (.r 15) (.c (.int .i64 0)))]) <|
  .cond (.r 16)
    (C.seq (.ops [o1 17 (.mov (.r 0)), o1 6 (.mov (.r 17))]) <|
    .ret)
    (.skip)) <|
  C.seq (.ops [o1 18 (.mov (.r 0)), o1 19 (.len .sl (.r 18)), o1 8 (.mov (.r 19))]) <|
  C.seq (C.seq (.ops [o1 20 (.mov (.r 1)), o1 21 (.mov (.r 8)), o1 22 (.bin .eql (.r 20) (.r 21))]) <|
  .cond (.r 22)
    (C.seq (.ops [o1 23 (.mov (.r 0)), o1 24 (.mov (.r 2)), o1 25 (.app n bytes true (.r 23) (.r 24)), o1 6 (.mov (.r 25))]) <|
    .ret)
    (.skip)) <|
  C.seq (C.seq (.ops [o1 26 (.mov (.r 8)), o1 27 (.mov (.r 7)), o1 28 (.bin .add (.r 26) (.r 27)), o1 29 (.mov (.r 0)), o1 30 (.cap (.r 29)), o1 31 (.bin .gtr (.r 28) (.r 30))]) <|
  .cond (.r 31)
    (C.seq (.ops [o1 32 (.mov (.r 0)), o1 33 (.mov (.r 1)), o1 34 (.sll n (.r 32) none (some (.r 33)) none), o1 35 (.mov (.r 8)), o1 36 (.mov (.r 7)), o1 37 (.bin .add (.r 35) (.r 36)), o1 38 (.mov (.r 1)), o1 39 (.bin .sub (.r 37) (.r 38)), o1 40 (.apz n bytes z (.r 34) (.r 39)), o1 9 (.mov (.r 40))]) <|
    C.seq (.ops [o1 41 (.mov (.r 9)), o1 42 (.mov (.r 1)), o1 43 (.sll n (.r 41) (some (.r 42)) none none), o1 44 (.mov (.r 2)), o1 45 (.cpy n (.r 43) (.r 44))]) <|
    C.seq (.ops [o1 46 (.mov (.r 9)), o1 47 (.mov (.r 1)), o1 48 (.mov (.r 7)), o1 49 (.bin .add (.r 47) (.r 48)), o1 50 (.sll n (.r 46) (some (.r 49)) none none), o1 51 (.mov (.r 0)), o1 52 (.mov (.r 1)), o1 53 (.sll n (.r 51) (some (.r 52)) none none), o1 54 (.cpy n (.r 50) (.r 53))]) <|
    C.seq (.ops [o1 55 (.mov (.r 9)), o1 6 (.mov (.r 55))]) <|
    .ret)
    (.skip)) <|
  C.seq (.ops [o1 56 (.mov (.r 0)), o1 57 (.mov (.r 8)), o1 58 (.mov (.r 7)), o1 59 (.bin .add (.r 57) (.r 58)), o1 60 (.sll n (.r 56) none (some (.r 59)) none), o1 0 (.mov (.r 60))]) <|
  C.seq (C.seq (.ops [o1 61 (.mov (.r 2)), o1 62 (.mov (.r 0)), o1 63 (.mov (.r 1)), o1 64 (.mov (.r 7)), o1 65 (.bin .add (.r 63) (.r 64)), o1 66 (.sll n (.r 62) (some (.r 65)) none none), o1 67 (.ovl n (.r 61) (.r 66)), o1 68 (.un .not (.r 67))]) <|
  .cond (.r 68)
    (C.seq (.ops [o1 69 (.mov (.r 0)), o1 70 (.mov (.r 1)), o1 71 (.mov (.r 7)), o1 72 (.bin .add (.r 70) (.r 71)), o1 73 (.sll n (.r 69) (some (.r 72)) none none), o1 74 (.mov (.r 0)), o1 75 (.mov (.r 1)), o1 76 (.sll n (.r 74) (some (.r 75)) none none), o1 77 (.cpy n (.r 73) (.r 76))]) <|
    C.seq (.ops [o1 78 (.mov (.r 0)), o1 79 (.mov (.r 1)), o1 80 (.sll n (.r 78) (some (.r 79)) none none), o1 81 (.mov (.r 2)), o1 82 (.cpy n (.r 80) (.r 81))]) <|
    C.seq (.ops [o1 83 (.mov (.r 0)), o1 6 (.mov (.r 83))]) <|
    .ret)
    (.skip)) <|
  C.seq (.ops [o1 84 (.mov (.r 0)), o1 85 (.mov (.r 8)), o1 86 (.sll n (.r 84) (some (.r 85)) none none), o1 87 (.mov (.r 2)), o1 88 (.cpy n (.r 86) (.r 87))]) <|
  C.seq (.ops [o1 89 (.mov (.r 0)), o1 90 (.mov (.r 1)), o1 91 (.sll n (.r 89) (some (.r 90)) none none), o1 92 (.mov (.r 7)), ⟨some 93, .call fr [(.r 91), (.r 92)], none, []⟩]) <|
  C.seq (.ops [o1 94 (.mov (.r 0)), o1 6 (.mov (.r 94))]) <|
  .ret⟩
section
variable {α : Type} {enc : α → List T} {n : Nat}
theorem elemsK_ms (hn : ∀ x, (enc x).length = n) {H : Heap} {b : Nat} {xs : List α} (hb : H[b]? = some (.cells (msC enc xs))) (j k l c : Nat) (hjk : j + k ≤ xs.length) :
    elemsK H n k (.msl b (j * n) l n) = some (((xs.drop j).take k).map enc) ∧ elemsK H n k (.mslc b (j * n) l n c) = some (((xs.drop j).take k).map enc) := by
  have hm : j * n + k * n ≤ (msC enc xs).length := by rw [msC_len hn, ← Nat.add_mul]; exact Nat.mul_le_mul_right n hjk
  have e : (List.range k).map (fun i => ((msC enc xs).drop (j * n + i * n)).take n) = ((xs.drop j).take k).map enc := by
    have h1 := frzE_ms hn ((xs.drop j).take k)
    have hl : ((xs.drop j).take k).length = k := by simp; omega
    rw [hl] at h1
    rw [← h1]
    unfold frzE
    refine List.map_congr_left fun i hi => ?_
    have hi := List.mem_range.1 hi
    rw [Nat.zero_add, ← msC_take hn, ← msC_drop hn, List.drop_take, List.drop_drop, List.take_take]
    congr 1
    have : i * n + n ≤ k * n := by rw [← Nat.succ_mul]; exact Nat.mul_le_mul_right n hi
    omega
  simp -implicitDefEqProofs only [elemsK, hb, hm, and_self, if_true, e]
theorem cpy_ms (hn : ∀ x, (enc x).length = n) (hn0 : n ≠ 0) {H : Heap} {b : Nat} {xs ys : List α} {y : T} {ly len : Nat} (hb : H[b]? = some (.cells (msC enc xs))) (j c : Nat) (hj : j ≤ xs.length) (hly : lenM y = some ly) (hy : elemsK H n (min ly len) y = some (ys.map enc)) (hyl : ys.length = min ly len) :
    cpyT H n (.msl b (j * n) len n) y = some (.int .i64 (min ly len : Nat), H.set b (.cells (msC enc (xs.take j ++ ys ++ xs.drop (j + ys.length))))) ∧
    cpyT H n (.mslc b (j * n) len n c) y = some (.int .i64 (min ly len : Nat), H.set b (.cells (msC enc (xs.take j ++ ys ++ xs.drop (j + ys.length))))) := by
  have h1 : j * n ≤ (msC enc xs).length := by rw [msC_len hn]; exact Nat.mul_le_mul_right n hj
  have e : (msC enc xs).take (j * n) ++ (ys.map enc).flatten ++ (msC enc xs).drop (j * n + (min ly len) * n) = msC enc (xs.take j ++ ys ++ xs.drop (j + ys.length)) := by
    rw [← hyl, ← Nat.add_mul, msC_take hn, msC_drop hn]
    simp [msC, List.flatMap]
  simp -implicitDefEqProofs only [cpyT, hly, hb, hy, h1, hn0, ne_eq, not_false_eq_true, and_self, if_true, e]
theorem apz_ms (hn : ∀ x, (enc x).length = n) (hn0 : n ≠ 0) {H : Heap} {b bytes : Nat} {xs : List α} (zv : α) (hb : H[b]? = some (.cells (msC enc xs))) (i k c : Nat) (hi : i ≤ xs.length) (hk : 0 < k) (hc : c < i + k) (hr : roomOk (i + k) bytes = true) :
    apzT H n bytes (enc zv) (.mslc b 0 i n c) k = some (.msl H.length 0 (i + k) n, H ++ [.cells (msC enc (xs.take i ++ List.replicate k zv))]) := by
  have h1 := (elemsK_ms hn hb 0 i i c (by omega)).2
  rw [Nat.zero_mul] at h1
  have e : ((xs.take i).map enc).flatten ++ (List.replicate k (enc zv)).flatten = msC enc (xs.take i ++ List.replicate k zv) := by
    rw [msC_rep]; simp [msC, List.flatMap]
  simp -implicitDefEqProofs only [List.drop_zero] at h1
  simp -implicitDefEqProofs only [apzT, h1, hn0, ne_eq, not_false_eq_true, hk, hc, hn, hr, and_self, if_true, e]
theorem elems_one (hn : ∀ x, (enc x).length = n) {H : Heap} {bv : Nat} {v : α} (hv : H[bv]? = some (.cells (enc v))) : elemsOf H n (.msl bv 0 1 n) = some [enc v] := by
  have h1 : 0 + 1 * n ≤ (enc v).length := by rw [hn]; omega
  simp -implicitDefEqProofs only [elemsOf, hv, h1, and_self, if_true]
  have : (List.range 1).map (fun i => ((enc v).drop (0 + i * n)).take n) = [enc v] := by
    simp [List.range_succ, List.take_of_length_le (Nat.le_of_eq (hn v))]
  rw [this]
structure StayI (n0 : Nat) (H : Heap) (t : T) (H' : Heap) : Prop where
  len : H.length ≤ H'.length
  get : ∀ b x, H[b]? = some x → (∀ off len n, t ≠ .msl b off len n) → H'[b]? = some x
  ext : ∀ H0 : Heap, H0.length ≤ n0 → Ext H0 H → Ext H0 H'
def InsQ (enc : α → List T) (n n0 : Nat) (H : Heap) (t : T) (ys : List α) : Out → Heap → Prop := fun o H' => ∃ b', o = .val (.msl b' 0 ys.length n) ∧ H'[b']? = some (.cells (msC enc ys)) ∧ n0 ≤ b' ∧ StayI n0 H t H' ∧ (H.length ≤ b' ∨ ∃ off len n, t = .msl b' off len n)
theorem appM_fr {H H' : Heap} {n bytes b off len m : Nat} {x : T} {new : List (List T)} (h : appM H n bytes x new = some (.msl b off len m, H')) (hn : new ≠ []) : H.length ≤ b := by
  unfold appM at h
  split at h
  · exact absurd rfl hn
  · split at h
    · split at h
      · simp at h; omega
      · cases h
    · split at h
      · simp at h; omega
      · cases h
    · split at h
      · split at h
        · simp at h; omega
        · cases h
      · cases h
    · cases h
theorem ins_nil {E : Env} {f bytes fr : Nat} (hn : ∀ x, (enc x).length = n) (hn0 : n ≠ 0) (zv : α) (hf : E.fn f = some (insIR n bytes (enc zv) fr)) (n0 bv : Nat) (v : α) (H : Heap) (hH : n0 ≤ H.length) (hv : H[bv]? = some (.cells (enc v))) (hr : roomOk 1 bytes = true) :
    W E (.call f [.sl .nil [], .int .i64 0, .msl bv 0 1 n]) H (InsQ enc n n0 H (.sl .nil []) [v]) := by
  refine W.fnI hf rfl rfl ?_
  have h1 := elems_one hn hv
  obtain ⟨t', H', ha, hm, hst⟩ := appM_ok (enc := enc) hn (bytes := bytes) [v] (mut_nil enc n n0 H) hH (by simp) (by simpa using hr)
  simp -implicitDefEqProofs only [List.map_cons, List.map_nil] at ha
  have hfr := fun b' ml (e : t' = T.msl b' 0 ml n) => appM_fr (e ▸ ha) (by simp)
  have n0' : natOf (.int .i64 0) = some 0 := rfl
  have z0 : ((0 : Nat) : Int) = 0 := rfl
  simp -implicitDefEqProofs only [insIR, o1, reduceIte, Int.reduceLT, Int.reduceLE, Int.reduceBEq, Int.reduceBNe, Int.reduceEq, Nat.reduceAdd, Nat.reduceLeDiff, Nat.reduceLT, Nat.reduceEqDiff, S1, z0, n0', Nat.le_refl, and_self, SK.cut, h1, fgt, ha]
  rcases hm with ⟨h0, _⟩ | ⟨b', rfl, hb', hbn⟩
  · simp at h0
  · exact ⟨b', rfl, hb', hbn, ⟨hst.len, hst.get, hst.ext⟩, .inl (hfr _ _ rfl)⟩
theorem ins_msl {E : Env} {f bytes fr : Nat} (hn : ∀ x, (enc x).length = n) (hn0 : n ≠ 0) (zv : α) (hf : E.fn f = some (insIR n bytes (enc zv) fr)) (n0 bv b i : Nat) (v : α) (xs : List α) (H : Heap) (hH : n0 ≤ H.length) (hv : H[bv]? = some (.cells (enc v))) (hb : H[b]? = some (.cells (msC enc xs))) (hbn : n0 ≤ b) (hne : bv ≠ b)
    (hi : i ≤ xs.length) (hl : xs.length < 4611686018427387903) (hr : roomOk (xs.length + 1) bytes = true) :
    W E (.call f [.msl b 0 xs.length n, .int .i64 i, .msl bv 0 1 n]) H (InsQ enc n n0 H (.msl b 0 xs.length n) (xs.take i ++ v :: xs.drop i)) := by
  have hyl : (xs.take i ++ v :: xs.drop i).length = xs.length + 1 := by simp; omega
  refine W.revl (b := b) (off := 0) (len := xs.length) (n := n) 0 (fun o H' => ∃ t b', o = .val t ∧ fgt t = .msl b' 0 (xs.length + 1) n ∧ H'[b']? = some (.cells (msC enc (xs.take i ++ v :: xs.drop i))) ∧ n0 ≤ b' ∧ StayI n0 H (.msl b 0 xs.length n) H' ∧ (H.length ≤ b' ∨ ∃ off len m, (.msl b 0 xs.length n : T) = .msl b' off len m)) rfl (fun c hc => ?_) ?_
  rotate_left
  · rintro t H' ⟨t', b', ht, hfg, h1, h2, h3⟩
    cases ht
    exact ⟨b', by rw [hfg, hyl], h1, h2, h3⟩
  refine W.fnI hf rfl rfl ?_
  have h1 := elems_one hn hv
  have w1 : IntKind.i64.wrap ((xs.length : Int) + ((1 : Nat) : Int)) = ((xs.length + 1 : Nat) : Int) := by rw [wrap64 (by omega)]; omega
  have w2 : IntKind.i64.wrap ((i : Int) + ((1 : Nat) : Int)) = ((i + 1 : Nat) : Int) := by rw [wrap64 (by omega)]; omega
  have lb := glt hb
  have lv := glt hv
  by_cases hil : i = xs.length
  · subst hil
    obtain ⟨t', H', ha, hm, hst⟩ := appM_ok (enc := enc) (n0 := n0) (t := .msl b 0 xs.length n) hn (bytes := bytes) [v] (.inr ⟨b, rfl, hb, hbn⟩) hH (by simp) (by simpa using hr)
    simp -implicitDefEqProofs only [List.map_cons, List.map_nil] at ha
    have hfr := fun b' ml (e : t' = T.msl b' 0 ml n) => appM_fr (e ▸ ha) (by simp)
    simp -implicitDefEqProofs only [insIR, o1, reduceIte, Int.reduceLT, Int.reduceLE, Int.reduceBEq, Int.reduceBNe, Int.reduceEq, Nat.reduceAdd, Nat.reduceLeDiff, Nat.reduceLT, Nat.reduceEqDiff, S1, natOf_nat, Nat.le_refl, hc, and_self, h1, fgt, ha]
    rcases hm with ⟨h0, _⟩ | ⟨b', rfl, hb', hbn'⟩
    · simp at h0
    · refine ⟨_, b', rfl, by simp [fgt], ?_, hbn', ⟨hst.len, hst.get, hst.ext⟩, .inl (hfr _ _ rfl)⟩
      rw [hb']; simp
  · have hlt : i < xs.length := by omega
    have hne' : ¬ ((i : Int) = (xs.length : Int)) := by omega
    have ic : (i < c ∨ i = 0) = True := by simp; omega
    have i1 : (i + 1 < c ∨ i + 1 = 0) = (i + 1 < c) := by simp
    have mi : min 1 (xs.length + 1 - i) = 1 := by omega
    have hevk := elemsK_ms hn (xs := [v]) (b := bv) (H := H)
    by_cases hcap : c < xs.length + 1
    · have hcl : c = xs.length := by omega
      subst hcl
      have w3 : IntKind.i64.wrap (((xs.length + 1 : Nat) : Int) - (i : Int)) = ((xs.length + 1 - i : Nat) : Int) := by rw [wrap64 (by omega)]; omega
      have hsum : i + (xs.length + 1 - i) = xs.length + 1 := by omega
      have ha := apz_ms (bytes := bytes) hn hn0 zv hb i (xs.length + 1 - i) xs.length hi (by omega) (by omega) (by rw [hsum]; exact hr)
      rw [hsum] at ha
      have c0 : (0 < xs.length ∨ True) = True := by simp
      have e1 : ¬ (i = xs.length + 1) := by omega
      have e2 : ¬ (i + 1 = xs.length + 1) := by omega
      have hle : i ≤ xs.length + 1 := by omega
      have hle2 : i + 1 ≤ xs.length + 1 := by omega
      have hbt : (H ++ [B.cells (msC enc (xs.take i ++ List.replicate (xs.length + 1 - i) zv))])[H.length]? = some (.cells (msC enc (xs.take i ++ List.replicate (xs.length + 1 - i) zv))) := g_tail rfl
      have hvt : (H ++ [B.cells (msC enc (xs.take i ++ List.replicate (xs.length + 1 - i) zv))])[bv]? = some (.cells (msC enc [v])) := by rw [g_app lv, hv]; simp [msC]
      have hk1 := (elemsK_ms hn hvt 0 1 1 0 (by simp)).1
      simp -implicitDefEqProofs only [Nat.zero_mul, List.drop_zero] at hk1
      have hcp1 := (cpy_ms hn hn0 (ys := [v]) (y := .msl bv 0 1 n) (ly := 1) (len := xs.length + 1 - i) hbt i 0 (by simp; omega) rfl (by rw [mi]; simpa using hk1) (by simp; omega)).1
      rw [mi] at hcp1
      have hx2 : (xs.take i ++ List.replicate (xs.length + 1 - i) zv).take i ++ [v] ++ (xs.take i ++ List.replicate (xs.length + 1 - i) zv).drop (i + [v].length) = xs.take i ++ v :: List.replicate (xs.length - i) zv := by
        have t1 : (xs.take i).length = i := by simp; omega
        have t2 : i + 1 - i = 1 := by omega
        have t3 : xs.length + 1 - i - 1 = xs.length - i := by omega
        rw [List.take_append_of_le_length (by omega), List.take_of_length_le (by omega), List.drop_append, List.drop_eq_nil_of_le (by simp; omega), t1]
        simp [t2, t3]
      rw [hx2, hset_tail] at hcp1
      have hbt2 : (H ++ [B.cells (msC enc (xs.take i ++ v :: List.replicate (xs.length - i) zv))])[H.length]? = some (.cells (msC enc (xs.take i ++ v :: List.replicate (xs.length - i) zv))) := g_tail rfl
      have hb2 : (H ++ [B.cells (msC enc (xs.take i ++ v :: List.replicate (xs.length - i) zv))])[b]? = some (.cells (msC enc xs)) := by rw [g_app lb, hb]
      have hk2 := (elemsK_ms hn hb2 i (xs.length - i) (xs.length - i) (xs.length - i) (by omega)).2
      have hdl : ((xs.drop i).take (xs.length - i)) = xs.drop i := List.take_of_length_le (by simp)
      rw [hdl] at hk2
      have mi2 : min (xs.length - i) (xs.length + 1 - (i + 1)) = xs.length - i := by omega
      have hcp2 := (cpy_ms hn hn0 (ys := xs.drop i) (y := .mslc b (i * n) (xs.length - i) n (xs.length - i)) (ly := xs.length - i) (len := xs.length + 1 - (i + 1)) hbt2 (i + 1) 0 (by simp; omega) rfl (by rw [mi2]; exact hk2) (by simp)).1
      have hx3 : (xs.take i ++ v :: List.replicate (xs.length - i) zv).take (i + 1) ++ xs.drop i ++ (xs.take i ++ v :: List.replicate (xs.length - i) zv).drop (i + 1 + (xs.drop i).length) = xs.take i ++ v :: xs.drop i := by
        have t1 : (xs.take i).length = i := by simp; omega
        have t2 : i + 1 - i = 1 := by omega
        have d1 : (xs.take i ++ v :: List.replicate (xs.length - i) zv).drop (i + 1 + (xs.drop i).length) = [] := List.drop_eq_nil_of_le (by rw [List.length_append, t1]; simp; omega)
        have d2 : (xs.take i).take (i + 1) = xs.take i := List.take_of_length_le (by omega)
        rw [d1, List.take_append, d2, t1, t2]
        simp
      rw [hx3, hset_tail] at hcp2
      simp -implicitDefEqProofs only [insIR, o1, reduceIte, Int.reduceLT, Int.reduceLE, Int.reduceBEq, Int.reduceBNe, Int.reduceEq, Nat.reduceAdd, Nat.reduceLeDiff, Nat.reduceLT, Nat.reduceEqDiff, S1, natOf_nat, Nat.le_refl, hc, and_self, hi, ic, hne', hil, w1, w2, w3, hcap, Nat.zero_le, Nat.zero_mul, Nat.sub_zero, c0, ha, hle, hle2, e1, e2, hcp1, hcp2, or_true, if_true]
      exact ⟨_, H.length, rfl, rfl, g_tail rfl, hH, ⟨by simp, fun b' x hx _ => by rw [g_app (glt hx)]; exact hx, fun H0 _ h => h.app _⟩, .inl (Nat.le_refl _)⟩
    · have hcap' : xs.length + 1 ≤ c := by omega
      have hcap2 : ¬ c < xs.length + 1 := hcap
      have e1 : ¬ (i = xs.length + 1) := by omega
      have hle : i ≤ xs.length + 1 := by omega
      have hle2 : i + 1 ≤ xs.length + 1 := by omega
      have c0 : (0 < c ∨ True) = True := by simp
      have c1 : i + 1 < c := by omega
      have c2 : i < c := by omega
      have hlen0 : 0 < (msC enc xs).length := by rw [msC_len hn]; exact Nat.mul_pos (by omega) (by omega)
      have hov : ovlT H n (.msl bv 0 1 n) (.mslc b ((i + 1) * n) (xs.length + 1 - (i + 1)) n (c - (i + 1))) = some (.bool false, H) := by
        simp -implicitDefEqProofs only [ovlT, hv, hb, ne_eq, hne, not_false_eq_true, hlen0, and_self, if_true]
      have hk2 := (elemsK_ms hn hb i (xs.length - i) (xs.length + 1 - i) (c - i) (by omega)).2
      have hdl : ((xs.drop i).take (xs.length - i)) = xs.drop i := List.take_of_length_le (by simp)
      rw [hdl] at hk2
      have mi2 : min (xs.length + 1 - i) (xs.length + 1 - (i + 1)) = xs.length - i := by omega
      have hcp1 := (cpy_ms hn hn0 (ys := xs.drop i) (y := .mslc b (i * n) (xs.length + 1 - i) n (c - i)) (ly := xs.length + 1 - i) (len := xs.length + 1 - (i + 1)) hb (i + 1) (c - (i + 1)) (by omega) rfl (by rw [mi2]; exact hk2) (by rw [mi2]; simp)).2
      have hx1 : xs.take (i + 1) ++ xs.drop i ++ xs.drop (i + 1 + (xs.drop i).length) = xs.take (i + 1) ++ xs.drop i := by
        have d1 : xs.drop (i + 1 + (xs.drop i).length) = [] := List.drop_eq_nil_of_le (by rw [List.length_drop]; omega)
        rw [d1, List.append_nil]
      rw [hx1] at hcp1
      have hb2 : (H.set b (.cells (msC enc (xs.take (i + 1) ++ xs.drop i))))[b]? = some (.cells (msC enc (xs.take (i + 1) ++ xs.drop i))) := g_eq lb
      have hvt : (H.set b (.cells (msC enc (xs.take (i + 1) ++ xs.drop i))))[bv]? = some (.cells (msC enc [v])) := by rw [g_ne (Ne.symm hne), hv]; simp [msC]
      have hk1 := (elemsK_ms hn hvt 0 1 1 0 (by simp)).1
      simp -implicitDefEqProofs only [Nat.zero_mul, List.drop_zero] at hk1
      have hcp2 := (cpy_ms hn hn0 (ys := [v]) (y := .msl bv 0 1 n) (ly := 1) (len := xs.length + 1 - i) hb2 i (c - i) (by simp; omega) rfl (by rw [mi]; simpa using hk1) (by simp; omega)).2
      rw [mi] at hcp2
      have hx2 : (xs.take (i + 1) ++ xs.drop i).take i ++ [v] ++ (xs.take (i + 1) ++ xs.drop i).drop (i + [v].length) = xs.take i ++ v :: xs.drop i := by
        have t1 : (xs.take (i + 1)).length = i + 1 := by simp; omega
        rw [List.take_append_of_le_length (by omega), List.take_take, List.drop_append, List.drop_eq_nil_of_le (by simp; omega), t1]
        have t2 : min i (i + 1) = i := by omega
        simp [t2]
      rw [hx2, List.set_set] at hcp2
      simp -implicitDefEqProofs only [insIR, o1, reduceIte, Int.reduceLT, Int.reduceLE, Int.reduceBEq, Int.reduceBNe, Int.reduceEq, Nat.reduceAdd, Nat.reduceLeDiff, Nat.reduceLT, Nat.reduceEqDiff, S1, natOf_nat, Nat.le_refl, hc, and_self, hi, ic, hne', hil, w1, w2, hcap', hcap2, Nat.zero_le, Nat.zero_mul, Nat.sub_zero, c0, c1, c2, true_or, hov, hle, hle2, e1, hcp1, hcp2, or_true, if_true]
      refine ⟨_, b, rfl, rfl, g_eq lb, hbn, ⟨by simp, fun b' x hx hne2 => ?_, fun H0 h0 h => h.set (Nat.le_trans h0 hbn) _⟩, .inr ⟨_, _, _, rfl⟩⟩
      have : b ≠ b' := fun e => hne2 0 xs.length n (by rw [e])
      rw [g_ne this]; exact hx
end
end Go.Rmp
end

section
namespace Go.Rmp
def wro : List O → List Nat
  | [] => []
  | o :: l => match o.d with
    | some d => d :: wro l
    | none => wro l
def wr : C → List Nat
  | .skip => []
  | .ops l => wro l
  | .seq a b => wr a ++ wr b
  | .cond _ a b => wr a ++ wr b
  | .block _ a => wr a
  | .loop a => wr a
  | .exit _ => []
  | .ret => []
  | .rangeF n _ _ _ _ => [n]
def wrJ : J → List Nat
  | .code c _ => wr c
  | .ops l _ => wro l
  | .call _ _ => []
def regJ : J → Regs
  | .code _ R => R
  | .ops _ R => R
  | .call _ _ => fun _ => undefT
def Kp (j : J) (o : Out) : Prop := match j with
  | .call _ _ => True
  | j => ∀ e R', o = .ex e R' → ∀ t, t ∉ wrJ j → R' t = regJ j t
theorem updo_nx {R : Regs} {d : Option Nat} {v : T} {t : Nat} (h : ∀ x, d = some x → t ≠ x) : updo R d v t = R t := by
  cases d with
  | none => rfl
  | some x => simp [updo, upd, h x rfl]
theorem wro_cons {o : O} {l : List O} {t : Nat} (h : t ∉ wro (o :: l)) : (∀ x, o.d = some x → t ≠ x) ∧ t ∉ wro l := by
  unfold wro at h
  cases e : o.d with
  | none => rw [e] at h; exact ⟨fun x hx => (by cases hx), h⟩
  | some d => rw [e] at h; simp only [List.mem_cons, not_or] at h; exact ⟨fun x hx => (by cases hx; exact h.1), h.2⟩
theorem kp_ops {o : O} {l : List O} {R : Regs} {v : T} {x : Out} (h : Kp (.ops l (updo R o.d v)) x) : Kp (.ops (o :: l) R) x := fun e R' he t ht => by
  obtain ⟨h1, h2⟩ := wro_cons ht
  rw [h e R' he t h2]
  exact updo_nx h1
theorem kp_c {c : C} {R : Regs} {e : Ex} {R' : Regs} (h : ∀ t, t ∉ wr c → R' t = R t) : Kp (.code c R) (.ex e R') := fun e' R2 he t ht => by
  injection he with h1 h2
  rw [← h2]; exact h t ht
theorem kp_o {l : List O} {R : Regs} {e : Ex} {R' : Regs} (h : ∀ t, t ∉ wro l → R' t = R t) : Kp (.ops l R) (.ex e R') := fun e' R2 he t ht => by
  injection he with h1 h2
  rw [← h2]; exact h t ht
theorem W.keep {E : Env} {j : J} {H : Heap} {Q : Out → Heap → Prop} (h : W E j H Q) : W E j H (fun o H' => Q o H' ∧ Kp j o) := by
  induction h with
  | skip h => exact .skip ⟨h, kp_c fun _ _ => rfl⟩
  | exit h => exact .exit ⟨h, kp_c fun _ _ => rfl⟩
  | ret h => exact .ret ⟨h, kp_c fun _ _ => rfl⟩
  | reg _ ih => exact .reg (ih.use fun o H' h => ⟨h.1, h.2⟩)
  | @seq a b R H Q M h1 h2 h3 ih1 ih2 =>
    refine .seq _ ih1 (fun R' H' hm => (ih2 R' H' hm.1).use fun o H2 h => ⟨h.1, fun e R2 he t ht => ?_⟩) (fun o H' hm hn => ⟨h3 o H' hm.1 hn, fun e R2 he t ht => ?_⟩)
    · have ht' : t ∉ wr a ∧ t ∉ wr b := by simpa [wrJ, wr] using ht
      rw [h.2 e R2 he t ht'.2]; exact hm.2 _ _ rfl t ht'.1
    · have ht' : t ∉ wr a ∧ t ∉ wr b := by simpa [wrJ, wr] using ht
      exact hm.2 e R2 he t ht'.1
  | @cond x a b R H Q t hx h ih =>
    refine .cond t hx (ih.use fun o H' h => ⟨h.1, fun e R2 he t' ht => ?_⟩)
    have ht' : t' ∉ wr a ∧ t' ∉ wr b := by simpa [wrJ, wr] using ht
    refine h.2 e R2 he t' ?_
    cases t
    · exact ht'.2
    · exact ht'.1
  | block M h1 h2 h3 ih =>
    exact .block _ ih (fun R' H' hm => ⟨h2 R' H' hm.1, kp_c fun t ht => hm.2 _ _ rfl t ht⟩) (fun o H' hm hn => ⟨h3 o H' hm.1 hn, fun e R2 he t ht => hm.2 e R2 he t ht⟩)
  | loop M h1 h2 h3 ih1 ih2 =>
    refine .loop _ ih1 (fun R' H' hm => (ih2 R' H' hm.1).use fun o H2 h => ⟨h.1, fun e R2 he t ht => ?_⟩) (fun o H' hm hn => ⟨h3 o H' hm.1 hn, fun e R2 he t ht => hm.2 e R2 he t ht⟩)
    rw [h.2 e R2 he t ht]; exact hm.2 _ _ rfl t ht
  | nil h => exact .nil ⟨h, kp_o fun _ _ => rfl⟩
  | no hg _ ih => exact .no hg (ih.use fun o H' h => ⟨h.1, kp_ops h.2⟩)
  | op hg he hs _ ih => exact .op hg he hs (ih.use fun o H' h => ⟨h.1, kp_ops (o := ⟨_, .b _, _, _⟩) h.2⟩)
  | call M hg h1 hs _ _ ih2 => exact .call M hg h1 hs (fun v H' hm => (ih2 v H' hm).use fun o H' h => ⟨h.1, kp_ops (o := ⟨_, .call _ _, _, _⟩) h.2⟩)
  | callv M hg hf h1 hs _ _ ih2 => exact .callv M hg hf h1 hs (fun v H' hm => (ih2 v H' hm).use fun o H' h => ⟨h.1, kp_ops (o := ⟨_, .callv _ _, _, _⟩) h.2⟩)
  | yld M1 M hg hf hb hn h1 h1' h2 h2' hs3 _ hs4 _ _ _ ih3 ih4 => exact .yld M1 M hg hf hb hn h1 h1' h2 h2' hs3 (fun R' H' hm => (ih3 R' H' hm).use fun o H' h => ⟨h.1, kp_ops (o := ⟨_, .callv _ _, _, _⟩) h.2⟩) hs4 (fun e R' H' hm he => (ih4 e R' H' hm he).use fun o H' h => ⟨h.1, kp_ops (o := ⟨_, .callv _ _, _, _⟩) h.2⟩)
  | nils hs h hx hy hc ih => exact .nils hs (fun b => (ih b).use fun o H' h => ⟨h.1, kp_ops (o := ⟨_, .b _, _, _⟩) h.2⟩) hx hy hc
  | @rangeF n x ps asg body R H Q f cs M hx h1 h2 _ =>
    refine .rangeF M hx h1 (fun v H' hm => let ⟨st, pe, a, b, c, d⟩ := h2 v H' hm; ⟨st, pe, a, b, c, d, kp_c fun t ht => ?_⟩)
    have ht : t ≠ n := by simpa [wrJ, wr] using ht
    simp [upd, ht, regJ]
  | fnr M hf hn h1 h2 _ => exact .fnr M hf hn h1 (fun o H' hm => let ⟨R', bs, a, b, c, d, v, e, f⟩ := h2 o H' hm; ⟨R', bs, a, b, c, d, v, e, f, trivial⟩)
  | fn M hf hr hn h1 h2 _ => exact .fn M hf hr hn h1 (fun o H' hm => let ⟨R', a, v, b, c⟩ := h2 o H' hm; ⟨R', a, v, b, c, trivial⟩)
  | revl i M hi h1 h2 _ => exact .revl i M hi h1 (fun v H' hm => ⟨h2 v H' hm, trivial⟩)
  | frz M h1 h2 _ => exact .frz M h1 (fun o H' hm => let ⟨v, b, cs, a, c, d, e⟩ := h2 o H' hm; ⟨v, b, cs, a, c, d, e, trivial⟩)
  | nxt hg hx hb hs _ ih => exact .nxt hg hx hb hs fun t H' hm => (ih t H' hm).use fun o H' h => ⟨h.1, kp_ops (o := ⟨_, .b _, _, _⟩) h.2⟩
  | shr M h1 h2 _ => exact .shr M h1 (fun o H' hm => let ⟨v, b, cs, k, a, c, d, e⟩ := h2 o H' hm; ⟨v, b, cs, k, a, c, d, e, trivial⟩)
  | prim h => exact .prim (E.mono _ _ _ _ _ h fun t H' hm => ⟨hm, trivial⟩)
def mkR : List (Nat × T) → Regs → Regs
  | [], R => R
  | (t, v) :: l, R => upd (mkR l R) t v
theorem mkR_nil (R : Regs) : mkR [] R = R := rfl
theorem mkR_cons (t : Nat) (v : T) (l : List (Nat × T)) (R : Regs) : mkR ((t, v) :: l) R = upd (mkR l R) t v := rfl
def agree : List (Nat × T) → Regs → Prop
  | [], _ => True
  | (t, v) :: l, R => R t = v ∧ agree l R
def okV (vs : List (Nat × T)) (w : List Nat) : Bool := vs.all fun p => !w.elem p.1
theorem upd_id {R : Regs} {t : Nat} {v : T} (h : R t = v) : upd R t v = R := by
  funext x; by_cases e : x = t
  · subst e; simp [upd, h]
  · simp [upd, e]
theorem mkR_agree : ∀ (vs : List (Nat × T)) (R : Regs), agree vs R → mkR vs R = R
  | [], _, _ => rfl
  | (t, v) :: l, R, h => by rw [mkR_cons, mkR_agree l R h.2, upd_id h.1]
theorem agree_of : ∀ (vs : List (Nat × T)) (R R' : Regs), agree vs R → (∀ p ∈ vs, R' p.1 = R p.1) → agree vs R'
  | [], _, _, _, _ => trivial
  | (t, v) :: l, R, R', h, k => ⟨(k (t, v) List.mem_cons_self).trans h.1, agree_of l R R' h.2 fun p hp => k p (List.mem_cons_of_mem _ hp)⟩
theorem okV_mem {vs : List (Nat × T)} {w : List Nat} (h : okV vs w = true) : ∀ p ∈ vs, p.1 ∉ w := fun p hp hw => by
  have := (List.all_eq_true.1 h) p hp
  simp [hw] at this
theorem W.loopV {E : Env} {α : Type} {a : C} {R : Regs} {H : Heap} {Q : Out → Heap → Prop} (vs : List (Nat × T)) (I : α → Regs → Heap → Prop) (μ : α → Nat) (x : α)
    (h0 : I x R H) (step : ∀ x R H, I x R H → wpC E a (mkR vs R) H (thenQ (fun R' H' => ∃ y, μ y < μ x ∧ I y R' H') Q))
    (hv : agree vs R := by repeat' (first | exact trivial | refine And.intro rfl ?_)) (hw : okV vs (wr a) = true := by rfl) : W E (.code (.loop a) R) H Q := by
  have key : ∀ (n : Nat) (x : α) (R : Regs) (H : Heap), μ x = n → I x R H → agree vs R → W E (.code (.loop a) R) H Q := by
    intro n
    induction n using Nat.strongRecOn with
    | _ n ih =>
      intro x R H hn hI hag
      have hs := step x R H hI
      rw [mkR_agree vs R hag] at hs
      refine .loop _ (wpC_ok a R H _ hs).keep (fun R' H' hm => ?_) (fun o H' hm hno => ?_)
      · obtain ⟨⟨y, hy, hI'⟩, hk⟩ := hm
        exact ih (μ y) (hn ▸ hy) y R' H' rfl hI' (agree_of vs R R' hag fun p hp => hk _ _ rfl p.1 (okV_mem hw p hp))
      · cases o with
        | ex e R' => cases e with
          | normal => exact absurd rfl (hno R')
          | exit id => exact hm.1
          | ret => exact hm.1
        | val v => exact hm.1
  exact key _ x R H rfl h0 hv
theorem W.loopX {E : Env} {α : Type} {a : C} {R : Regs} {H : Heap} {Q : Out → Heap → Prop} (id : Nat) (vs : List (Nat × T)) (I : α → Regs → Heap → Prop) (μ : α → Nat) (x : α) (P : Regs → Heap → Prop)
    (h0 : I x R H) (step : ∀ x R H, I x R H → wpC E a (mkR vs R) H (thenQ (fun R' H' => ∃ y, μ y < μ x ∧ I y R' H') (exitQ id P Q))) (rest : ∀ R H, P R H → Q (.ex (.exit id) (mkR vs R)) H)
    (hv : agree vs R := by repeat' (first | exact trivial | refine And.intro rfl ?_)) (hw : okV vs (wr a) = true := by rfl) : W E (.code (.loop a) R) H Q := by
  have h := (W.loopV (Q := exitQ id P Q) vs I μ x h0 step hv hw).keep
  refine h.use fun o H' hm => ?_
  cases o with
  | ex e R' => cases e with
    | exit i =>
      obtain ⟨h1, hk⟩ := hm
      simp only [exitQ] at h1
      split at h1
      · rename_i e; subst e
        have hag : agree vs R' := agree_of vs R R' hv fun p hp => hk _ _ rfl p.1 (okV_mem hw p hp)
        have := rest _ _ h1
        rwa [mkR_agree vs R' hag] at this
      · exact h1
    | normal => exact hm.1
    | ret => exact hm.1
  | val v => exact hm.1
end Go.Rmp
end

section
namespace Go.Rmp
def tb : T → Option Nat
  | .msl c _ _ _ => some c
  | _ => none
end Go.Rmp
end

section
namespace Go.Proofs.Ytbkgokabcnogdaa.Ir
open Go.Rmp
set_option maxRecDepth 100000
abbrev op (d : Nat) (b : Bo) : O := ⟨some d, .b b, none, []⟩
abbrev ef (b : Bo) : O := ⟨none, .b b, none, []⟩
abbrev cl (d f : Nat) (az : List X) : O := ⟨some d, .call f az, none, []⟩
abbrev sq (a b : C) : C := .seq a b
def an6 : An := ⟨[], []⟩
def ir6 : Go.Rmp.Fn := ⟨66, 2, [.t 4],
  sq (.ops [op 4 (.mov (.c (.bool false)))]) <|
  sq (.ops [cl 8 7 [], op 5 (.mov (.r 8))]) <|
  sq (sq (.ops [cl 9 8 [], op 10 (.un .not (.r 9)), op 11 (.mov (.r 10)), ⟨(some 12), .b (.mov (.r 5)), (some (11, false)), []⟩, ⟨(some 13), .b (.eqr false .ptr (.r 12) (.c .nilp)), (some (11, false)), []⟩, op 14 (.pick (.r 11) (.c (.bool true)) (.r 13))]) <|
  .cond (.r 14)
    (sq (.ops [op 4 (.mov (.c (.bool false)))]) <|
    .ret)
    (.skip)) <|
  sq (.ops [op 15 (.mov (.r 5)), op 16 (.mov (.r 0)), cl 17 25 [(.r 15), (.r 16), (.c (.int .i64 0))]]) <|
  sq (.ops [op 19 (.mov (.r 5)), cl 20 20 [(.r 19)], op 21 (.mov (.r 5)), cl 22 24 [(.r 21)], cl 23 26 [(.r 20), (.r 22)], op 18 (.mov (.r 23)), op 24 (.ext 0 (.r 18)), op 25 (.ext 1 (.r 18)), op 6 (.mov (.r 24)), op 7 (.mov (.r 25))]) <|
  sq (sq (.ops [op 26 (.mov (.r 7)), op 27 (.bin .neq (.r 26) (.c (.int .i64 0))), op 28 (.mov (.r 27)), ⟨(some 29), .b (.mov (.r 6)), (some (28, false)), []⟩, ⟨(some 30), .b (.eqr false .ptr (.r 29) (.c .nilp)), (some (28, false)), []⟩, op 31 (.pick (.r 28) (.c (.bool true)) (.r 30)), op 32 (.mov (.r 31)), ⟨(some 33), .b (.mov (.r 5)), (some (32, false)), []⟩, ⟨(some 34), .call 20 [(.r 33)], (some (32, false)), []⟩, ⟨(some 35), .b (.mov (.r 6)), (some (32, false)), []⟩, ⟨(some 36), .call 20 [(.r 35)], (some (32, false)), []⟩, ⟨(some 37), .call 27 [(.r 34), (.r 36)], (some (32, false)), []⟩, ⟨(some 38), .b (.un .not (.r 37)), (some (32, false)), []⟩, op 39 (.pick (.r 32) (.c (.bool true)) (.r 38)), op 40 (.mov (.r 39)), ⟨(some 41), .b (.mov (.r 5)), (some (40, false)), []⟩, ⟨(some 42), .call 24 [(.r 41)], (some (40, false)), []⟩, ⟨(some 43), .b (.mov (.r 6)), (some (40, false)), []⟩, ⟨(some 44), .call 24 [(.r 43)], (some (40, false)), []⟩, ⟨(some 45), .call 23 [(.r 42), (.r 44)], (some (40, false)), []⟩, ⟨(some 46), .b (.un .not (.r 45)), (some (40, false)), []⟩, op 47 (.pick (.r 40) (.c (.bool true)) (.r 46))]) <|
  .cond (.r 47)
    (sq (.ops [op 4 (.mov (.c (.bool false)))]) <|
    .ret)
    (.skip)) <|
  sq (.ops [op 48 (.mov (.r 5)), op 49 (.mov (.r 1)), cl 50 25 [(.r 48), (.r 49), (.c (.int .i64 500))]]) <|
  sq (.ops [op 51 (.mov (.r 6)), op 52 (.mov (.r 1)), cl 53 25 [(.r 51), (.r 52), (.c (.int .i64 500))]]) <|
  sq (.ops [op 54 (.mov (.r 5)), cl 55 20 [(.r 54)], op 56 (.mov (.r 6)), cl 57 20 [(.r 56)], cl 58 27 [(.r 55), (.r 57)], op 59 (.mov (.r 58)), ⟨(some 60), .b (.mov (.r 5)), (some (59, true)), []⟩, ⟨(some 61), .call 24 [(.r 60)], (some (59, true)), []⟩, ⟨(some 62), .b (.mov (.r 6)), (some (59, true)), []⟩, ⟨(some 63), .call 24 [(.r 62)], (some (59, true)), []⟩, ⟨(some 64), .call 23 [(.r 61), (.r 63)], (some (59, true)), []⟩, op 65 (.pick (.r 59) (.r 64) (.c (.bool false))), op 4 (.mov (.r 65))]) <|
  .ret⟩
def an7 : An := ⟨[], []⟩
def ir7 : Go.Rmp.Fn := ⟨7, 0, [.t 0],
  sq (.ops [op 0 (.mov (.c .nilp))]) <|
  sq (.ops [op 1 (.mkm), op 2 (.mkm), op 3 (.mkm), op 4 (.mkm), op 5 (.build [.nilm, .nilm, .nilm, .nilm] [(0, 1, (.r 1)), (1, 1, (.r 2)), (2, 1, (.r 3)), (3, 1, (.r 4))]), op 6 (.box (.r 5)), op 0 (.mov (.r 6))]) <|
  .ret⟩
def an8 : An := ⟨[], []⟩
def ir8 : Go.Rmp.Fn := ⟨138, 0, [.t 0],
  sq (.ops [op 0 (.mov (.c (.bool false)))]) <|
  sq (.ops [cl 14 7 [], op 1 (.mov (.r 14))]) <|
  sq (sq (.ops [op 15 (.mov (.r 1)), op 16 (.eqr false .ptr (.r 15) (.c .nilp))]) <|
  .cond (.r 16)
    (sq (.ops [op 0 (.mov (.c (.bool false)))]) <|
    .ret)
    (.skip)) <|
  sq (.ops [op 18 (.mov (.r 1)), op 19 (.bsl 4 [.str ⟨#[]⟩] [(0, (.c (.str ⟨#[97]⟩))), (1, (.c (.str ⟨#[120]⟩))), (2, (.c (.str ⟨#[98]⟩))), (3, (.c (.str ⟨#[121]⟩)))]), cl 20 29 [(.r 19)], op 21 (.bsl 2 [.str ⟨#[]⟩] [(0, (.c (.str ⟨#[97]⟩))), (1, (.c (.str ⟨#[98]⟩)))]), cl 22 28 [(.r 18), (.c (.int .u64 65536)), (.r 20), (.r 21), (.c (.int .i64 5))], op 17 (.mov (.r 22)), op 23 (.ext 0 (.r 17)), op 24 (.ext 1 (.r 17)), op 2 (.mov (.r 23)), op 3 (.mov (.r 24))]) <|
  sq (.ops [op 26 (.mov (.r 1)), op 27 (.bsl 4 [.str ⟨#[]⟩] [(0, (.c (.str ⟨#[97]⟩))), (1, (.c (.str ⟨#[120]⟩))), (2, (.c (.str ⟨#[98]⟩))), (3, (.c (.str ⟨#[121]⟩)))]), cl 28 29 [(.r 27)], op 29 (.bsl 2 [.str ⟨#[]⟩] [(0, (.c (.str ⟨#[97]⟩))), (1, (.c (.str ⟨#[98]⟩)))]), cl 30 28 [(.r 26), (.c (.int .u64 65536)), (.r 28), (.r 29), (.c (.int .i64 5))], op 25 (.mov (.r 30)), op 31 (.ext 0 (.r 25)), op 32 (.ext 1 (.r 25)), op 4 (.mov (.r 31)), op 5 (.mov (.r 32))]) <|
  sq (.ops [op 33 (.mov (.r 1)), cl 34 16 [(.r 33), (.c (.str ⟨#[97]⟩))], op 6 (.alloc [.str ⟨#[]⟩, .int .u64 0, .str ⟨#[]⟩, .sl .nil []]), ef (.st 4 (.r 6) (.r 34))]) <|
  sq (.ops [op 36 (.mov (.r 1)), cl 37 14 [(.r 36), (.c (.int .u64 65536)), (.c (.int .i64 6))], op 35 (.mov (.r 37)), op 38 (.ext 0 (.r 35)), op 39 (.ext 1 (.r 35)), op 7 (.mov (.r 38)), op 8 (.mov (.r 39))]) <|
  sq (.ops [op 41 (.mov (.r 1)), op 42 (.bsl 2 [.str ⟨#[]⟩] [(0, (.c (.str ⟨#[97]⟩))), (1, (.c (.str ⟨#[122]⟩)))]), cl 43 29 [(.r 42)], op 44 (.bsl 2 [.str ⟨#[]⟩] [(0, (.c (.str ⟨#[97]⟩))), (1, (.c (.str ⟨#[99]⟩)))]), cl 45 28 [(.r 41), (.c (.int .u64 131072)), (.r 43), (.r 44), (.c (.int .i64 7))], op 40 (.mov (.r 45)), op 46 (.ext 0 (.r 40)), op 47 (.ext 1 (.r 40)), op 9 (.mov (.r 46)), op 10 (.mov (.r 47))]) <|
  sq (.ops [op 49 (.mov (.r 1)), cl 50 14 [(.r 49), (.c (.int .u64 131072)), (.c (.int .i64 9))], op 48 (.mov (.r 50)), op 51 (.ext 0 (.r 48)), op 52 (.ext 1 (.r 48)), op 11 (.mov (.r 51)), op 12 (.mov (.r 52))]) <|
  sq (.ops [op 53 (.mov (.r 1)), cl 54 20 [(.r 53)], op 13 (.mov (.r 54))]) <|
  sq (sq (.ops [op 55 (.mov (.r 3)), op 56 (.bin .neq (.r 55) (.c (.int .i64 0))), op 57 (.mov (.r 56)), ⟨(some 58), .b (.mov (.r 5)), (some (57, false)), []⟩, ⟨(some 59), .b (.bin .neq (.r 58) (.c (.int .i64 0))), (some (57, false)), []⟩, op 60 (.pick (.r 57) (.c (.bool true)) (.r 59)), op 61 (.mov (.r 60)), ⟨(some 62), .b (.mov (.r 8)), (some (61, false)), []⟩, ⟨(some 63), .b (.bin .neq (.r 62) (.c (.int .i64 0))), (some (61, false)), []⟩, op 64 (.pick (.r 61) (.c (.bool true)) (.r 63)), op 65 (.mov (.r 64)), ⟨(some 66), .b (.mov (.r 10)), (some (65, false)), []⟩, ⟨(some 67), .b (.bin .neq (.r 66) (.c (.int .i64 0))), (some (65, false)), []⟩, op 68 (.pick (.r 65) (.c (.bool true)) (.r 67)), op 69 (.mov (.r 68)), ⟨(some 70), .b (.mov (.r 12)), (some (69, false)), []⟩, ⟨(some 71), .b (.bin .neq (.r 70) (.c (.int .i64 0))), (some (69, false)), []⟩, op 72 (.pick (.r 69) (.c (.bool true)) (.r 71)), op 73 (.mov (.r 72)), ⟨(some 74), .b (.mov (.r 2)), (some (73, false)), []⟩, ⟨(some 75), .b (.un .not (.r 74)), (some (73, false)), []⟩, op 76 (.pick (.r 73) (.c (.bool true)) (.r 75)), op 77 (.mov (.r 76)), ⟨(some 78), .b (.mov (.r 4)), (some (77, false)), []⟩, op 79 (.pick (.r 77) (.c (.bool true)) (.r 78)), op 80 (.mov (.r 79)), ⟨(some 81), .b (.fad 1 (.r 6)), (some (80, false)), []⟩, ⟨(some 82), .b (.ld 1 false (.r 81)), (some (80, false)), []⟩, ⟨(some 83), .b (.bin .neq (.r 82) (.c (.int .u64 0))), (some (80, false)), []⟩, op 84 (.pick (.r 80) (.c (.bool true)) (.r 83)), op 85 (.mov (.r 84)), ⟨(some 86), .b (.mov (.r 7)), (some (85, false)), []⟩, ⟨(some 87), .b (.bin .neq (.r 86) (.c (.int .i64 2))), (some (85, false)), []⟩, op 88 (.pick (.r 85) (.c (.bool true)) (.r 87)), op 89 (.mov (.r 88)), ⟨(some 90), .b (.mov (.r 11)), (some (89, false)), []⟩, ⟨(some 91), .b (.bin .neq (.r 90) (.c (.int .i64 1))), (some (89, false)), []⟩, op 92 (.pick (.r 89) (.c (.bool true)) (.r 91)), op 93 (.mov (.r 92)), ⟨(some 94), .b (.mov (.r 13)), (some (93, false)), []⟩, ⟨(some 95), .b (.len .sl (.r 94)), (some (93, false)), []⟩, ⟨(some 96), .b (.bin .neq (.r 95) (.c (.int .i64 3))), (some (93, false)), []⟩, op 97 (.pick (.r 93) (.c (.bool true)) (.r 96))]) <|
  .cond (.r 97)
    (sq (.ops [op 0 (.mov (.c (.bool false)))]) <|
    .ret)
    (.skip)) <|
  sq (.ops [op 98 (.mov (.r 13)), op 99 (.iad 5 (.r 98) (.c (.int .i64 0))), op 100 (.fad 4 (.r 99)), op 101 (.ld 1 false (.r 100)), op 102 (.bin .eql (.r 101) (.c (.int .i64 9))), op 103 (.mov (.r 102)), ⟨(some 104), .b (.mov (.r 13)), (some (103, true)), []⟩, ⟨(some 105), .b (.iad 5 (.r 104) (.c (.int .i64 1))), (some (103, true)), []⟩, ⟨(some 106), .b (.fad 4 (.r 105)), (some (103, true)), []⟩, ⟨(some 107), .b (.ld 1 false (.r 106)), (some (103, true)), []⟩, ⟨(some 108), .b (.bin .eql (.r 107) (.c (.int .i64 (-1)))), (some (103, true)), []⟩, op 109 (.pick (.r 103) (.r 108) (.c (.bool false))), op 110 (.mov (.r 109)), ⟨(some 111), .b (.mov (.r 13)), (some (110, true)), []⟩, ⟨(some 112), .b (.iad 5 (.r 111) (.c (.int .i64 2))), (some (110, true)), []⟩, ⟨(some 113), .b (.fad 4 (.r 112)), (some (110, true)), []⟩, ⟨(some 114), .b (.ld 1 false (.r 113)), (some (110, true)), []⟩, ⟨(some 115), .b (.bin .eql (.r 114) (.c (.int .i64 (-1)))), (some (110, true)), []⟩, op 116 (.pick (.r 110) (.r 115) (.c (.bool false))), op 117 (.mov (.r 116)), ⟨(some 118), .b (.mov (.r 1)), (some (117, true)), []⟩, ⟨(some 119), .call 16 [(.r 118), (.c (.str ⟨#[97]⟩))], (some (117, true)), []⟩, ⟨(some 120), .b (.fld 2 1 false (.r 119)), (some (117, true)), []⟩, ⟨(some 121), .b (.bin .eql (.r 120) (.c (.str ⟨#[122]⟩))), (some (117, true)), []⟩, op 122 (.pick (.r 117) (.r 121) (.c (.bool false))), op 123 (.mov (.r 122)), ⟨(some 124), .b (.mov (.r 1)), (some (123, true)), []⟩, ⟨(some 125), .call 17 [(.r 124), (.c (.str ⟨#[98]⟩))], (some (123, true)), []⟩, ⟨(some 126), .b (.bin .eql (.r 125) (.c (.int .u64 65536))), (some (123, true)), []⟩, op 127 (.pick (.r 123) (.r 126) (.c (.bool false))), op 128 (.mov (.r 127)), ⟨(some 129), .b (.mov (.r 1)), (some (128, true)), []⟩, ⟨(some 130), .call 15 [(.r 129), (.c (.str ⟨#[97]⟩)), (.c (.int .u64 131072))], (some (128, true)), []⟩, ⟨(some 131), .b (.bin .eql (.r 130) (.c (.int .i64 1))), (some (128, true)), []⟩, op 132 (.pick (.r 128) (.r 131) (.c (.bool false))), op 133 (.mov (.r 132)), ⟨(some 134), .b (.mov (.r 1)), (some (133, true)), []⟩, ⟨(some 135), .call 15 [(.r 134), (.c (.str ⟨#[99]⟩)), (.c (.int .u64 131072))], (some (133, true)), []⟩, ⟨(some 136), .b (.bin .eql (.r 135) (.c (.int .i64 110))), (some (133, true)), []⟩, op 137 (.pick (.r 133) (.r 136) (.c (.bool false))), op 0 (.mov (.r 137))]) <|
  .ret⟩
def an9 : An := ⟨[], []⟩
def ir9 : Go.Rmp.Fn := ⟨12, 1, [.t 2],
  sq (.ops [op 2 (.mov (.c (.int .u64 0)))]) <|
  sq (.ops [op 3 (.mov (.r 0)), cl 4 10 [(.r 3), (.c (.int .i64 11))], op 5 (.bin .add (.c (.int .i64 1)) (.r 4)), op 6 (.bin .mul (.c (.int .i64 65536)) (.r 5)), op 7 (.mov (.r 0)), cl 8 10 [(.r 7), (.c (.int .i64 11))], op 9 (.bin .rem (.r 8) (.c (.int .i64 3))), op 10 (.bin .add (.r 6) (.r 9)), op 11 (.cvi .u64 (.r 10)), op 2 (.mov (.r 11))]) <|
  .ret⟩
def an10 : An := ⟨[], []⟩
def ir10 : Go.Rmp.Fn := ⟨17, 2, [.t 4],
  sq (.ops [op 4 (.mov (.c (.int .i64 0)))]) <|
  sq (.ops [op 6 (.mov (.r 0)), op 7 (.mov (.r 1)), op 8 (.bin .add (.r 7) (.c (.int .i64 1))), op 9 (.bin .rem (.r 6) (.r 8)), op 5 (.mov (.r 9))]) <|
  sq (sq (.ops [op 10 (.mov (.r 5)), op 11 (.bin .lss (.r 10) (.c (.int .i64 0)))]) <|
  .cond (.r 11)
    (.ops [op 12 (.mov (.r 5)), op 13 (.mov (.r 1)), op 14 (.bin .add (.r 12) (.r 13)), op 15 (.bin .add (.r 14) (.c (.int .i64 1))), op 5 (.mov (.r 15))])
    (.skip)) <|
  sq (.ops [op 16 (.mov (.r 5)), op 4 (.mov (.r 16))]) <|
  .ret⟩
def an11 : An := ⟨[], [(6, [(0, true), (1, true), (2, true), (3, true), (4, true), (5, true), (6, true), (7, false), (8, true), (9, true), (10, false), (11, false)])]⟩
def ir11 : Go.Rmp.Fn := ⟨41, 3, [.t 6, .t 7],
  sq (.ops [op 4 (.box (.r 1)), op 6 (.mov (.c (.bool false))), op 7 (.mov (.c (.int .i64 0)))]) <|
  sq (.ops [op 11 (.fad 2 (.r 4)), op 12 (.ld 1 false (.r 11)), cl 13 18 [(.r 12)], op 8 (.mov (.r 13))]) <|
  sq (.ops [op 9 (.mov (.c (.sl .nil [])))]) <|
  sq (sq (.ops [op 10 (.mov (.c (.int .i64 0)))]) <|
  .block 0 (
    .loop (
      sq (sq (.ops [op 14 (.mov (.r 10)), op 15 (.mov (.r 8)), op 16 (.len .sl (.r 15)), op 17 (.bin .lss (.r 14) (.r 16))]) <|
      .cond (.r 17)
        (.skip)
        (.exit 0)) <|
      sq (.block 1 (
        .ops [op 20 (.mov (.r 9)), op 21 (.mov (.r 8)), op 22 (.mov (.r 10)), op 23 (.iad 1 (.r 21) (.r 22)), op 24 (.ld 1 false (.r 23)), op 25 (.fad 3 (.r 4)), op 26 (.ld 1 false (.r 25)), ⟨(some 27), .call 19 [(.r 26)], none, [⟨24, .ld 1 false (.r 23), none⟩]⟩, op 28 (.build [.str ⟨#[]⟩, .str ⟨#[]⟩] [(0, 1, (.r 24)), (1, 1, (.r 27))]), op 29 (.bsl 1 [.str ⟨#[]⟩, .str ⟨#[]⟩] [(0, (.r 28))]), op 30 (.app 2 32 false (.r 20) (.r 29)), op 9 (.mov (.r 30))])) <|
      .ops [op 18 (.mov (.r 10)), op 19 (.bin .add (.r 18) (.c (.int .i64 1))), op 10 (.mov (.r 19))]))) <|
  sq (.ops [op 31 (.mov (.r 0)), op 32 (.fad 1 (.r 4)), op 33 (.ld 1 false (.r 32)), cl 34 9 [(.r 33)], op 35 (.mov (.r 9)), op 36 (.mov (.r 8)), op 37 (.mov (.r 2)), cl 38 28 [(.r 31), (.r 34), (.r 35), (.r 36), (.r 37)], op 39 (.ext 0 (.r 38)), op 40 (.ext 1 (.r 38)), op 6 (.mov (.r 39)), op 7 (.mov (.r 40))]) <|
  .ret⟩
def an13 : An := ⟨[], []⟩
def ir13 : Go.Rmp.Fn := ⟨8, 1, [.t 2],
  sq (.ops [op 2 (.mov (.c (.str ⟨#[]⟩)))]) <|
  sq (.ops [op 3 (.mov (.r 0)), op 4 (.bin .add (.c (.int .i64 97)) (.r 3)), op 5 (.cvi .u8 (.r 4)), op 6 (.bsl 1 [.int .u8 0] [(0, (.r 5))]), op 7 (.cvs (.r 6)), op 2 (.mov (.r 7))]) <|
  .ret⟩
def an14 : An := ⟨[], [(15, [(0, true), (1, true), (2, true), (3, true), (4, true), (5, true), (6, true), (7, true), (8, false)])]⟩
def ir14 : Go.Rmp.Fn := ⟨89, 3, [.t 6, .t 7],
  sq (.ops [op 6 (.mov (.c (.int .i64 0))), op 7 (.mov (.c (.int .i64 0)))]) <|
  sq (sq (.ops [op 13 (.mov (.r 1)), op 14 (.bin .lss (.r 13) (.c (.int .u64 65536))), op 15 (.mov (.r 14)), ⟨(some 16), .b (.mov (.r 2)), (some (15, false)), []⟩, ⟨(some 17), .call 31 [(.r 16)], (some (15, false)), []⟩, ⟨(some 18), .b (.un .not (.r 17)), (some (15, false)), []⟩, op 19 (.pick (.r 15) (.c (.bool true)) (.r 18))]) <|
  .cond (.r 19)
    (sq (.ops [op 6 (.mov (.c (.int .i64 0))), op 7 (.mov (.c (.int .i64 1)))]) <|
    .ret)
    (.skip)) <|
  sq (sq (.ops [op 20 (.mov (.r 0)), op 21 (.nilc (.r 20)), op 22 (.fad 2 (.r 21)), op 23 (.ld 1 false (.r 22)), op 24 (.mov (.r 1)), op 25 (.lkp (.sc .int) (.sl .nil []) false (.r 23) (.r 24)), op 26 (.len .sl (.r 25)), op 27 (.mov (.c (.int .i64 0)))]) <|
  .block 0 (
    .loop (
      sq (.ops [op 28 (.bin .lss (.r 27) (.r 26))]) <|
      sq (.cond (.r 28)
        (.skip)
        (.exit 0)) <|
      sq (.block 1 (
        sq (.ops [op 29 (.iad 1 (.r 25) (.r 27)), op 30 (.ld 1 false (.r 29)), op 9 (.mov (.r 30))]) <|
        sq (sq (.ops [op 31 (.mov (.r 0)), op 32 (.nilc (.r 31)), op 33 (.fad 3 (.r 32)), op 34 (.ld 1 false (.r 33)), op 35 (.mov (.r 9)), op 36 (.lkp (.sc .str) (.int .u64 0) false (.r 34) (.r 35)), op 37 (.mov (.r 1)), op 38 (.bin .geq (.r 36) (.r 37))]) <|
        .cond (.r 38)
          (.exit 1)
          (.skip)) <|
        sq (.ops [op 39 (.mov (.r 0)), op 40 (.nilc (.r 39)), op 41 (.fad 3 (.r 40)), op 42 (.ld 1 false (.r 41)), op 43 (.mov (.r 9)), op 44 (.mov (.r 1)), ef (.upm (.sc .str) (.r 42) (.r 43) (.r 44))]) <|
        sq (.ops [op 45 (.mov (.r 0)), op 46 (.nilc (.r 45)), op 47 (.fad 1 (.r 46)), op 48 (.ld 1 false (.r 47)), op 49 (.mov (.r 9)), op 50 (.lkp (.sc .str) (.sl .nil []) false (.r 48) (.r 49)), op 51 (.len .sl (.r 50)), op 52 (.mov (.c (.int .i64 0)))]) <|
        .block 2 (
          .loop (
            sq (.ops [op 53 (.bin .lss (.r 52) (.r 51))]) <|
            sq (.cond (.r 53)
              (.skip)
              (.exit 2)) <|
            sq (.block 3 (
              sq (.ops [op 54 (.iad 1 (.r 50) (.r 52)), op 55 (.ld 1 false (.r 54)), op 11 (.mov (.r 55))]) <|
              sq (sq (.ops [op 56 (.mov (.r 11)), op 57 (.mov (.r 1)), op 58 (.bin .geq (.r 56) (.r 57))]) <|
              .cond (.r 58)
                (.exit 2)
                (.skip)) <|
              sq (.ops [op 59 (.mov (.r 0)), op 60 (.nilc (.r 59)), op 61 (.fad 0 (.r 60)), op 62 (.ld 1 false (.r 61)), op 63 (.mov (.r 9)), op 64 (.mov (.r 11)), op 65 (.build [.str ⟨#[]⟩, .int .u64 0] [(0, 1, (.r 63)), (1, 1, (.r 64))]), op 66 (.lkp (.st [.str, .int]) (.agg [.str ⟨#[]⟩, .sl .nil [], .int .i64 0]) false (.r 62) (.r 65)), op 12 (.alloc [.str ⟨#[]⟩, .sl .nil [], .int .i64 0]), ef (.st 3 (.r 12) (.r 66))]) <|
              sq (.ops [op 67 (.fad 2 (.r 12)), op 68 (.ld 1 false (.r 67)), op 69 (.bin .eql (.r 68) (.c (.int .i64 (-1))))]) <|
              .cond (.r 69)
                (sq (.ops [op 70 (.mov (.r 2)), op 71 (.fad 2 (.r 12)), ef (.st 1 (.r 71) (.r 70))]) <|
                .ops [op 72 (.mov (.r 0)), op 73 (.nilc (.r 72)), op 74 (.fad 0 (.r 73)), op 75 (.ld 1 false (.r 74)), op 76 (.mov (.r 9)), op 77 (.mov (.r 11)), op 78 (.build [.str ⟨#[]⟩, .int .u64 0] [(0, 1, (.r 76)), (1, 1, (.r 77))]), op 79 (.ld 3 true (.r 12)), ef (.upm (.st [.str, .int]) (.r 75) (.r 78) (.r 79))])
                (.skip))) <|
            .ops [op 80 (.bin .add (.r 52) (.c (.int .i64 1))), op 52 (.mov (.r 80))])))) <|
      .ops [op 81 (.bin .add (.r 27) (.c (.int .i64 1))), op 27 (.mov (.r 81))]))) <|
  sq (.ops [op 82 (.mov (.r 0)), op 83 (.nilc (.r 82)), op 84 (.fad 2 (.r 83)), op 85 (.ld 1 false (.r 84)), op 86 (.mov (.r 1)), op 87 (.lkp (.sc .int) (.sl .nil []) false (.r 85) (.r 86)), op 88 (.len .sl (.r 87)), op 6 (.mov (.r 88)), op 7 (.mov (.c (.int .i64 0)))]) <|
  .ret⟩
def an15 : An := ⟨[], [(2, [(0, true), (1, true), (2, true), (3, true), (4, true), (5, true), (6, true), (7, true), (8, true), (9, true), (10, false), (11, true)]), (7, [(0, true), (1, true), (2, true), (3, true), (4, true), (5, false)]), (8, [(0, true), (1, true), (2, true), (3, true), (4, true), (5, true), (6, true), (7, true), (8, true), (9, true), (10, true), (11, true), (12, false), (13, false)]), (9, [(0, true), (1, true), (2, true), (3, true), (4, true), (5, true), (6, true), (7, true), (8, true), (9, true), (10, true), (11, true), (12, false), (13, false)])]⟩
def ir15 : Go.Rmp.Fn := ⟨71, 3, [.t 6],
  sq (.ops [op 6 (.mov (.c (.int .i64 0)))]) <|
  sq (.ops [op 10 (.mov (.r 1)), op 11 (.mov (.r 2)), op 12 (.build [.str ⟨#[]⟩, .int .u64 0] [(0, 1, (.r 10)), (1, 1, (.r 11))]), op 7 (.alloc [.str ⟨#[]⟩, .int .u64 0]), ef (.st 2 (.r 7) (.r 12))]) <|
  sq (.ops [op 14 (.mov (.r 0)), op 15 (.nilc (.r 14)), op 16 (.fad 0 (.r 15)), op 17 (.ld 1 false (.r 16)), op 18 (.ld 2 true (.r 7)), op 19 (.lkp (.st [.str, .int]) (.agg [.str ⟨#[]⟩, .sl .nil [], .int .i64 0]) true (.r 17) (.r 18)), op 13 (.mov (.r 19)), op 20 (.ext 0 (.r 13)), op 21 (.ext 1 (.r 13)), op 8 (.alloc [.str ⟨#[]⟩, .sl .nil [], .int .i64 0]), ef (.st 3 (.r 8) (.r 20)), op 9 (.mov (.r 21))]) <|
  sq (sq (.ops [op 22 (.mov (.r 9)), op 23 (.un .not (.r 22))]) <|
  .cond (.r 23)
    (sq (.ops [op 6 (.mov (.c (.int .i64 110)))]) <|
    .ret)
    (.skip)) <|
  sq (sq (.ops [op 24 (.fad 2 (.r 8)), op 25 (.ld 1 false (.r 24)), op 26 (.bin .eql (.r 25) (.c (.int .i64 (-1))))]) <|
  .cond (.r 26)
    (sq (.ops [op 6 (.mov (.c (.int .i64 1)))]) <|
    .ret)
    (.skip)) <|
  sq (.ops [op 27 (.mov (.r 0)), op 28 (.nilc (.r 27)), op 29 (.fad 0 (.r 28)), op 30 (.ld 1 false (.r 29)), op 31 (.ld 2 true (.r 7)), ef (.del (.st [.str, .int]) (.r 30) (.r 31))]) <|
  sq (.ops [op 32 (.mov (.r 0)), op 33 (.nilc (.r 32)), op 34 (.fad 1 (.r 33)), op 35 (.ld 1 false (.r 34)), op 36 (.mov (.r 1)), op 37 (.mov (.r 0)), op 38 (.nilc (.r 37)), op 39 (.fad 1 (.r 38)), op 40 (.ld 1 false (.r 39)), op 41 (.mov (.r 1)), op 42 (.lkp (.sc .str) (.sl .nil []) false (.r 40) (.r 41)), op 43 (.mov (.r 2)), ⟨(some 44), .call 32 [(.r 42), (.r 43)], none, [⟨35, .ld 1 false (.r 34), none⟩]⟩, ef (.upm (.sc .str) (.r 35) (.r 36) (.r 44))]) <|
  sq (.ops [op 45 (.mov (.r 0)), op 46 (.nilc (.r 45)), op 47 (.fad 2 (.r 46)), op 48 (.ld 1 false (.r 47)), op 49 (.mov (.r 2)), op 50 (.mov (.r 0)), op 51 (.nilc (.r 50)), op 52 (.fad 2 (.r 51)), op 53 (.ld 1 false (.r 52)), op 54 (.mov (.r 2)), op 55 (.lkp (.sc .int) (.sl .nil []) false (.r 53) (.r 54)), op 56 (.mov (.r 1)), ⟨(some 57), .call 33 [(.r 55), (.r 56)], none, [⟨48, .ld 1 false (.r 47), none⟩]⟩, ef (.upm (.sc .int) (.r 48) (.r 49) (.r 57))]) <|
  sq (sq (.ops [op 58 (.mov (.r 0)), op 59 (.nilc (.r 58)), op 60 (.fad 2 (.r 59)), op 61 (.ld 1 false (.r 60)), op 62 (.mov (.r 2)), op 63 (.lkp (.sc .int) (.sl .nil []) false (.r 61) (.r 62)), op 64 (.len .sl (.r 63)), op 65 (.bin .eql (.r 64) (.c (.int .i64 0)))]) <|
  .cond (.r 65)
    (.ops [op 66 (.mov (.r 0)), op 67 (.nilc (.r 66)), op 68 (.fad 2 (.r 67)), op 69 (.ld 1 false (.r 68)), op 70 (.mov (.r 2)), ef (.del (.sc .int) (.r 69) (.r 70))])
    (.skip)) <|
  sq (.ops [op 6 (.mov (.c (.int .i64 0)))]) <|
  .ret⟩
def an16 : An := ⟨[], []⟩
def ir16 : Go.Rmp.Fn := ⟨25, 2, [.cl 4 4 true],
  sq (.ops [op 4 (.alloc [.str ⟨#[]⟩, .int .u64 0, .str ⟨#[]⟩, .sl .nil []])]) <|
  sq (.ops [op 8 (.mov (.r 0)), op 9 (.nilc (.r 8)), op 10 (.fad 3 (.r 9)), op 11 (.ld 1 false (.r 10)), op 12 (.mov (.r 1)), op 13 (.lkp (.sc .str) (.int .u64 0) true (.r 11) (.r 12)), op 7 (.mov (.r 13)), op 14 (.ext 0 (.r 7)), op 15 (.ext 1 (.r 7)), op 5 (.mov (.r 14)), op 6 (.mov (.r 15))]) <|
  sq (sq (.ops [op 16 (.mov (.r 6)), op 17 (.un .not (.r 16))]) <|
  .cond (.r 17)
    (sq (.ops [op 18 (.mov (.r 1)), op 19 (.build [.str ⟨#[]⟩, .int .u64 0, .str ⟨#[]⟩, .sl .nil []] [(0, 1, (.r 18))]), ef (.st 4 (.r 4) (.r 19))]) <|
    .ret)
    (.skip)) <|
  sq (.ops [op 20 (.mov (.r 0)), op 21 (.mov (.r 1)), op 22 (.mov (.r 5)), op 23 (.build [.str ⟨#[]⟩, .int .u64 0] [(0, 1, (.r 21)), (1, 1, (.r 22))]), cl 24 30 [(.r 20), (.r 23)], ef (.st 4 (.r 4) (.r 24))]) <|
  .ret⟩
def an17 : An := ⟨[], []⟩
def ir17 : Go.Rmp.Fn := ⟨11, 2, [.t 4],
  sq (.ops [op 4 (.mov (.c (.int .u64 0)))]) <|
  sq (.ops [op 5 (.mov (.r 0)), op 6 (.nilc (.r 5)), op 7 (.fad 3 (.r 6)), op 8 (.ld 1 false (.r 7)), op 9 (.mov (.r 1)), op 10 (.lkp (.sc .str) (.int .u64 0) false (.r 8) (.r 9)), op 4 (.mov (.r 10))]) <|
  .ret⟩
def an18 : An := ⟨[], []⟩
def ir18 : Go.Rmp.Fn := ⟨25, 1, [.t 2],
  sq (.ops [op 2 (.mov (.c (.sl .nil [])))]) <|
  sq (.ops [op 3 (.mov (.c (.sl .nil [])))]) <|
  sq (sq (.ops [op 4 (.mov (.c (.int .i64 0)))]) <|
  .block 0 (
    .loop (
      sq (sq (.ops [op 5 (.mov (.r 4)), op 6 (.bin .lss (.r 5) (.c (.int .i64 3)))]) <|
      .cond (.r 6)
        (.skip)
        (.exit 0)) <|
      sq (.block 1 (
        sq (.ops [op 9 (.mov (.r 0)), op 10 (.mov (.r 4)), op 11 (.bin .shr (.r 9) (.r 10)), op 12 (.bin .and (.r 11) (.c (.int .i64 1))), op 13 (.bin .eql (.r 12) (.c (.int .i64 1)))]) <|
        .cond (.r 13)
          (.ops [op 14 (.mov (.r 3)), op 15 (.mov (.r 4)), cl 16 13 [(.r 15)], op 17 (.bsl 1 [.str ⟨#[]⟩] [(0, (.r 16))]), op 18 (.app 1 16 false (.r 14) (.r 17)), op 3 (.mov (.r 18))])
          (.skip))) <|
      .ops [op 7 (.mov (.r 4)), op 8 (.bin .add (.r 7) (.c (.int .i64 1))), op 4 (.mov (.r 8))]))) <|
  sq (sq (.ops [op 19 (.mov (.r 3)), op 20 (.len .sl (.r 19)), op 21 (.bin .eql (.r 20) (.c (.int .i64 0)))]) <|
  .cond (.r 21)
    (sq (.ops [cl 22 13 [(.c (.int .i64 0))], op 23 (.bsl 1 [.str ⟨#[]⟩] [(0, (.r 22))]), op 2 (.mov (.r 23))]) <|
    .ret)
    (.skip)) <|
  sq (.ops [op 24 (.mov (.r 3)), op 2 (.mov (.r 24))]) <|
  .ret⟩
def an19 : An := ⟨[], []⟩
def ir19 : Go.Rmp.Fn := ⟨8, 1, [.t 2],
  sq (.ops [op 2 (.mov (.c (.str ⟨#[]⟩)))]) <|
  sq (.ops [op 3 (.mov (.r 0)), op 4 (.mov (.r 0)), op 5 (.len .str (.r 4)), op 6 (.mn (.r 5) (.c (.int .i64 1000))), op 7 (.sls (.r 3) none (some (.r 6))), op 2 (.mov (.r 7))]) <|
  .ret⟩
def an20 : An := ⟨[], [(5, [(0, true), (1, true), (2, true), (4, true), (5, true), (6, true), (7, true), (8, true), (9, true), (10, true), (3, false), (11, true), (12, true), (13, false), (14, false)])]⟩
def ir20 : Go.Rmp.Fn := ⟨33, 1, [.t 2],
  sq (.ops [op 2 (.mov (.c (.sl .nil [])))]) <|
  sq (.ops [op 3 (.mov (.c (.sl .nil [])))]) <|
  sq (sq (.ops [op 6 (.mov (.r 0)), op 7 (.nilc (.r 6)), op 8 (.fad 0 (.r 7)), op 9 (.ld 1 false (.r 8)), cl 10 35 [(.r 9)], cl 11 34 [(.r 10), (.c (.fn 36 []))], op 12 (.len .sl (.r 11)), op 13 (.mov (.c (.int .i64 0)))]) <|
  .block 0 (
    .loop (
      sq (.ops [op 14 (.bin .lss (.r 13) (.r 12))]) <|
      sq (.cond (.r 14)
        (.skip)
        (.exit 0)) <|
      sq (.block 1 (
        sq (.ops [op 15 (.iad 2 (.r 11) (.r 13)), op 16 (.ld 2 true (.r 15)), op 5 (.alloc [.str ⟨#[]⟩, .int .u64 0]), ef (.st 2 (.r 5) (.r 16))]) <|
        .ops [op 17 (.mov (.r 3)), op 18 (.mov (.r 0)), op 19 (.ld 2 true (.r 5)), op 21 (.mov (.r 0)), op 22 (.nilc (.r 21)), op 23 (.fad 0 (.r 22)), op 24 (.ld 1 false (.r 23)), op 25 (.ld 2 true (.r 5)), op 26 (.lkp (.st [.str, .int]) (.agg [.str ⟨#[]⟩, .sl .nil [], .int .i64 0]) false (.r 24) (.r 25)), op 27 (.fld 2 1 false (.r 26)), ⟨(some 20), .call 30 [(.r 18), (.r 19)], none, [⟨24, .ld 1 false (.r 23), none⟩, ⟨25, .ld 2 true (.r 5), none⟩, ⟨26, .lkp (.st [.str, .int]) (.agg [.str ⟨#[]⟩, .sl .nil [], .int .i64 0]) false (.r 24) (.r 25), none⟩]⟩, op 28 (.build [.str ⟨#[]⟩, .int .u64 0, .str ⟨#[]⟩, .sl .nil [], .int .i64 0] [(0, 4, (.r 20)), (4, 1, (.r 27))]), op 29 (.bsl 1 [.str ⟨#[]⟩, .int .u64 0, .str ⟨#[]⟩, .sl .nil [], .int .i64 0] [(0, (.r 28))]), op 30 (.app 5 72 false (.r 17) (.r 29)), op 3 (.mov (.r 30))])) <|
      .ops [op 31 (.bin .add (.r 13) (.c (.int .i64 1))), op 13 (.mov (.r 31))]))) <|
  sq (.ops [op 32 (.mov (.r 3)), op 2 (.mov (.r 32))]) <|
  .ret⟩
def an22 : An := ⟨[], []⟩
def ir22 : Go.Rmp.Fn := ⟨31, 2, [.t 4],
  sq (.ops [op 2 (.box (.r 0)), op 3 (.box (.r 1)), op 4 (.mov (.c (.bool false)))]) <|
  sq (.ops [op 5 (.fad 0 (.r 2)), op 6 (.ld 1 false (.r 5)), op 7 (.fad 0 (.r 3)), op 8 (.ld 1 false (.r 7)), op 9 (.bin .eql (.r 6) (.r 8)), op 10 (.mov (.r 9)), ⟨(some 11), .b (.fad 1 (.r 2)), (some (10, true)), []⟩, ⟨(some 12), .b (.ld 1 false (.r 11)), (some (10, true)), []⟩, ⟨(some 13), .b (.fad 1 (.r 3)), (some (10, true)), []⟩, ⟨(some 14), .b (.ld 1 false (.r 13)), (some (10, true)), []⟩, ⟨(some 15), .b (.bin .eql (.r 12) (.r 14)), (some (10, true)), []⟩, op 16 (.pick (.r 10) (.r 15) (.c (.bool false))), op 17 (.mov (.r 16)), ⟨(some 18), .b (.fad 2 (.r 2)), (some (17, true)), []⟩, ⟨(some 19), .b (.ld 1 false (.r 18)), (some (17, true)), []⟩, ⟨(some 20), .b (.fad 2 (.r 3)), (some (17, true)), []⟩, ⟨(some 21), .b (.ld 1 false (.r 20)), (some (17, true)), []⟩, ⟨(some 22), .b (.bin .eql (.r 19) (.r 21)), (some (17, true)), []⟩, op 23 (.pick (.r 17) (.r 22) (.c (.bool false))), op 24 (.mov (.r 23)), ⟨(some 25), .b (.fad 3 (.r 2)), (some (24, true)), []⟩, ⟨(some 26), .b (.ld 1 false (.r 25)), (some (24, true)), []⟩, ⟨(some 27), .b (.fad 3 (.r 3)), (some (24, true)), []⟩, ⟨(some 28), .b (.ld 1 false (.r 27)), (some (24, true)), []⟩, ⟨(some 29), .call 37 [(.r 26), (.r 28)], (some (24, true)), []⟩, op 30 (.pick (.r 24) (.r 29) (.c (.bool false))), op 4 (.mov (.r 30))]) <|
  .ret⟩
def an23 : An := ⟨[], [(6, [(0, true), (1, true), (2, true), (3, true), (4, true), (5, true), (6, true), (7, true), (8, true)])]⟩
def ir23 : Go.Rmp.Fn := ⟨26, 2, [.t 4],
  sq (.ops [op 4 (.mov (.c (.bool false)))]) <|
  sq (sq (.ops [op 6 (.mov (.r 0)), op 7 (.len .sl (.r 6)), op 8 (.mov (.r 1)), op 9 (.len .sl (.r 8)), op 10 (.bin .neq (.r 7) (.r 9))]) <|
  .cond (.r 10)
    (sq (.ops [op 4 (.mov (.c (.bool false)))]) <|
    .ret)
    (.skip)) <|
  sq (sq (.ops [op 5 (.mov (.c (.int .i64 0)))]) <|
  .block 0 (
    .loop (
      sq (sq (.ops [op 11 (.mov (.r 5)), op 12 (.mov (.r 0)), op 13 (.len .sl (.r 12)), op 14 (.bin .lss (.r 11) (.r 13))]) <|
      .cond (.r 14)
        (.skip)
        (.exit 0)) <|
      sq (.block 1 (
        sq (.ops [op 17 (.mov (.r 0)), op 18 (.mov (.r 5)), op 19 (.iad 2 (.r 17) (.r 18)), op 20 (.ld 2 true (.r 19)), op 21 (.mov (.r 1)), op 22 (.mov (.r 5)), op 23 (.iad 2 (.r 21) (.r 22)), op 24 (.ld 2 true (.r 23)), op 25 (.eqs true [.str, .int] (.r 20) (.r 24))]) <|
        .cond (.r 25)
          (sq (.ops [op 4 (.mov (.c (.bool false)))]) <|
          .ret)
          (.skip))) <|
      .ops [op 15 (.mov (.r 5)), op 16 (.bin .add (.r 15) (.c (.int .i64 1))), op 5 (.mov (.r 16))]))) <|
  sq (.ops [op 4 (.mov (.c (.bool true)))]) <|
  .ret⟩
def an24 : An := ⟨[], []⟩
def ir24 : Go.Rmp.Fn := ⟨30, 1, [.t 2],
  sq (.ops [op 2 (.mov (.c (.sl .nil [])))]) <|
  sq (.ops [op 3 (.mov (.c (.sl .nil [])))]) <|
  sq (sq (.ops [op 6 (.mov (.r 0)), op 7 (.nilc (.r 6)), op 8 (.fad 3 (.r 7)), op 9 (.ld 1 false (.r 8)), cl 10 39 [(.r 9)], cl 11 38 [(.r 10)], op 12 (.len .sl (.r 11)), op 13 (.mov (.c (.int .i64 0)))]) <|
  .block 0 (
    .loop (
      sq (.ops [op 14 (.bin .lss (.r 13) (.r 12))]) <|
      sq (.cond (.r 14)
        (.skip)
        (.exit 0)) <|
      sq (.block 1 (
        sq (.ops [op 15 (.iad 1 (.r 11) (.r 13)), op 16 (.ld 1 false (.r 15)), op 5 (.mov (.r 16))]) <|
        .ops [op 17 (.mov (.r 3)), op 18 (.mov (.r 5)), op 19 (.mov (.r 0)), op 20 (.nilc (.r 19)), op 21 (.fad 3 (.r 20)), op 22 (.ld 1 false (.r 21)), op 23 (.mov (.r 5)), op 24 (.lkp (.sc .str) (.int .u64 0) false (.r 22) (.r 23)), op 25 (.build [.str ⟨#[]⟩, .int .u64 0] [(0, 1, (.r 18)), (1, 1, (.r 24))]), op 26 (.bsl 1 [.str ⟨#[]⟩, .int .u64 0] [(0, (.r 25))]), op 27 (.app 2 24 false (.r 17) (.r 26)), op 3 (.mov (.r 27))])) <|
      .ops [op 28 (.bin .add (.r 13) (.c (.int .i64 1))), op 13 (.mov (.r 28))]))) <|
  sq (.ops [op 29 (.mov (.r 3)), op 2 (.mov (.r 29))]) <|
  .ret⟩
def an25 : An := ⟨[], [(11, [(0, true), (1, true), (2, true), (5, true), (6, true), (3, false), (4, false), (7, false), (8, false)])]⟩
def ir25 : Go.Rmp.Fn := ⟨55, 3, [],
  sq (.ops [op 6 (.mov (.c (.int .i64 0)))]) <|
  .block 0 (
    .loop (
      sq (sq (.ops [op 8 (.mov (.r 6)), op 9 (.mov (.r 1)), op 10 (.len .sl (.r 9)), op 11 (.bin .lss (.r 8) (.r 10)), op 12 (.mov (.r 11)), ⟨(some 13), .b (.mov (.r 6)), (some (12, true)), []⟩, ⟨(some 14), .b (.bin .lss (.r 13) (.c (.int .i64 100))), (some (12, true)), []⟩, op 15 (.pick (.r 12) (.r 14) (.c (.bool false)))]) <|
      .cond (.r 15)
        (.skip)
        (.exit 0)) <|
      sq (.block 1 (
        sq (.ops [op 18 (.mov (.r 1)), op 19 (.mov (.r 6)), op 20 (.iad 4 (.r 18) (.r 19)), op 21 (.ld 4 true (.r 20)), op 7 (.alloc [.int .i64 0, .int .i64 0, .int .i64 0, .str ⟨#[]⟩]), ef (.st 4 (.r 7) (.r 21))]) <|
        sq (.ops [op 22 (.fad 0 (.r 7)), op 23 (.ld 1 false (.r 22)), cl 24 10 [(.r 23), (.c (.int .i64 3))]]) <|
        .block 2 (
          sq (sq (.ops [op 26 (.bin .eql (.r 24) (.c (.int .i64 0))), op 25 (.mov (.r 26))]) <|
          .cond (.r 25)
            (.skip)
            (.ops [op 27 (.bin .eql (.r 24) (.c (.int .i64 1))), op 25 (.mov (.r 27))])) <|
          .cond (.r 25)
            (.ops [op 28 (.mov (.r 0)), op 29 (.ld 4 true (.r 7)), op 30 (.mov (.r 2)), op 31 (.mov (.r 6)), op 32 (.bin .add (.r 30) (.r 31)), cl 33 11 [(.r 28), (.r 29), (.r 32)]])
            (sq (.ops [op 35 (.bin .eql (.r 24) (.c (.int .i64 2))), op 34 (.mov (.r 35))]) <|
            .cond (.r 34)
              (.ops [op 36 (.mov (.r 0)), op 37 (.fad 1 (.r 7)), op 38 (.ld 1 false (.r 37)), cl 39 9 [(.r 38)], op 40 (.mov (.r 2)), op 41 (.mov (.r 6)), op 42 (.bin .add (.r 40) (.r 41)), cl 43 14 [(.r 36), (.r 39), (.r 42)]])
              (sq (.ops [op 45 (.bin .eql (.r 24) (.c (.int .i64 3))), op 44 (.mov (.r 45))]) <|
              .cond (.r 44)
                (.ops [op 46 (.mov (.r 0)), op 47 (.fad 2 (.r 7)), op 48 (.ld 1 false (.r 47)), op 51 (.fad 1 (.r 7)), op 52 (.ld 1 false (.r 51)), ⟨(some 49), .call 10 [(.r 48), (.c (.int .i64 2))], none, [⟨52, .ld 1 false (.r 51), none⟩]⟩, ⟨(some 50), .call 13 [(.r 49)], none, [⟨52, .ld 1 false (.r 51), none⟩]⟩, cl 53 9 [(.r 52)], cl 54 15 [(.r 46), (.r 50), (.r 53)]])
                (.skip)))))) <|
      .ops [op 16 (.mov (.r 6)), op 17 (.bin .add (.r 16) (.c (.int .i64 1))), op 6 (.mov (.r 17))]))⟩
def an26 : An := ⟨[], [(5, [(0, true), (1, true), (2, true), (3, true), (4, true), (5, true), (6, true), (7, true), (8, true), (9, true), (10, true), (11, true), (12, true)]), (7, [(0, true), (1, true), (2, true), (3, true), (4, true), (5, true), (6, true), (7, true), (8, false)]), (13, [(0, true), (1, true), (2, true), (3, true), (4, true), (5, true), (6, true), (7, true), (8, true), (9, true), (10, true), (11, true), (12, true), (13, true), (14, true), (15, true), (16, true), (17, true), (18, true), (19, false), (20, true), (21, true), (22, true), (23, true), (24, true), (25, false), (26, true), (27, true)]), (15, [(0, true), (1, true), (2, true), (3, true), (4, true), (5, true), (6, true), (7, true), (9, true), (10, true), (8, false), (11, true), (12, false)])]⟩
def ir26 : Go.Rmp.Fn := ⟨126, 2, [.t 4, .t 5],
  sq (.ops [op 4 (.mov (.c .nilp)), op 5 (.mov (.c (.int .i64 0)))]) <|
  sq (.ops [cl 16 7 [], op 6 (.mov (.r 16))]) <|
  sq (sq (.ops [op 17 (.mov (.r 1)), op 18 (.len .sl (.r 17)), op 19 (.mov (.c (.int .i64 0)))]) <|
  .block 0 (
    .loop (
      sq (.ops [op 20 (.bin .lss (.r 19) (.r 18))]) <|
      sq (.cond (.r 20)
        (.skip)
        (.exit 0)) <|
      sq (.block 1 (
        sq (.ops [op 21 (.mov (.r 19)), op 22 (.iad 2 (.r 17) (.r 19)), op 23 (.ld 2 true (.r 22)), op 8 (.alloc [.str ⟨#[]⟩, .int .u64 0]), op 7 (.mov (.r 21)), ef (.st 2 (.r 8) (.r 23))]) <|
        sq (sq (.ops [op 24 (.mov (.r 7)), op 25 (.bin .gtr (.r 24) (.c (.int .i64 0))), op 26 (.mov (.r 25)), ⟨(some 27), .b (.fad 0 (.r 8)), (some (26, true)), []⟩, ⟨(some 28), .b (.ld 1 false (.r 27)), (some (26, true)), []⟩, ⟨(some 29), .b (.mov (.r 1)), (some (26, true)), []⟩, ⟨(some 30), .b (.mov (.r 7)), (some (26, true)), []⟩, ⟨(some 31), .b (.bin .sub (.r 30) (.c (.int .i64 1))), (some (26, true)), []⟩, ⟨(some 32), .b (.iad 2 (.r 29) (.r 31)), (some (26, true)), []⟩, ⟨(some 33), .b (.fad 0 (.r 32)), (some (26, true)), []⟩, ⟨(some 34), .b (.ld 1 false (.r 33)), (some (26, true)), []⟩, ⟨(some 35), .b (.bin .leq (.r 28) (.r 34)), (some (26, true)), []⟩, op 36 (.pick (.r 26) (.r 35) (.c (.bool false)))]) <|
        .cond (.r 36)
          (sq (.ops [op 4 (.mov (.c .nilp)), op 5 (.mov (.c (.int .i64 1)))]) <|
          .ret)
          (.skip)) <|
        .ops [op 37 (.mov (.r 6)), op 38 (.nilc (.r 37)), op 39 (.fad 3 (.r 38)), op 40 (.ld 1 false (.r 39)), op 41 (.fad 0 (.r 8)), op 42 (.ld 1 false (.r 41)), op 43 (.fad 1 (.r 8)), op 44 (.ld 1 false (.r 43)), ef (.upm (.sc .str) (.r 40) (.r 42) (.r 44))])) <|
      .ops [op 45 (.bin .add (.r 19) (.c (.int .i64 1))), op 19 (.mov (.r 45))]))) <|
  sq (sq (.ops [op 46 (.mov (.r 0)), op 47 (.len .sl (.r 46)), op 48 (.mov (.c (.int .i64 0)))]) <|
  .block 2 (
    .loop (
      sq (.ops [op 49 (.bin .lss (.r 48) (.r 47))]) <|
      sq (.cond (.r 49)
        (.skip)
        (.exit 2)) <|
      sq (.block 3 (
        sq (.ops [op 50 (.mov (.r 48)), op 51 (.iad 5 (.r 46) (.r 48)), op 52 (.ld 5 true (.r 51)), op 10 (.alloc [.str ⟨#[]⟩, .int .u64 0, .str ⟨#[]⟩, .sl .nil [], .int .i64 0]), op 9 (.mov (.r 50)), ef (.st 5 (.r 10) (.r 52))]) <|
        sq (.ops [op 53 (.fad 0 (.r 10)), op 54 (.fad 0 (.r 53)), op 55 (.ld 1 false (.r 54)), op 56 (.fad 0 (.r 10)), op 57 (.fad 1 (.r 56)), op 58 (.ld 1 false (.r 57)), op 59 (.build [.str ⟨#[]⟩, .int .u64 0] [(0, 1, (.r 55)), (1, 1, (.r 58))]), op 11 (.alloc [.str ⟨#[]⟩, .int .u64 0]), ef (.st 2 (.r 11) (.r 59))]) <|
        sq (sq (.ops [op 60 (.mov (.r 9)), op 61 (.bin .gtr (.r 60) (.c (.int .i64 0))), op 62 (.mov (.r 61)), ⟨(some 63), .b (.mov (.r 0)), (some (62, true)), []⟩, ⟨(some 64), .b (.mov (.r 9)), (some (62, true)), []⟩, ⟨(some 65), .b (.bin .sub (.r 64) (.c (.int .i64 1))), (some (62, true)), []⟩, ⟨(some 66), .b (.iad 5 (.r 63) (.r 65)), (some (62, true)), []⟩, ⟨(some 67), .b (.fad 0 (.r 66)), (some (62, true)), []⟩, ⟨(some 68), .b (.fad 0 (.r 67)), (some (62, true)), []⟩, ⟨(some 69), .b (.ld 1 false (.r 68)), (some (62, true)), []⟩, ⟨(some 70), .b (.mov (.r 0)), (some (62, true)), []⟩, ⟨(some 71), .b (.mov (.r 9)), (some (62, true)), []⟩, ⟨(some 72), .b (.bin .sub (.r 71) (.c (.int .i64 1))), (some (62, true)), []⟩, ⟨(some 73), .b (.iad 5 (.r 70) (.r 72)), (some (62, true)), []⟩, ⟨(some 74), .b (.fad 0 (.r 73)), (some (62, true)), []⟩, ⟨(some 75), .b (.fad 1 (.r 74)), (some (62, true)), []⟩, ⟨(some 76), .b (.ld 1 false (.r 75)), (some (62, true)), []⟩, ⟨(some 77), .b (.build [.str ⟨#[]⟩, .int .u64 0] [(0, 1, (.r 69)), (1, 1, (.r 76))]), (some (62, true)), []⟩, ⟨(some 78), .b (.ld 2 true (.r 11)), (some (62, true)), []⟩, ⟨(some 79), .call 36 [(.r 77), (.r 78)], (some (62, true)), []⟩, ⟨(some 80), .b (.bin .geq (.r 79) (.c (.int .i64 0))), (some (62, true)), []⟩, op 81 (.pick (.r 62) (.r 80) (.c (.bool false))), op 82 (.mov (.r 81)), ⟨(some 83), .b (.mov (.r 6)), (some (82, false)), []⟩, ⟨(some 84), .b (.ld 5 true (.r 10)), (some (82, false)), []⟩, ⟨(some 85), .call 40 [(.r 83), (.r 84)], (some (82, false)), []⟩, ⟨(some 86), .b (.un .not (.r 85)), (some (82, false)), []⟩, op 87 (.pick (.r 82) (.c (.bool true)) (.r 86))]) <|
        .cond (.r 87)
          (sq (.ops [op 4 (.mov (.c .nilp)), op 5 (.mov (.c (.int .i64 1)))]) <|
          .ret)
          (.skip)) <|
        .ops [op 88 (.mov (.r 6)), op 89 (.ld 2 true (.r 11)), op 90 (.fad 0 (.r 10)), op 91 (.fad 2 (.r 90)), op 92 (.ld 1 false (.r 91)), op 93 (.fad 0 (.r 10)), op 94 (.fad 3 (.r 93)), op 95 (.ld 1 false (.r 94)), op 97 (.fad 4 (.r 10)), op 98 (.ld 1 false (.r 97)), ⟨(some 96), .call 42 [(.r 95)], none, [⟨89, .ld 2 true (.r 11), none⟩, ⟨92, .ld 1 false (.r 91), none⟩, ⟨98, .ld 1 false (.r 97), none⟩]⟩, op 99 (.build [.str ⟨#[]⟩, .sl .nil [], .int .i64 0] [(0, 1, (.r 92)), (1, 1, (.r 96)), (2, 1, (.r 98))]), cl 100 41 [(.r 88), (.r 89), (.r 99)]])) <|
      .ops [op 101 (.bin .add (.r 48) (.c (.int .i64 1))), op 48 (.mov (.r 101))]))) <|
  sq (sq (.ops [op 102 (.mov (.r 6)), op 103 (.nilc (.r 102)), op 104 (.fad 3 (.r 103)), op 105 (.ld 1 false (.r 104)), op 106 (.rng (.r 105))]) <|
  .block 4 (
    .loop (
      sq (.ops [op 107 (.nxt (.r 106)), op 108 (.ext 0 (.r 107))]) <|
      sq (.cond (.r 108)
        (.skip)
        (.exit 4)) <|
      .block 5 (
        sq (.ops [op 109 (.ent (.r 106)), op 110 (.ext 0 (.r 109)), op 111 (.ext 1 (.r 109)), op 12 (.mov (.r 110)), op 13 (.mov (.r 111))]) <|
        sq (.ops [op 113 (.mov (.r 6)), op 114 (.nilc (.r 113)), op 115 (.fad 0 (.r 114)), op 116 (.ld 1 false (.r 115)), op 117 (.mov (.r 12)), op 118 (.mov (.r 13)), op 119 (.build [.str ⟨#[]⟩, .int .u64 0] [(0, 1, (.r 117)), (1, 1, (.r 118))]), op 120 (.lkp (.st [.str, .int]) (.agg [.str ⟨#[]⟩, .sl .nil [], .int .i64 0]) true (.r 116) (.r 119)), op 112 (.mov (.r 120)), op 121 (.ext 0 (.r 112)), op 122 (.ext 1 (.r 112)), op 14 (.alloc [.str ⟨#[]⟩, .sl .nil [], .int .i64 0]), ef (.st 3 (.r 14) (.r 121)), op 15 (.mov (.r 122))]) <|
        sq (.ops [op 123 (.mov (.r 15)), op 124 (.un .not (.r 123))]) <|
        .cond (.r 124)
          (sq (.ops [op 4 (.mov (.c .nilp)), op 5 (.mov (.c (.int .i64 1)))]) <|
          .ret)
          (.skip))))) <|
  sq (.ops [op 125 (.mov (.r 6)), op 4 (.mov (.r 125)), op 5 (.mov (.c (.int .i64 0)))]) <|
  .ret⟩
def an27 : An := ⟨[], [(6, [(0, true), (1, true), (2, true), (3, true), (4, true), (5, true), (6, true), (7, true), (8, true), (9, true), (10, false), (11, true), (12, true), (13, true), (14, true), (15, true), (16, true), (17, true), (18, true), (19, true), (20, true), (21, true), (22, true), (23, true), (24, true)])]⟩
def ir27 : Go.Rmp.Fn := ⟨42, 2, [.t 4],
  sq (.ops [op 4 (.mov (.c (.bool false)))]) <|
  sq (sq (.ops [op 6 (.mov (.r 0)), op 7 (.len .sl (.r 6)), op 8 (.mov (.r 1)), op 9 (.len .sl (.r 8)), op 10 (.bin .neq (.r 7) (.r 9))]) <|
  .cond (.r 10)
    (sq (.ops [op 4 (.mov (.c (.bool false)))]) <|
    .ret)
    (.skip)) <|
  sq (sq (.ops [op 5 (.mov (.c (.int .i64 0)))]) <|
  .block 0 (
    .loop (
      sq (sq (.ops [op 11 (.mov (.r 5)), op 12 (.mov (.r 0)), op 13 (.len .sl (.r 12)), op 14 (.bin .lss (.r 11) (.r 13))]) <|
      .cond (.r 14)
        (.skip)
        (.exit 0)) <|
      sq (.block 1 (
        sq (.ops [op 17 (.mov (.r 0)), op 18 (.mov (.r 5)), op 19 (.iad 5 (.r 17) (.r 18)), op 20 (.fad 0 (.r 19)), op 21 (.ld 4 true (.r 20)), op 22 (.mov (.r 1)), op 23 (.mov (.r 5)), op 24 (.iad 5 (.r 22) (.r 23)), op 25 (.fad 0 (.r 24)), op 26 (.ld 4 true (.r 25)), cl 27 22 [(.r 21), (.r 26)], op 28 (.un .not (.r 27)), op 29 (.mov (.r 28)), ⟨(some 30), .b (.mov (.r 0)), (some (29, false)), []⟩, ⟨(some 31), .b (.mov (.r 5)), (some (29, false)), []⟩, ⟨(some 32), .b (.iad 5 (.r 30) (.r 31)), (some (29, false)), []⟩, ⟨(some 33), .b (.fad 4 (.r 32)), (some (29, false)), []⟩, ⟨(some 34), .b (.ld 1 false (.r 33)), (some (29, false)), []⟩, ⟨(some 35), .b (.mov (.r 1)), (some (29, false)), []⟩, ⟨(some 36), .b (.mov (.r 5)), (some (29, false)), []⟩, ⟨(some 37), .b (.iad 5 (.r 35) (.r 36)), (some (29, false)), []⟩, ⟨(some 38), .b (.fad 4 (.r 37)), (some (29, false)), []⟩, ⟨(some 39), .b (.ld 1 false (.r 38)), (some (29, false)), []⟩, ⟨(some 40), .b (.bin .neq (.r 34) (.r 39)), (some (29, false)), []⟩, op 41 (.pick (.r 29) (.c (.bool true)) (.r 40))]) <|
        .cond (.r 41)
          (sq (.ops [op 4 (.mov (.c (.bool false)))]) <|
          .ret)
          (.skip))) <|
      .ops [op 15 (.mov (.r 5)), op 16 (.bin .add (.r 15) (.c (.int .i64 1))), op 5 (.mov (.r 16))]))) <|
  sq (.ops [op 4 (.mov (.c (.bool true)))]) <|
  .ret⟩
def an28 : An := ⟨[], [(8, [(0, true), (1, true), (2, true), (3, true), (4, true), (5, true), (6, true), (7, true), (8, true), (9, true), (10, false), (11, true)]), (12, [(0, true), (1, true), (2, true), (3, true), (4, true), (5, true), (6, true), (7, true), (8, true)]), (14, [(0, true), (1, true), (2, true), (3, true), (4, true), (6, true), (5, false), (7, true), (8, false)])]⟩
def ir28 : Go.Rmp.Fn := ⟨70, 5, [.t 10, .t 11],
  sq (.ops [op 10 (.mov (.c (.bool false))), op 11 (.mov (.c (.int .i64 0)))]) <|
  sq (sq (.ops [op 19 (.mov (.r 1)), op 20 (.mov (.r 2)), op 21 (.mov (.r 3)), cl 22 43 [(.r 19), (.r 20), (.r 21)], op 23 (.un .not (.r 22)), op 24 (.mov (.r 23)), ⟨(some 25), .b (.mov (.r 4)), (some (24, false)), []⟩, ⟨(some 26), .call 31 [(.r 25)], (some (24, false)), []⟩, ⟨(some 27), .b (.un .not (.r 26)), (some (24, false)), []⟩, op 28 (.pick (.r 24) (.c (.bool true)) (.r 27))]) <|
  .cond (.r 28)
    (sq (.ops [op 10 (.mov (.c (.bool false))), op 11 (.mov (.c (.int .i64 1)))]) <|
    .ret)
    (.skip)) <|
  sq (.ops [op 12 (.mov (.c (.bool false)))]) <|
  sq (sq (.ops [op 29 (.mov (.r 2)), op 30 (.len .sl (.r 29)), op 31 (.mov (.c (.int .i64 0)))]) <|
  .block 0 (
    .loop (
      sq (.ops [op 32 (.bin .lss (.r 31) (.r 30))]) <|
      sq (.cond (.r 32)
        (.skip)
        (.exit 0)) <|
      sq (.block 1 (
        sq (.ops [op 33 (.iad 2 (.r 29) (.r 31)), op 34 (.ld 2 true (.r 33)), op 14 (.alloc [.str ⟨#[]⟩, .str ⟨#[]⟩]), ef (.st 2 (.r 14) (.r 34))]) <|
        sq (.ops [op 35 (.fad 0 (.r 14)), op 36 (.ld 1 false (.r 35)), op 37 (.mov (.r 1)), op 38 (.build [.str ⟨#[]⟩, .int .u64 0] [(0, 1, (.r 36)), (1, 1, (.r 37))]), op 15 (.alloc [.str ⟨#[]⟩, .int .u64 0]), ef (.st 2 (.r 15) (.r 38))]) <|
        sq (sq (.ops [op 40 (.mov (.r 0)), op 41 (.nilc (.r 40)), op 42 (.fad 0 (.r 41)), op 43 (.ld 1 false (.r 42)), op 44 (.ld 2 true (.r 15)), op 45 (.lkp (.st [.str, .int]) (.agg [.str ⟨#[]⟩, .sl .nil [], .int .i64 0]) true (.r 43) (.r 44)), op 39 (.mov (.r 45)), op 46 (.ext 0 (.r 39)), op 47 (.ext 1 (.r 39)), op 16 (.alloc [.str ⟨#[]⟩, .sl .nil [], .int .i64 0]), ef (.st 3 (.r 16) (.r 46)), op 17 (.mov (.r 47))]) <|
        sq (.ops [op 48 (.mov (.r 17))]) <|
        .cond (.r 48)
          (.exit 1)
          (.skip)) <|
        sq (.ops [op 12 (.mov (.c (.bool true)))]) <|
        sq (.ops [op 18 (.mov (.c (.int .i64 (-1))))]) <|
        sq (sq (.ops [op 49 (.mov (.r 1)), op 50 (.mov (.r 0)), op 51 (.nilc (.r 50)), op 52 (.fad 3 (.r 51)), op 53 (.ld 1 false (.r 52)), op 54 (.fad 0 (.r 14)), op 55 (.ld 1 false (.r 54)), op 56 (.lkp (.sc .str) (.int .u64 0) false (.r 53) (.r 55)), op 57 (.bin .lss (.r 49) (.r 56))]) <|
        .cond (.r 57)
          (.ops [op 58 (.mov (.r 4)), op 18 (.mov (.r 58))])
          (.skip)) <|
        .ops [op 59 (.mov (.r 0)), op 60 (.ld 2 true (.r 15)), op 61 (.fad 1 (.r 14)), op 62 (.ld 1 false (.r 61)), op 63 (.mov (.r 3)), op 65 (.mov (.r 18)), ⟨(some 64), .call 42 [(.r 63)], none, [⟨60, .ld 2 true (.r 15), none⟩, ⟨62, .ld 1 false (.r 61), none⟩]⟩, op 66 (.build [.str ⟨#[]⟩, .sl .nil [], .int .i64 0] [(0, 1, (.r 62)), (1, 1, (.r 64)), (2, 1, (.r 65))]), cl 67 41 [(.r 59), (.r 60), (.r 66)]])) <|
      .ops [op 68 (.bin .add (.r 31) (.c (.int .i64 1))), op 31 (.mov (.r 68))]))) <|
  sq (.ops [op 69 (.mov (.r 12)), op 10 (.mov (.r 69)), op 11 (.mov (.c (.int .i64 0)))]) <|
  .ret⟩
def an29 : An := ⟨[], [(5, [(0, true), (1, true), (2, true), (3, true), (4, true), (5, true), (6, true), (7, true), (8, true), (9, true), (10, true), (11, true), (12, false), (13, false)])]⟩
def ir29 : Go.Rmp.Fn := ⟨26, 1, [.t 2],
  sq (.ops [op 2 (.mov (.c (.sl .nil [])))]) <|
  sq (.ops [op 3 (.mov (.c (.sl .nil [])))]) <|
  sq (sq (.ops [op 4 (.mov (.c (.int .i64 0)))]) <|
  .block 0 (
    .loop (
      sq (sq (.ops [op 5 (.mov (.r 4)), op 6 (.bin .add (.r 5) (.c (.int .i64 1))), op 7 (.mov (.r 0)), op 8 (.len .sl (.r 7)), op 9 (.bin .lss (.r 6) (.r 8))]) <|
      .cond (.r 9)
        (.skip)
        (.exit 0)) <|
      sq (.block 1 (
        .ops [op 12 (.mov (.r 3)), op 13 (.mov (.r 0)), op 14 (.mov (.r 4)), op 15 (.iad 1 (.r 13) (.r 14)), op 16 (.ld 1 false (.r 15)), op 17 (.mov (.r 0)), op 18 (.mov (.r 4)), op 19 (.bin .add (.r 18) (.c (.int .i64 1))), op 20 (.iad 1 (.r 17) (.r 19)), op 21 (.ld 1 false (.r 20)), op 22 (.build [.str ⟨#[]⟩, .str ⟨#[]⟩] [(0, 1, (.r 16)), (1, 1, (.r 21))]), op 23 (.bsl 1 [.str ⟨#[]⟩, .str ⟨#[]⟩] [(0, (.r 22))]), op 24 (.app 2 32 false (.r 12) (.r 23)), op 3 (.mov (.r 24))])) <|
      .ops [op 10 (.mov (.r 4)), op 11 (.bin .add (.r 10) (.c (.int .i64 2))), op 4 (.mov (.r 11))]))) <|
  sq (.ops [op 25 (.mov (.r 3)), op 2 (.mov (.r 25))]) <|
  .ret⟩
def an30 : An := ⟨[], [(1, [(0, true), (1, true), (2, true), (3, true), (4, true), (5, true), (6, true), (7, false)]), (2, [(0, true), (1, true), (2, true), (3, true), (4, true), (5, true), (6, true), (7, true), (8, false), (9, true), (10, false)])]⟩
def ir30 : Go.Rmp.Fn := ⟨22, 2, [.cl 4 4 true],
  sq (.ops [op 3 (.box (.r 1)), op 4 (.alloc [.str ⟨#[]⟩, .int .u64 0, .str ⟨#[]⟩, .sl .nil []])]) <|
  sq (.ops [op 6 (.mov (.r 0)), op 7 (.nilc (.r 6)), op 8 (.fad 0 (.r 7)), op 9 (.ld 1 false (.r 8)), op 10 (.ld 2 true (.r 3)), op 11 (.lkp (.st [.str, .int]) (.agg [.str ⟨#[]⟩, .sl .nil [], .int .i64 0]) false (.r 9) (.r 10)), op 5 (.alloc [.str ⟨#[]⟩, .sl .nil [], .int .i64 0]), ef (.st 3 (.r 5) (.r 11))]) <|
  sq (.ops [op 12 (.fad 0 (.r 3)), op 13 (.ld 1 false (.r 12)), op 14 (.fad 1 (.r 3)), op 15 (.ld 1 false (.r 14)), op 16 (.fad 0 (.r 5)), op 17 (.ld 1 false (.r 16)), op 18 (.fad 1 (.r 5)), op 19 (.ld 1 false (.r 18)), ⟨(some 20), .call 42 [(.r 19)], none, [⟨13, .ld 1 false (.r 12), none⟩, ⟨15, .ld 1 false (.r 14), none⟩, ⟨17, .ld 1 false (.r 16), none⟩]⟩, op 21 (.build [.str ⟨#[]⟩, .int .u64 0, .str ⟨#[]⟩, .sl .nil []] [(0, 1, (.r 13)), (1, 1, (.r 15)), (2, 1, (.r 17)), (3, 1, (.r 20))]), ef (.st 4 (.r 4) (.r 21))]) <|
  .ret⟩
def an31 : An := ⟨[], []⟩
def ir31 : Go.Rmp.Fn := ⟨9, 1, [.t 2],
  sq (.ops [op 2 (.mov (.c (.bool false)))]) <|
  sq (.ops [op 3 (.mov (.r 0)), op 4 (.bin .geq (.r 3) (.c (.int .i64 0))), op 5 (.mov (.r 4)), ⟨(some 6), .b (.mov (.r 0)), (some (5, true)), []⟩, ⟨(some 7), .b (.bin .leq (.r 6) (.c (.int .i64 1099511627776))), (some (5, true)), []⟩, op 8 (.pick (.r 5) (.r 7) (.c (.bool false))), op 2 (.mov (.r 8))]) <|
  .ret⟩
def an32 : An := ⟨[], []⟩
def ir32 : Go.Rmp.Fn := ⟨8, 2, [.t 4],
  sq (.ops [op 3 (.box (.r 1)), op 4 (.mov (.c (.sl .nil [])))]) <|
  sq (.ops [op 5 (.mov (.r 0)), op 6 (.mkf 45 [(.r 3)]), cl 7 44 [(.r 5), (.r 6)], op 4 (.mov (.r 7))]) <|
  .ret⟩
def an33 : An := ⟨[], []⟩
def ir33 : Go.Rmp.Fn := ⟨8, 2, [.t 4],
  sq (.ops [op 3 (.box (.r 1)), op 4 (.mov (.c (.sl .nil [])))]) <|
  sq (.ops [op 5 (.mov (.r 0)), op 6 (.mkf 47 [(.r 3)]), cl 7 46 [(.r 5), (.r 6)], op 4 (.mov (.r 7))]) <|
  .ret⟩
def an34 : An := ⟨[], []⟩
def ir34 : Go.Rmp.Fn := ⟨12, 2, [.t 4],
  sq (.ops [op 4 (.mov (.c (.sl .nil [])))]) <|
  sq (.ops [op 6 (.mov (.r 0)), cl 7 48 [(.r 6)], op 5 (.mov (.r 7))]) <|
  sq (.ops [op 8 (.mov (.r 5)), op 9 (.mov (.r 1)), cl 10 49 [(.r 8), (.r 9)]]) <|
  sq (.ops [op 11 (.mov (.r 5)), op 4 (.mov (.r 11))]) <|
  .ret⟩
def an35 : An := ⟨[], []⟩
def ir35 : Go.Rmp.Fn := ⟨4, 1, [.t 2],
  sq (.ops [op 1 (.box (.r 0)), op 2 (.mov (.c .nilf))]) <|
  sq (.ops [op 3 (.mkf 50 [(.r 1)]), op 2 (.mov (.r 3))]) <|
  .ret⟩
def an36 : An := ⟨[], [(1, [(0, true), (1, true), (2, true), (3, true), (5, true), (6, true), (7, true), (8, true), (4, false), (9, false), (10, true), (11, false), (12, true)])]⟩
def ir36 : Go.Rmp.Fn := ⟨17, 2, [.t 4],
  sq (.ops [op 2 (.box (.r 0)), op 3 (.box (.r 1)), op 4 (.mov (.c (.int .i64 0)))]) <|
  sq (.ops [op 5 (.fad 0 (.r 2)), op 6 (.ld 1 false (.r 5)), op 7 (.fad 0 (.r 3)), op 8 (.ld 1 false (.r 7)), op 10 (.fad 1 (.r 2)), op 11 (.ld 1 false (.r 10)), op 12 (.fad 1 (.r 3)), op 13 (.ld 1 false (.r 12)), ⟨(some 9), .call 52 [(.r 6), (.r 8)], none, [⟨11, .ld 1 false (.r 10), none⟩, ⟨13, .ld 1 false (.r 12), none⟩]⟩, cl 14 53 [(.r 11), (.r 13)], op 15 (.bsl 2 [.int .i64 0] [(0, (.r 9)), (1, (.r 14))]), cl 16 51 [(.r 15)], op 4 (.mov (.r 16))]) <|
  .ret⟩
def an37 : An := ⟨[], [(6, [(0, true), (1, true), (2, true), (3, true), (4, true), (5, true), (6, true), (7, true), (8, true)])]⟩
def ir37 : Go.Rmp.Fn := ⟨26, 2, [.t 4],
  sq (.ops [op 4 (.mov (.c (.bool false)))]) <|
  sq (sq (.ops [op 6 (.mov (.r 0)), op 7 (.len .sl (.r 6)), op 8 (.mov (.r 1)), op 9 (.len .sl (.r 8)), op 10 (.bin .neq (.r 7) (.r 9))]) <|
  .cond (.r 10)
    (sq (.ops [op 4 (.mov (.c (.bool false)))]) <|
    .ret)
    (.skip)) <|
  sq (sq (.ops [op 5 (.mov (.c (.int .i64 0)))]) <|
  .block 0 (
    .loop (
      sq (sq (.ops [op 11 (.mov (.r 5)), op 12 (.mov (.r 0)), op 13 (.len .sl (.r 12)), op 14 (.bin .lss (.r 11) (.r 13))]) <|
      .cond (.r 14)
        (.skip)
        (.exit 0)) <|
      sq (.block 1 (
        sq (.ops [op 17 (.mov (.r 0)), op 18 (.mov (.r 5)), op 19 (.iad 1 (.r 17) (.r 18)), op 20 (.ld 1 false (.r 19)), op 21 (.mov (.r 1)), op 22 (.mov (.r 5)), op 23 (.iad 1 (.r 21) (.r 22)), op 24 (.ld 1 false (.r 23)), op 25 (.bin .neq (.r 20) (.r 24))]) <|
        .cond (.r 25)
          (sq (.ops [op 4 (.mov (.c (.bool false)))]) <|
          .ret)
          (.skip))) <|
      .ops [op 15 (.mov (.r 5)), op 16 (.bin .add (.r 15) (.c (.int .i64 1))), op 5 (.mov (.r 16))]))) <|
  sq (.ops [op 4 (.mov (.c (.bool true)))]) <|
  .ret⟩
def an38 : An := ⟨[], []⟩
def ir38 : Go.Rmp.Fn := ⟨9, 1, [.t 2],
  sq (.ops [op 2 (.mov (.c (.sl .nil [])))]) <|
  sq (.ops [op 4 (.mov (.r 0)), cl 5 54 [(.r 4)], op 3 (.mov (.r 5))]) <|
  sq (.ops [op 6 (.mov (.r 3)), cl 7 55 [(.r 6)]]) <|
  sq (.ops [op 8 (.mov (.r 3)), op 2 (.mov (.r 8))]) <|
  .ret⟩
def an39 : An := ⟨[], []⟩
def ir39 : Go.Rmp.Fn := ⟨4, 1, [.t 2],
  sq (.ops [op 1 (.box (.r 0)), op 2 (.mov (.c .nilf))]) <|
  sq (.ops [op 3 (.mkf 56 [(.r 1)]), op 2 (.mov (.r 3))]) <|
  .ret⟩
def an40 : An := ⟨[], [(4, [(0, true), (1, true), (2, true), (3, true), (4, true), (5, true), (6, true), (7, true), (8, true), (9, true)])]⟩
def ir40 : Go.Rmp.Fn := ⟨47, 2, [.t 4],
  sq (.ops [op 3 (.box (.r 1)), op 4 (.mov (.c (.bool false)))]) <|
  sq (.ops [op 6 (.fad 0 (.r 3)), op 7 (.ld 4 true (.r 6)), op 5 (.alloc [.str ⟨#[]⟩, .int .u64 0, .str ⟨#[]⟩, .sl .nil []]), ef (.st 4 (.r 5) (.r 7))]) <|
  sq (sq (.ops [op 8 (.fad 1 (.r 5)), op 9 (.ld 1 false (.r 8)), op 10 (.bin .lss (.r 9) (.c (.int .u64 65536))), op 11 (.mov (.r 10)), ⟨(some 12), .b (.fad 3 (.r 5)), (some (11, false)), []⟩, ⟨(some 13), .b (.ld 1 false (.r 12)), (some (11, false)), []⟩, ⟨(some 14), .call 57 [(.r 13)], (some (11, false)), []⟩, ⟨(some 15), .b (.un .not (.r 14)), (some (11, false)), []⟩, op 16 (.pick (.r 11) (.c (.bool true)) (.r 15)), op 17 (.mov (.r 16)), ⟨(some 18), .b (.fad 3 (.r 5)), (some (17, false)), []⟩, ⟨(some 19), .b (.ld 1 false (.r 18)), (some (17, false)), []⟩, ⟨(some 20), .b (.fad 0 (.r 5)), (some (17, false)), []⟩, ⟨(some 21), .b (.ld 1 false (.r 20)), (some (17, false)), []⟩, ⟨(some 22), .call 58 [(.r 19), (.r 21)], (some (17, false)), []⟩, ⟨(some 23), .b (.un .not (.r 22)), (some (17, false)), []⟩, op 24 (.pick (.r 17) (.c (.bool true)) (.r 23)), op 25 (.mov (.r 24)), ⟨(some 26), .b (.fad 2 (.r 5)), (some (25, false)), []⟩, ⟨(some 27), .b (.ld 1 false (.r 26)), (some (25, false)), []⟩, ⟨(some 28), .b (.len .str (.r 27)), (some (25, false)), []⟩, ⟨(some 29), .b (.bin .gtr (.r 28) (.c (.int .i64 65535))), (some (25, false)), []⟩, op 30 (.pick (.r 25) (.c (.bool true)) (.r 29))]) <|
  .cond (.r 30)
    (sq (.ops [op 4 (.mov (.c (.bool false)))]) <|
    .ret)
    (.skip)) <|
  sq (sq (.ops [op 31 (.fad 1 (.r 5)), op 32 (.ld 1 false (.r 31)), op 33 (.mov (.r 0)), op 34 (.nilc (.r 33)), op 35 (.fad 3 (.r 34)), op 36 (.ld 1 false (.r 35)), op 37 (.fad 0 (.r 5)), op 38 (.ld 1 false (.r 37)), op 39 (.lkp (.sc .str) (.int .u64 0) false (.r 36) (.r 38)), op 40 (.bin .lss (.r 32) (.r 39))]) <|
  .cond (.r 40)
    (sq (.ops [op 41 (.fad 4 (.r 3)), op 42 (.ld 1 false (.r 41)), cl 43 31 [(.r 42)], op 4 (.mov (.r 43))]) <|
    .ret)
    (.skip)) <|
  sq (.ops [op 44 (.fad 4 (.r 3)), op 45 (.ld 1 false (.r 44)), op 46 (.bin .eql (.r 45) (.c (.int .i64 (-1)))), op 4 (.mov (.r 46))]) <|
  .ret⟩
def an41 : An := ⟨[(3, 16), (4, 16)], [(1, [(0, true), (1, true), (2, true), (3, true), (4, true), (5, true), (6, false)]), (2, [(0, true), (1, true), (2, true), (3, true), (4, true), (5, true), (6, true), (7, true), (8, true), (9, false), (10, true), (11, true), (12, true), (13, true), (14, true)]), (3, [(0, true), (1, true), (2, true), (3, true), (4, true), (5, true), (6, true), (7, true), (8, true), (9, true), (10, true), (11, true), (12, true), (13, true), (14, true), (15, true), (16, false), (17, false), (18, false)]), (4, [(0, true), (1, true), (2, true), (3, true), (4, true), (5, true), (6, true), (7, true), (8, true), (9, true), (10, true), (11, true), (12, true), (13, true), (14, true), (15, true), (16, false), (17, false)])]⟩
def ir41 : Go.Rmp.Fn := ⟨62, 3, [],
  sq (.ops [op 4 (.box (.r 1)), op 5 (.box (.r 2))]) <|
  sq (.ops [op 8 (.mov (.r 0)), op 9 (.nilc (.r 8)), op 10 (.fad 0 (.r 9)), op 11 (.ld 1 false (.r 10)), op 12 (.ld 2 true (.r 4)), op 13 (.ld 3 true (.r 5)), ef (.upm (.st [.str, .int]) (.r 11) (.r 12) (.r 13))]) <|
  sq (.ops [op 15 (.mov (.r 0)), op 16 (.nilc (.r 15)), op 17 (.fad 1 (.r 16)), op 18 (.ld 1 false (.r 17)), op 19 (.fad 0 (.r 4)), op 20 (.ld 1 false (.r 19)), op 21 (.lkp (.sc .str) (.sl .nil []) false (.r 18) (.r 20)), op 22 (.fad 1 (.r 4)), op 23 (.ld 1 false (.r 22)), cl 24 59 [(.r 21), (.r 23)], op 14 (.mov (.r 24)), op 25 (.ext 0 (.r 14)), op 26 (.ext 1 (.r 14)), op 6 (.mov (.r 25)), op 7 (.mov (.r 26))]) <|
  sq (.ops [op 27 (.mov (.r 0)), op 28 (.nilc (.r 27)), op 29 (.fad 1 (.r 28)), op 30 (.ld 1 false (.r 29)), op 31 (.fad 0 (.r 4)), op 32 (.ld 1 false (.r 31)), op 33 (.mov (.r 0)), op 34 (.nilc (.r 33)), op 35 (.fad 1 (.r 34)), op 36 (.ld 1 false (.r 35)), op 37 (.fad 0 (.r 4)), op 38 (.ld 1 false (.r 37)), op 39 (.lkp (.sc .str) (.sl .nil []) false (.r 36) (.r 38)), op 40 (.mov (.r 6)), op 41 (.fad 1 (.r 4)), op 42 (.ld 1 false (.r 41)), ⟨(some 43), .b (.bsm 1 [.int .u64 0] [(0, (.r 42))]), none, [⟨30, .ld 1 false (.r 29), none⟩, ⟨32, .ld 1 false (.r 31), none⟩, ⟨36, .ld 1 false (.r 35), none⟩, ⟨38, .ld 1 false (.r 37), none⟩, ⟨39, .lkp (.sc .str) (.sl .nil []) false (.r 36) (.r 38), none⟩]⟩, ⟨(some 44), .call 60 [(.r 39), (.r 40), (.r 43)], none, [⟨30, .ld 1 false (.r 29), none⟩, ⟨32, .ld 1 false (.r 31), none⟩]⟩, ef (.upm (.sc .str) (.r 30) (.r 32) (.r 44))]) <|
  .ops [op 45 (.mov (.r 0)), op 46 (.nilc (.r 45)), op 47 (.fad 2 (.r 46)), op 48 (.ld 1 false (.r 47)), op 49 (.fad 1 (.r 4)), op 50 (.ld 1 false (.r 49)), op 51 (.mov (.r 0)), op 52 (.nilc (.r 51)), op 53 (.fad 2 (.r 52)), op 54 (.ld 1 false (.r 53)), op 55 (.fad 1 (.r 4)), op 56 (.ld 1 false (.r 55)), op 57 (.lkp (.sc .int) (.sl .nil []) false (.r 54) (.r 56)), op 58 (.fad 0 (.r 4)), op 59 (.ld 1 false (.r 58)), op 60 (.bsl 1 [.str ⟨#[]⟩] [(0, (.r 59))]), ⟨(some 61), .b (.app 1 16 true (.r 57) (.r 60)), none, [⟨48, .ld 1 false (.r 47), none⟩, ⟨50, .ld 1 false (.r 49), none⟩]⟩, ef (.upm (.sc .int) (.r 48) (.r 50) (.r 61))]⟩
def an42 : An := ⟨[], []⟩
def ir42 : Go.Rmp.Fn := ⟨8, 1, [.t 2],
  sq (.ops [op 2 (.mov (.c (.sl .nil [])))]) <|
  sq (sq (.ops [op 3 (.mov (.r 0)), op 4 (.eqr false .slice (.r 3) (.c (.sl .nil [])))]) <|
  .cond (.r 4)
    (sq (.ops [op 2 (.mov (.c (.sl .nil [])))]) <|
    .ret)
    (.skip)) <|
  sq (.ops [op 5 (.bsl 0 [.str ⟨#[]⟩] []), op 6 (.mov (.r 0)), op 7 (.app 1 16 false (.r 5) (.r 6)), op 2 (.mov (.r 7))]) <|
  .ret⟩
def an43 : An := ⟨[], [(6, [(0, true), (1, true), (2, true), (3, true), (4, true), (5, true), (6, true), (7, true), (8, true), (9, true), (10, true), (11, true), (12, true), (13, true), (14, true), (15, true), (16, true), (17, false), (18, true), (19, true), (20, true), (21, true), (22, true), (23, true), (24, true), (25, true)])]⟩
def ir43 : Go.Rmp.Fn := ⟨55, 3, [.t 6],
  sq (.ops [op 6 (.mov (.c (.bool false)))]) <|
  sq (sq (.ops [op 9 (.mov (.r 0)), op 10 (.bin .lss (.r 9) (.c (.int .u64 65536))), op 11 (.mov (.r 10)), ⟨(some 12), .b (.mov (.r 2)), (some (11, false)), []⟩, ⟨(some 13), .call 57 [(.r 12)], (some (11, false)), []⟩, ⟨(some 14), .b (.un .not (.r 13)), (some (11, false)), []⟩, op 15 (.pick (.r 11) (.c (.bool true)) (.r 14)), op 16 (.mov (.r 15)), ⟨(some 17), .b (.mov (.r 1)), (some (16, false)), []⟩, ⟨(some 18), .b (.len .sl (.r 17)), (some (16, false)), []⟩, ⟨(some 19), .b (.bin .lss (.r 18) (.c (.int .i64 1))), (some (16, false)), []⟩, op 20 (.pick (.r 16) (.c (.bool true)) (.r 19))]) <|
  .cond (.r 20)
    (sq (.ops [op 6 (.mov (.c (.bool false)))]) <|
    .ret)
    (.skip)) <|
  sq (sq (.ops [op 21 (.mov (.r 1)), op 22 (.len .sl (.r 21)), op 23 (.mov (.c (.int .i64 0)))]) <|
  .block 0 (
    .loop (
      sq (.ops [op 24 (.bin .lss (.r 23) (.r 22))]) <|
      sq (.cond (.r 24)
        (.skip)
        (.exit 0)) <|
      sq (.block 1 (
        sq (.ops [op 25 (.mov (.r 23)), op 26 (.iad 2 (.r 21) (.r 23)), op 27 (.ld 2 true (.r 26)), op 8 (.alloc [.str ⟨#[]⟩, .str ⟨#[]⟩]), op 7 (.mov (.r 25)), ef (.st 2 (.r 8) (.r 27))]) <|
        sq (.ops [op 28 (.mov (.r 7)), op 29 (.bin .gtr (.r 28) (.c (.int .i64 0))), op 30 (.mov (.r 29)), ⟨(some 31), .b (.fad 0 (.r 8)), (some (30, true)), []⟩, ⟨(some 32), .b (.ld 1 false (.r 31)), (some (30, true)), []⟩, ⟨(some 33), .b (.mov (.r 1)), (some (30, true)), []⟩, ⟨(some 34), .b (.mov (.r 7)), (some (30, true)), []⟩, ⟨(some 35), .b (.bin .sub (.r 34) (.c (.int .i64 1))), (some (30, true)), []⟩, ⟨(some 36), .b (.iad 2 (.r 33) (.r 35)), (some (30, true)), []⟩, ⟨(some 37), .b (.fad 0 (.r 36)), (some (30, true)), []⟩, ⟨(some 38), .b (.ld 1 false (.r 37)), (some (30, true)), []⟩, ⟨(some 39), .b (.bin .leq (.r 32) (.r 38)), (some (30, true)), []⟩, op 40 (.pick (.r 30) (.r 39) (.c (.bool false))), op 41 (.mov (.r 40)), ⟨(some 42), .b (.mov (.r 2)), (some (41, false)), []⟩, ⟨(some 43), .b (.fad 0 (.r 8)), (some (41, false)), []⟩, ⟨(some 44), .b (.ld 1 false (.r 43)), (some (41, false)), []⟩, ⟨(some 45), .call 58 [(.r 42), (.r 44)], (some (41, false)), []⟩, ⟨(some 46), .b (.un .not (.r 45)), (some (41, false)), []⟩, op 47 (.pick (.r 41) (.c (.bool true)) (.r 46)), op 48 (.mov (.r 47)), ⟨(some 49), .b (.fad 1 (.r 8)), (some (48, false)), []⟩, ⟨(some 50), .b (.ld 1 false (.r 49)), (some (48, false)), []⟩, ⟨(some 51), .b (.len .str (.r 50)), (some (48, false)), []⟩, ⟨(some 52), .b (.bin .gtr (.r 51) (.c (.int .i64 65535))), (some (48, false)), []⟩, op 53 (.pick (.r 48) (.c (.bool true)) (.r 52))]) <|
        .cond (.r 53)
          (sq (.ops [op 6 (.mov (.c (.bool false)))]) <|
          .ret)
          (.skip))) <|
      .ops [op 54 (.bin .add (.r 23) (.c (.int .i64 1))), op 23 (.mov (.r 54))]))) <|
  sq (.ops [op 6 (.mov (.c (.bool true)))]) <|
  .ret⟩
def an44 : An := ⟨[], []⟩
def ir44 : Go.Rmp.Fn := ⟨42, 2, [.t 4],
  sq (.ops [op 4 (.mov (.c (.sl .nil [])))]) <|
  sq (.ops [op 8 (.mov (.r 0)), op 9 (.mov (.r 1)), cl 10 61 [(.r 8), (.r 9)], op 5 (.mov (.r 10))]) <|
  sq (sq (.ops [op 11 (.mov (.r 5)), op 12 (.bin .eql (.r 11) (.c (.int .i64 (-1))))]) <|
  .cond (.r 12)
    (sq (.ops [op 13 (.mov (.r 0)), op 4 (.mov (.r 13))]) <|
    .ret)
    (.skip)) <|
  sq (sq (.ops [op 14 (.mov (.r 5)), op 15 (.bin .add (.r 14) (.c (.int .i64 1))), op 6 (.mov (.r 15))]) <|
  .block 0 (
    .loop (
      sq (sq (.ops [op 16 (.mov (.r 6)), op 17 (.mov (.r 0)), op 18 (.len .sl (.r 17)), op 19 (.bin .lss (.r 16) (.r 18))]) <|
      .cond (.r 19)
        (.skip)
        (.exit 0)) <|
      sq (.block 1 (
        sq (.ops [op 22 (.mov (.r 0)), op 23 (.mov (.r 6)), op 24 (.iad 1 (.r 22) (.r 23)), op 25 (.ld 1 false (.r 24)), op 7 (.mov (.r 25))]) <|
        sq (.ops [op 26 (.mov (.r 1)), op 27 (.mov (.r 7)), ⟨(some 28), .callv (.r 26) [(.r 27)], none, []⟩, op 29 (.un .not (.r 28))]) <|
        .cond (.r 29)
          (sq (.ops [op 30 (.mov (.r 0)), op 31 (.mov (.r 5)), op 32 (.mov (.r 7)), op 33 (.iad 1 (.r 30) (.r 31)), ef (.st 1 (.r 33) (.r 32))]) <|
          .ops [op 34 (.mov (.r 5)), op 35 (.bin .add (.r 34) (.c (.int .i64 1))), op 5 (.mov (.r 35))])
          (.skip))) <|
      .ops [op 20 (.mov (.r 6)), op 21 (.bin .add (.r 20) (.c (.int .i64 1))), op 6 (.mov (.r 21))]))) <|
  sq (.ops [op 36 (.mov (.r 0)), op 37 (.mov (.r 5)), op 38 (.sll 1 (.r 36) (some (.r 37)) none none), ef (.clr 1 [.int .u64 0] (.r 38))]) <|
  sq (.ops [op 39 (.mov (.r 0)), op 40 (.mov (.r 5)), op 41 (.sll 1 (.r 39) none (some (.r 40)) none), op 4 (.mov (.r 41))]) <|
  .ret⟩
def an45 : An := ⟨[], []⟩
def ir45 : Go.Rmp.Fn := ⟨7, 2, [.t 3],
  sq (.ops [op 3 (.mov (.c (.bool false)))]) <|
  sq (.ops [op 4 (.mov (.r 0)), op 5 (.ld 1 false (.r 1)), op 6 (.bin .eql (.r 4) (.r 5)), op 3 (.mov (.r 6))]) <|
  .ret⟩
def an46 : An := ⟨[], []⟩
def ir46 : Go.Rmp.Fn := ⟨42, 2, [.t 4],
  sq (.ops [op 4 (.mov (.c (.sl .nil [])))]) <|
  sq (.ops [op 8 (.mov (.r 0)), op 9 (.mov (.r 1)), cl 10 62 [(.r 8), (.r 9)], op 5 (.mov (.r 10))]) <|
  sq (sq (.ops [op 11 (.mov (.r 5)), op 12 (.bin .eql (.r 11) (.c (.int .i64 (-1))))]) <|
  .cond (.r 12)
    (sq (.ops [op 13 (.mov (.r 0)), op 4 (.mov (.r 13))]) <|
    .ret)
    (.skip)) <|
  sq (sq (.ops [op 14 (.mov (.r 5)), op 15 (.bin .add (.r 14) (.c (.int .i64 1))), op 6 (.mov (.r 15))]) <|
  .block 0 (
    .loop (
      sq (sq (.ops [op 16 (.mov (.r 6)), op 17 (.mov (.r 0)), op 18 (.len .sl (.r 17)), op 19 (.bin .lss (.r 16) (.r 18))]) <|
      .cond (.r 19)
        (.skip)
        (.exit 0)) <|
      sq (.block 1 (
        sq (.ops [op 22 (.mov (.r 0)), op 23 (.mov (.r 6)), op 24 (.iad 1 (.r 22) (.r 23)), op 25 (.ld 1 false (.r 24)), op 7 (.mov (.r 25))]) <|
        sq (.ops [op 26 (.mov (.r 1)), op 27 (.mov (.r 7)), ⟨(some 28), .callv (.r 26) [(.r 27)], none, []⟩, op 29 (.un .not (.r 28))]) <|
        .cond (.r 29)
          (sq (.ops [op 30 (.mov (.r 0)), op 31 (.mov (.r 5)), op 32 (.mov (.r 7)), op 33 (.iad 1 (.r 30) (.r 31)), ef (.st 1 (.r 33) (.r 32))]) <|
          .ops [op 34 (.mov (.r 5)), op 35 (.bin .add (.r 34) (.c (.int .i64 1))), op 5 (.mov (.r 35))])
          (.skip))) <|
      .ops [op 20 (.mov (.r 6)), op 21 (.bin .add (.r 20) (.c (.int .i64 1))), op 6 (.mov (.r 21))]))) <|
  sq (.ops [op 36 (.mov (.r 0)), op 37 (.mov (.r 5)), op 38 (.sll 1 (.r 36) (some (.r 37)) none none), ef (.clr 1 [.str ⟨#[]⟩] (.r 38))]) <|
  sq (.ops [op 39 (.mov (.r 0)), op 40 (.mov (.r 5)), op 41 (.sll 1 (.r 39) none (some (.r 40)) none), op 4 (.mov (.r 41))]) <|
  .ret⟩
def an47 : An := ⟨[], []⟩
def ir47 : Go.Rmp.Fn := ⟨7, 2, [.t 3],
  sq (.ops [op 3 (.mov (.c (.bool false)))]) <|
  sq (.ops [op 4 (.mov (.r 0)), op 5 (.ld 1 false (.r 1)), op 6 (.bin .eql (.r 4) (.r 5)), op 3 (.mov (.r 6))]) <|
  .ret⟩
def an48 : An := ⟨[], []⟩
def ir48 : Go.Rmp.Fn := ⟨5, 1, [.t 2],
  sq (.ops [op 2 (.mov (.c (.sl .nil [])))]) <|
  sq (.ops [op 3 (.mov (.r 0)), cl 4 63 [(.c (.sl .nil [])), (.r 3)], op 2 (.mov (.r 4))]) <|
  .ret⟩
def an49 : An := ⟨[], []⟩
def ir49 : Go.Rmp.Fn := ⟨14, 2, [],
  sq (.ops [op 5 (.mov (.r 0)), op 6 (.len .sl (.r 5)), op 4 (.mov (.r 6))]) <|
  .ops [op 7 (.mov (.r 0)), op 8 (.mov (.r 4)), op 9 (.mov (.r 4)), op 10 (.cvi .u64 (.r 9)), cl 11 65 [(.r 10)], op 12 (.mov (.r 1)), cl 13 64 [(.r 7), (.c (.int .i64 0)), (.r 8), (.r 11), (.r 12)]]⟩
def an50 : An := ⟨[], []⟩
def ir50 : Go.Rmp.Fn := ⟨14, 2, [],
  sq (.ops [op 4 (.ld 1 false (.r 1)), op 5 (.rng (.r 4))]) <|
  .block 0 (
    .loop (
      sq (.ops [op 6 (.nxt (.r 5)), op 7 (.ext 0 (.r 6))]) <|
      sq (.cond (.r 7)
        (.skip)
        (.exit 0)) <|
      .block 1 (
        sq (.ops [op 8 (.ent (.r 5)), op 9 (.ext 0 (.r 8)), op 3 (.alloc [.str ⟨#[]⟩, .int .u64 0]), ef (.st 2 (.r 3) (.r 9))]) <|
        sq (.ops [op 10 (.mov (.r 0)), op 11 (.ld 2 true (.r 3)), ⟨(some 12), .callv (.r 10) [(.r 11)], none, []⟩, op 13 (.un .not (.r 12))]) <|
        .cond (.r 13)
          (.ret)
          (.skip))))⟩
def an51 : An := ⟨[], []⟩
def ir51 : Go.Rmp.Fn := ⟨18, 1, [.t 2],
  sq (.ops [op 2 (.mov (.c (.int .i64 0)))]) <|
  sq (.ops [op 3 (.mov (.c (.int .i64 0)))]) <|
  sq (sq (.ops [op 6 (.mov (.r 0)), op 7 (.len .sl (.r 6)), op 8 (.mov (.c (.int .i64 0)))]) <|
  .block 0 (
    .loop (
      sq (.ops [op 9 (.bin .lss (.r 8) (.r 7))]) <|
      sq (.cond (.r 9)
        (.skip)
        (.exit 0)) <|
      sq (.block 1 (
        sq (.ops [op 10 (.iad 1 (.r 6) (.r 8)), op 11 (.ld 1 false (.r 10)), op 5 (.mov (.r 11))]) <|
        sq (.ops [op 12 (.mov (.r 5)), op 13 (.mov (.r 3)), op 14 (.bin .neq (.r 12) (.r 13))]) <|
        .cond (.r 14)
          (sq (.ops [op 15 (.mov (.r 5)), op 2 (.mov (.r 15))]) <|
          .ret)
          (.skip))) <|
      .ops [op 16 (.bin .add (.r 8) (.c (.int .i64 1))), op 8 (.mov (.r 16))]))) <|
  sq (.ops [op 17 (.mov (.r 3)), op 2 (.mov (.r 17))]) <|
  .ret⟩
def an52 : An := ⟨[], []⟩
def ir52 : Go.Rmp.Fn := ⟨20, 2, [.t 4],
  sq (.ops [op 4 (.mov (.c (.int .i64 0)))]) <|
  sq (.ops [op 7 (.mov (.r 0)), cl 8 66 [(.r 7)], op 5 (.mov (.r 8))]) <|
  sq (.ops [op 9 (.mov (.r 1)), cl 10 66 [(.r 9)], op 6 (.mov (.r 10))]) <|
  sq (sq (.ops [op 11 (.mov (.r 5))]) <|
  .cond (.r 11)
    (sq (sq (.ops [op 12 (.mov (.r 6))]) <|
    .cond (.r 12)
      (sq (.ops [op 4 (.mov (.c (.int .i64 0)))]) <|
      .ret)
      (.skip)) <|
    sq (.ops [op 4 (.mov (.c (.int .i64 (-1))))]) <|
    .ret)
    (.skip)) <|
  sq (sq (.ops [op 13 (.mov (.r 6))]) <|
  .cond (.r 13)
    (sq (.ops [op 4 (.mov (.c (.int .i64 1)))]) <|
    .ret)
    (.skip)) <|
  sq (sq (.ops [op 14 (.mov (.r 0)), op 15 (.mov (.r 1)), op 16 (.bin .lss (.r 14) (.r 15))]) <|
  .cond (.r 16)
    (sq (.ops [op 4 (.mov (.c (.int .i64 (-1))))]) <|
    .ret)
    (.skip)) <|
  sq (sq (.ops [op 17 (.mov (.r 0)), op 18 (.mov (.r 1)), op 19 (.bin .gtr (.r 17) (.r 18))]) <|
  .cond (.r 19)
    (sq (.ops [op 4 (.mov (.c (.int .i64 1)))]) <|
    .ret)
    (.skip)) <|
  sq (.ops [op 4 (.mov (.c (.int .i64 0)))]) <|
  .ret⟩
def an53 : An := ⟨[], []⟩
def ir53 : Go.Rmp.Fn := ⟨20, 2, [.t 4],
  sq (.ops [op 4 (.mov (.c (.int .i64 0)))]) <|
  sq (.ops [op 7 (.mov (.r 0)), cl 8 67 [(.r 7)], op 5 (.mov (.r 8))]) <|
  sq (.ops [op 9 (.mov (.r 1)), cl 10 67 [(.r 9)], op 6 (.mov (.r 10))]) <|
  sq (sq (.ops [op 11 (.mov (.r 5))]) <|
  .cond (.r 11)
    (sq (sq (.ops [op 12 (.mov (.r 6))]) <|
    .cond (.r 12)
      (sq (.ops [op 4 (.mov (.c (.int .i64 0)))]) <|
      .ret)
      (.skip)) <|
    sq (.ops [op 4 (.mov (.c (.int .i64 (-1))))]) <|
    .ret)
    (.skip)) <|
  sq (sq (.ops [op 13 (.mov (.r 6))]) <|
  .cond (.r 13)
    (sq (.ops [op 4 (.mov (.c (.int .i64 1)))]) <|
    .ret)
    (.skip)) <|
  sq (sq (.ops [op 14 (.mov (.r 0)), op 15 (.mov (.r 1)), op 16 (.bin .lss (.r 14) (.r 15))]) <|
  .cond (.r 16)
    (sq (.ops [op 4 (.mov (.c (.int .i64 (-1))))]) <|
    .ret)
    (.skip)) <|
  sq (sq (.ops [op 17 (.mov (.r 0)), op 18 (.mov (.r 1)), op 19 (.bin .gtr (.r 17) (.r 18))]) <|
  .cond (.r 19)
    (sq (.ops [op 4 (.mov (.c (.int .i64 1)))]) <|
    .ret)
    (.skip)) <|
  sq (.ops [op 4 (.mov (.c (.int .i64 0)))]) <|
  .ret⟩
def an54 : An := ⟨[], []⟩
def ir54 : Go.Rmp.Fn := ⟨5, 1, [.t 2],
  sq (.ops [op 2 (.mov (.c (.sl .nil [])))]) <|
  sq (.ops [op 3 (.mov (.r 0)), cl 4 68 [(.c (.sl .nil [])), (.r 3)], op 2 (.mov (.r 4))]) <|
  .ret⟩
def an55 : An := ⟨[], []⟩
def ir55 : Go.Rmp.Fn := ⟨11, 1, [],
  sq (.ops [op 3 (.mov (.r 0)), op 4 (.len .sl (.r 3)), op 2 (.mov (.r 4))]) <|
  .ops [op 5 (.mov (.r 0)), op 6 (.mov (.r 2)), op 7 (.mov (.r 2)), op 8 (.cvi .u64 (.r 7)), cl 9 65 [(.r 8)], cl 10 69 [(.r 5), (.c (.int .i64 0)), (.r 6), (.r 9)]]⟩
def an56 : An := ⟨[], []⟩
def ir56 : Go.Rmp.Fn := ⟨14, 2, [],
  sq (.ops [op 4 (.ld 1 false (.r 1)), op 5 (.rng (.r 4))]) <|
  .block 0 (
    .loop (
      sq (.ops [op 6 (.nxt (.r 5)), op 7 (.ext 0 (.r 6))]) <|
      sq (.cond (.r 7)
        (.skip)
        (.exit 0)) <|
      .block 1 (
        sq (.ops [op 8 (.ent (.r 5)), op 9 (.ext 0 (.r 8)), op 3 (.mov (.r 9))]) <|
        sq (.ops [op 10 (.mov (.r 0)), op 11 (.mov (.r 3)), ⟨(some 12), .callv (.r 10) [(.r 11)], none, []⟩, op 13 (.un .not (.r 12))]) <|
        .cond (.r 13)
          (.ret)
          (.skip))))⟩
def an57 : An := ⟨[], []⟩
def ir57 : Go.Rmp.Fn := ⟨37, 1, [.t 2],
  sq (.ops [op 2 (.mov (.c (.bool false)))]) <|
  sq (sq (.ops [op 5 (.mov (.r 0)), op 6 (.len .sl (.r 5)), op 7 (.mov (.c (.int .i64 0)))]) <|
  .block 0 (
    .loop (
      sq (.ops [op 8 (.bin .lss (.r 7) (.r 6))]) <|
      sq (.cond (.r 8)
        (.skip)
        (.exit 0)) <|
      sq (.block 1 (
        sq (.ops [op 9 (.mov (.r 7)), op 10 (.iad 1 (.r 5) (.r 7)), op 11 (.ld 1 false (.r 10)), op 3 (.mov (.r 9)), op 4 (.mov (.r 11))]) <|
        sq (.ops [op 12 (.mov (.r 4)), op 13 (.len .str (.r 12)), op 14 (.bin .gtr (.r 13) (.c (.int .i64 65535))), op 15 (.mov (.r 14)), ⟨(some 16), .b (.mov (.r 3)), (some (15, false)), []⟩, ⟨(some 17), .b (.bin .gtr (.r 16) (.c (.int .i64 0))), (some (15, false)), []⟩, ⟨(some 18), .b (.mov (.r 17)), (some (15, false)), []⟩, ⟨(some 19), .b (.mov (.r 4)), (some (18, true)), []⟩, ⟨(some 20), .b (.mov (.r 0)), (some (18, true)), []⟩, ⟨(some 21), .b (.mov (.r 3)), (some (18, true)), []⟩, ⟨(some 22), .b (.bin .sub (.r 21) (.c (.int .i64 1))), (some (18, true)), []⟩, ⟨(some 23), .b (.iad 1 (.r 20) (.r 22)), (some (18, true)), []⟩, ⟨(some 24), .b (.ld 1 false (.r 23)), (some (18, true)), []⟩, ⟨(some 25), .b (.bin .leq (.r 19) (.r 24)), (some (18, true)), []⟩, ⟨(some 26), .b (.pick (.r 18) (.r 25) (.c (.bool false))), (some (15, false)), []⟩, op 27 (.pick (.r 15) (.c (.bool true)) (.r 26))]) <|
        .cond (.r 27)
          (sq (.ops [op 2 (.mov (.c (.bool false)))]) <|
          .ret)
          (.skip))) <|
      .ops [op 28 (.bin .add (.r 7) (.c (.int .i64 1))), op 7 (.mov (.r 28))]))) <|
  sq (.ops [op 29 (.mov (.r 0)), op 30 (.len .sl (.r 29)), op 31 (.bin .geq (.r 30) (.c (.int .i64 1))), op 32 (.mov (.r 31)), ⟨(some 33), .b (.mov (.r 0)), (some (32, true)), []⟩, ⟨(some 34), .b (.len .sl (.r 33)), (some (32, true)), []⟩, ⟨(some 35), .b (.bin .leq (.r 34) (.c (.int .i64 1024))), (some (32, true)), []⟩, op 36 (.pick (.r 32) (.r 35) (.c (.bool false))), op 2 (.mov (.r 36))]) <|
  .ret⟩
def an58 : An := ⟨[], []⟩
def ir58 : Go.Rmp.Fn := ⟨14, 2, [.t 4],
  sq (.ops [op 4 (.mov (.c (.bool false)))]) <|
  sq (.ops [op 8 (.mov (.r 0)), op 9 (.mov (.r 1)), cl 10 70 [(.r 8), (.r 9)], op 7 (.mov (.r 10)), op 11 (.ext 0 (.r 7)), op 12 (.ext 1 (.r 7)), op 5 (.mov (.r 11)), op 6 (.mov (.r 12))]) <|
  sq (.ops [op 13 (.mov (.r 6)), op 4 (.mov (.r 13))]) <|
  .ret⟩
def an59 : An := ⟨[], []⟩
def ir59 : Go.Rmp.Fn := ⟨54, 2, [.t 4, .t 5],
  sq (.ops [op 4 (.mov (.c (.int .i64 0))), op 5 (.mov (.c (.bool false)))]) <|
  sq (.ops [op 10 (.mov (.r 0)), op 11 (.len .sl (.r 10)), op 6 (.mov (.r 11))]) <|
  sq (.ops [op 12 (.mov (.r 6)), op 7 (.mov (.c (.int .i64 0))), op 8 (.mov (.r 12))]) <|
  sq (.block 0 (
    .loop (
      sq (sq (.ops [op 13 (.mov (.r 7)), op 14 (.mov (.r 8)), op 15 (.bin .lss (.r 13) (.r 14))]) <|
      .cond (.r 15)
        (.skip)
        (.exit 0)) <|
      .block 1 (
        sq (.ops [op 16 (.mov (.r 7)), op 17 (.mov (.r 8)), op 18 (.bin .add (.r 16) (.r 17)), op 19 (.cvi .u64 (.r 18)), op 20 (.bin .shr (.r 19) (.c (.int .u64 1))), op 21 (.cvi .i64 (.r 20)), op 9 (.mov (.r 21))]) <|
        sq (.ops [op 22 (.mov (.r 0)), op 23 (.mov (.r 9)), op 24 (.iad 1 (.r 22) (.r 23)), op 25 (.ld 1 false (.r 24)), op 26 (.mov (.r 1)), cl 27 71 [(.r 25), (.r 26)]]) <|
        .cond (.r 27)
          (.ops [op 28 (.mov (.r 9)), op 29 (.bin .add (.r 28) (.c (.int .i64 1))), op 7 (.mov (.r 29))])
          (.ops [op 30 (.mov (.r 9)), op 8 (.mov (.r 30))]))))) <|
  sq (.ops [op 31 (.mov (.r 7)), op 32 (.mov (.r 7)), op 33 (.mov (.r 6)), op 34 (.bin .lss (.r 32) (.r 33)), op 35 (.mov (.r 34)), ⟨(some 36), .b (.mov (.r 0)), (some (35, true)), []⟩, ⟨(some 37), .b (.mov (.r 7)), (some (35, true)), []⟩, ⟨(some 38), .b (.iad 1 (.r 36) (.r 37)), (some (35, true)), []⟩, ⟨(some 39), .b (.ld 1 false (.r 38)), (some (35, true)), []⟩, ⟨(some 40), .b (.mov (.r 1)), (some (35, true)), []⟩, ⟨(some 41), .b (.bin .eql (.r 39) (.r 40)), (some (35, true)), []⟩, ⟨(some 42), .b (.mov (.r 41)), (some (35, true)), []⟩, ⟨(some 43), .b (.mov (.r 0)), (some (42, false)), []⟩, ⟨(some 44), .b (.mov (.r 7)), (some (42, false)), []⟩, ⟨(some 45), .b (.iad 1 (.r 43) (.r 44)), (some (42, false)), []⟩, ⟨(some 46), .b (.ld 1 false (.r 45)), (some (42, false)), []⟩, ⟨(some 47), .call 72 [(.r 46)], (some (42, false)), []⟩, ⟨(some 48), .b (.mov (.r 47)), (some (42, false)), []⟩, ⟨(some 49), .b (.mov (.r 1)), (some (48, true)), []⟩, ⟨(some 50), .call 72 [(.r 49)], (some (48, true)), []⟩, ⟨(some 51), .b (.pick (.r 48) (.r 50) (.c (.bool false))), (some (42, false)), []⟩, ⟨(some 52), .b (.pick (.r 42) (.c (.bool true)) (.r 51)), (some (35, true)), []⟩, op 53 (.pick (.r 35) (.r 52) (.c (.bool false))), op 4 (.mov (.r 31)), op 5 (.mov (.r 53))]) <|
  .ret⟩
def an60 : An := ⟨[(7, 2)], [(11, [(0, true), (1, true), (2, true), (3, true), (4, true), (5, true), (6, true), (7, true), (8, false)]), (15, [(0, true), (1, true), (2, true), (3, true), (4, true), (5, true), (6, true), (7, true), (8, false)])]⟩
def ir60 : Go.Rmp.Fn := ⟨95, 3, [.t 6],
  sq (.ops [op 6 (.mov (.c (.sl .nil [])))]) <|
  sq (.ops [op 10 (.mov (.r 0)), op 11 (.mov (.r 1)), op 12 (.sll 1 (.r 10) (some (.r 11)) none none)]) <|
  sq (.ops [op 13 (.mov (.r 2)), op 14 (.len .sl (.r 13)), op 7 (.mov (.r 14))]) <|
  sq (sq (.ops [op 15 (.mov (.r 7)), op 16 (.bin .eql (.r 15) (.c (.int .i64 0)))]) <|
  .cond (.r 16)
    (sq (.ops [op 17 (.mov (.r 0)), op 6 (.mov (.r 17))]) <|
    .ret)
    (.skip)) <|
  sq (.ops [op 18 (.mov (.r 0)), op 19 (.len .sl (.r 18)), op 8 (.mov (.r 19))]) <|
  sq (sq (.ops [op 20 (.mov (.r 1)), op 21 (.mov (.r 8)), op 22 (.bin .eql (.r 20) (.r 21))]) <|
  .cond (.r 22)
    (sq (.ops [op 23 (.mov (.r 0)), op 24 (.mov (.r 2)), op 25 (.app 1 8 true (.r 23) (.r 24)), op 6 (.mov (.r 25))]) <|
    .ret)
    (.skip)) <|
  sq (sq (.ops [op 26 (.mov (.r 8)), op 27 (.mov (.r 7)), op 28 (.bin .add (.r 26) (.r 27)), op 29 (.mov (.r 0)), op 30 (.cap (.r 29)), op 31 (.bin .gtr (.r 28) (.r 30))]) <|
  .cond (.r 31)
    (sq (.ops [op 32 (.mov (.r 0)), op 33 (.mov (.r 1)), op 34 (.sll 1 (.r 32) none (some (.r 33)) none), op 35 (.mov (.r 8)), op 36 (.mov (.r 7)), op 37 (.bin .add (.r 35) (.r 36)), op 38 (.mov (.r 1)), op 39 (.bin .sub (.r 37) (.r 38)), op 40 (.apz 1 8 [.int .u64 0] (.r 34) (.r 39)), op 9 (.mov (.r 40))]) <|
    sq (.ops [op 41 (.mov (.r 9)), op 42 (.mov (.r 1)), op 43 (.sll 1 (.r 41) (some (.r 42)) none none), op 44 (.mov (.r 2)), op 45 (.cpy 1 (.r 43) (.r 44))]) <|
    sq (.ops [op 46 (.mov (.r 9)), op 47 (.mov (.r 1)), op 48 (.mov (.r 7)), op 49 (.bin .add (.r 47) (.r 48)), op 50 (.sll 1 (.r 46) (some (.r 49)) none none), op 51 (.mov (.r 0)), op 52 (.mov (.r 1)), op 53 (.sll 1 (.r 51) (some (.r 52)) none none), op 54 (.cpy 1 (.r 50) (.r 53))]) <|
    sq (.ops [op 55 (.mov (.r 9)), op 6 (.mov (.r 55))]) <|
    .ret)
    (.skip)) <|
  sq (.ops [op 56 (.mov (.r 0)), op 57 (.mov (.r 8)), op 58 (.mov (.r 7)), op 59 (.bin .add (.r 57) (.r 58)), op 60 (.sll 1 (.r 56) none (some (.r 59)) none), op 0 (.mov (.r 60))]) <|
  sq (sq (.ops [op 61 (.mov (.r 2)), op 62 (.mov (.r 0)), op 63 (.mov (.r 1)), op 64 (.mov (.r 7)), op 65 (.bin .add (.r 63) (.r 64)), op 66 (.sll 1 (.r 62) (some (.r 65)) none none), op 67 (.ovl 1 (.r 61) (.r 66)), op 68 (.un .not (.r 67))]) <|
  .cond (.r 68)
    (sq (.ops [op 69 (.mov (.r 0)), op 70 (.mov (.r 1)), op 71 (.mov (.r 7)), op 72 (.bin .add (.r 70) (.r 71)), op 73 (.sll 1 (.r 69) (some (.r 72)) none none), op 74 (.mov (.r 0)), op 75 (.mov (.r 1)), op 76 (.sll 1 (.r 74) (some (.r 75)) none none), op 77 (.cpy 1 (.r 73) (.r 76))]) <|
    sq (.ops [op 78 (.mov (.r 0)), op 79 (.mov (.r 1)), op 80 (.sll 1 (.r 78) (some (.r 79)) none none), op 81 (.mov (.r 2)), op 82 (.cpy 1 (.r 80) (.r 81))]) <|
    sq (.ops [op 83 (.mov (.r 0)), op 6 (.mov (.r 83))]) <|
    .ret)
    (.skip)) <|
  sq (.ops [op 84 (.mov (.r 0)), op 85 (.mov (.r 8)), op 86 (.sll 1 (.r 84) (some (.r 85)) none none), op 87 (.mov (.r 2)), op 88 (.cpy 1 (.r 86) (.r 87))]) <|
  sq (.ops [op 89 (.mov (.r 0)), op 90 (.mov (.r 1)), op 91 (.sll 1 (.r 89) (some (.r 90)) none none), op 92 (.mov (.r 7)), cl 93 74 [(.r 91), (.r 92)]]) <|
  sq (.ops [op 94 (.mov (.r 0)), op 6 (.mov (.r 94))]) <|
  .ret⟩
def an61 : An := ⟨[], []⟩
def ir61 : Go.Rmp.Fn := ⟨19, 2, [.t 4],
  sq (.ops [op 4 (.mov (.c (.int .i64 0)))]) <|
  sq (sq (.ops [op 6 (.mov (.r 0)), op 7 (.len .sl (.r 6)), op 8 (.mov (.c (.int .i64 0)))]) <|
  .block 0 (
    .loop (
      sq (.ops [op 9 (.bin .lss (.r 8) (.r 7))]) <|
      sq (.cond (.r 9)
        (.skip)
        (.exit 0)) <|
      sq (.block 1 (
        sq (.ops [op 10 (.mov (.r 8)), op 5 (.mov (.r 10))]) <|
        sq (.ops [op 11 (.mov (.r 1)), op 12 (.mov (.r 0)), op 13 (.mov (.r 5)), op 14 (.iad 1 (.r 12) (.r 13)), op 15 (.ld 1 false (.r 14)), ⟨(some 16), .callv (.r 11) [(.r 15)], none, []⟩]) <|
        .cond (.r 16)
          (sq (.ops [op 17 (.mov (.r 5)), op 4 (.mov (.r 17))]) <|
          .ret)
          (.skip))) <|
      .ops [op 18 (.bin .add (.r 8) (.c (.int .i64 1))), op 8 (.mov (.r 18))]))) <|
  sq (.ops [op 4 (.mov (.c (.int .i64 (-1))))]) <|
  .ret⟩
def an62 : An := ⟨[], []⟩
def ir62 : Go.Rmp.Fn := ⟨19, 2, [.t 4],
  sq (.ops [op 4 (.mov (.c (.int .i64 0)))]) <|
  sq (sq (.ops [op 6 (.mov (.r 0)), op 7 (.len .sl (.r 6)), op 8 (.mov (.c (.int .i64 0)))]) <|
  .block 0 (
    .loop (
      sq (.ops [op 9 (.bin .lss (.r 8) (.r 7))]) <|
      sq (.cond (.r 9)
        (.skip)
        (.exit 0)) <|
      sq (.block 1 (
        sq (.ops [op 10 (.mov (.r 8)), op 5 (.mov (.r 10))]) <|
        sq (.ops [op 11 (.mov (.r 1)), op 12 (.mov (.r 0)), op 13 (.mov (.r 5)), op 14 (.iad 1 (.r 12) (.r 13)), op 15 (.ld 1 false (.r 14)), ⟨(some 16), .callv (.r 11) [(.r 15)], none, []⟩]) <|
        .cond (.r 16)
          (sq (.ops [op 17 (.mov (.r 5)), op 4 (.mov (.r 17))]) <|
          .ret)
          (.skip))) <|
      .ops [op 18 (.bin .add (.r 8) (.c (.int .i64 1))), op 8 (.mov (.r 18))]))) <|
  sq (.ops [op 4 (.mov (.c (.int .i64 (-1))))]) <|
  .ret⟩
def an63 : An := ⟨[(3, 3)], []⟩
def ir63 : Go.Rmp.Fn := ⟨13, 2, [.t 4],
  sq (.ops [op 2 (.box (.r 0)), op 4 (.mov (.c (.sl .nil [])))]) <|
  sq (sq (.ops [op 6 (.mov (.r 1))]) <|
  .block 0 (
    .rangeF 13 (.r 6) [7]
      (.ops [op 5 (.alloc [.str ⟨#[]⟩, .int .u64 0]), ef (.st 2 (.r 5) (.r 7))])
      (.block 1 (
        .ops [op 8 (.ld 1 false (.r 2)), op 9 (.ld 2 true (.r 5)), op 10 (.bsl 1 [.str ⟨#[]⟩, .int .u64 0] [(0, (.r 9))]), op 11 (.app 2 24 true (.r 8) (.r 10)), ef (.st 1 (.r 2) (.r 11))])))) <|
  sq (.ops [op 12 (.ld 1 false (.r 2)), op 4 (.mov (.r 12))]) <|
  .ret⟩
def an64 : An := ⟨[], [(17, [(0, true), (1, true), (2, true), (3, true), (4, true), (5, true), (6, true), (7, true), (8, true), (9, true), (10, true), (11, true), (12, true), (13, false), (14, true), (15, true), (16, true)])]⟩
def ir64 : Go.Rmp.Fn := ⟨148, 5, [],
  sq (.ops [op 10 (.mov (.c (.bool true)))]) <|
  sq (.ops [op 11 (.mov (.c (.bool true)))]) <|
  .block 0 (
    .loop (
      .block 1 (
        sq (.ops [op 21 (.mov (.r 2)), op 22 (.mov (.r 1)), op 23 (.bin .sub (.r 21) (.r 22)), op 12 (.mov (.r 23))]) <|
        sq (sq (.ops [op 24 (.mov (.r 12)), op 25 (.bin .leq (.r 24) (.c (.int .i64 12)))]) <|
        .cond (.r 25)
          (sq (.ops [op 26 (.mov (.r 0)), op 27 (.mov (.r 1)), op 28 (.mov (.r 2)), op 29 (.mov (.r 4)), cl 30 75 [(.r 26), (.r 27), (.r 28), (.r 29)]]) <|
          .ret)
          (.skip)) <|
        sq (sq (.ops [op 31 (.mov (.r 3)), op 32 (.bin .eql (.r 31) (.c (.int .i64 0)))]) <|
        .cond (.r 32)
          (sq (.ops [op 33 (.mov (.r 0)), op 34 (.mov (.r 1)), op 35 (.mov (.r 2)), op 36 (.mov (.r 4)), cl 37 76 [(.r 33), (.r 34), (.r 35), (.r 36)]]) <|
          .ret)
          (.skip)) <|
        sq (sq (.ops [op 38 (.mov (.r 10)), op 39 (.un .not (.r 38))]) <|
        .cond (.r 39)
          (sq (.ops [op 40 (.mov (.r 0)), op 41 (.mov (.r 1)), op 42 (.mov (.r 2)), op 43 (.mov (.r 4)), cl 44 77 [(.r 40), (.r 41), (.r 42), (.r 43)]]) <|
          .ops [op 45 (.mov (.r 3)), op 46 (.bin .sub (.r 45) (.c (.int .i64 1))), op 3 (.mov (.r 46))])
          (.skip)) <|
        sq (.ops [op 48 (.mov (.r 0)), op 49 (.mov (.r 1)), op 50 (.mov (.r 2)), op 51 (.mov (.r 4)), cl 52 78 [(.r 48), (.r 49), (.r 50), (.r 51)], op 47 (.mov (.r 52)), op 53 (.ext 0 (.r 47)), op 54 (.ext 1 (.r 47)), op 13 (.mov (.r 53)), op 14 (.mov (.r 54))]) <|
        sq (sq (.ops [op 55 (.mov (.r 14)), op 56 (.bin .eql (.r 55) (.c (.int .i64 2)))]) <|
        .cond (.r 56)
          (sq (.ops [op 57 (.mov (.r 0)), op 58 (.mov (.r 1)), op 59 (.mov (.r 2)), op 60 (.mov (.r 4)), cl 61 79 [(.r 57), (.r 58), (.r 59), (.r 60)]]) <|
          sq (.ops [op 62 (.mov (.r 2)), op 63 (.bin .sub (.r 62) (.c (.int .i64 1))), op 64 (.mov (.r 13)), op 65 (.mov (.r 1)), op 66 (.bin .sub (.r 64) (.r 65)), op 67 (.bin .sub (.r 63) (.r 66)), op 13 (.mov (.r 67))]) <|
          .ops [op 14 (.mov (.c (.int .i64 1)))])
          (.skip)) <|
        sq (sq (.ops [op 68 (.mov (.r 10)), op 69 (.mov (.r 68)), ⟨(some 70), .b (.mov (.r 11)), (some (69, true)), []⟩, op 71 (.pick (.r 69) (.r 70) (.c (.bool false))), op 72 (.mov (.r 71)), ⟨(some 73), .b (.mov (.r 14)), (some (72, true)), []⟩, ⟨(some 74), .b (.bin .eql (.r 73) (.c (.int .i64 1))), (some (72, true)), []⟩, op 75 (.pick (.r 72) (.r 74) (.c (.bool false)))]) <|
        .cond (.r 75)
          (sq (.ops [op 76 (.mov (.r 0)), op 77 (.mov (.r 1)), op 78 (.mov (.r 2)), op 79 (.mov (.r 4)), cl 80 80 [(.r 76), (.r 77), (.r 78), (.r 79)]]) <|
          .cond (.r 80)
            (.ret)
            (.skip))
          (.skip)) <|
        sq (sq (.ops [op 81 (.mov (.r 1)), op 82 (.bin .gtr (.r 81) (.c (.int .i64 0))), op 83 (.mov (.r 82)), ⟨(some 84), .b (.mov (.r 4)), (some (83, true)), []⟩, ⟨(some 85), .b (.mov (.r 0)), (some (83, true)), []⟩, ⟨(some 86), .b (.mov (.r 1)), (some (83, true)), []⟩, ⟨(some 87), .b (.bin .sub (.r 86) (.c (.int .i64 1))), (some (83, true)), []⟩, ⟨(some 88), .b (.iad 2 (.r 85) (.r 87)), (some (83, true)), []⟩, ⟨(some 89), .b (.ld 2 true (.r 88)), (some (83, true)), []⟩, ⟨(some 90), .b (.mov (.r 0)), (some (83, true)), []⟩, ⟨(some 91), .b (.mov (.r 13)), (some (83, true)), []⟩, ⟨(some 92), .b (.iad 2 (.r 90) (.r 91)), (some (83, true)), []⟩, ⟨(some 93), .b (.ld 2 true (.r 92)), (some (83, true)), []⟩, ⟨(some 94), .callv (.r 84) [(.r 89), (.r 93)], (some (83, true)), []⟩, ⟨(some 95), .b (.bin .lss (.r 94) (.c (.int .i64 0))), (some (83, true)), []⟩, ⟨(some 96), .b (.un .not (.r 95)), (some (83, true)), []⟩, op 97 (.pick (.r 83) (.r 96) (.c (.bool false)))]) <|
        .cond (.r 97)
          (sq (.ops [op 98 (.mov (.r 0)), op 99 (.mov (.r 1)), op 100 (.mov (.r 2)), op 101 (.mov (.r 13)), op 102 (.mov (.r 4)), cl 103 81 [(.r 98), (.r 99), (.r 100), (.r 101), (.r 102)], op 15 (.mov (.r 103))]) <|
          sq (.ops [op 104 (.mov (.r 15)), op 1 (.mov (.r 104))]) <|
          .exit 1)
          (.skip)) <|
        sq (.ops [op 106 (.mov (.r 0)), op 107 (.mov (.r 1)), op 108 (.mov (.r 2)), op 109 (.mov (.r 13)), op 110 (.mov (.r 4)), cl 111 82 [(.r 106), (.r 107), (.r 108), (.r 109), (.r 110)], op 105 (.mov (.r 111)), op 112 (.ext 0 (.r 105)), op 113 (.ext 1 (.r 105)), op 16 (.mov (.r 112)), op 17 (.mov (.r 113))]) <|
        sq (.ops [op 114 (.mov (.r 17)), op 11 (.mov (.r 114))]) <|
        sq (.ops [op 115 (.mov (.r 16)), op 116 (.mov (.r 1)), op 117 (.bin .sub (.r 115) (.r 116)), op 118 (.mov (.r 2)), op 119 (.mov (.r 16)), op 120 (.bin .sub (.r 118) (.r 119)), op 18 (.mov (.r 117)), op 19 (.mov (.r 120))]) <|
        sq (.ops [op 121 (.mov (.r 12)), op 122 (.bin .quo (.r 121) (.c (.int .i64 8))), op 20 (.mov (.r 122))]) <|
        sq (.ops [op 123 (.mov (.r 18)), op 124 (.mov (.r 19)), op 125 (.bin .lss (.r 123) (.r 124))]) <|
        .cond (.r 125)
          (sq (.ops [op 126 (.mov (.r 18)), op 127 (.mov (.r 20)), op 128 (.bin .geq (.r 126) (.r 127)), op 10 (.mov (.r 128))]) <|
          sq (.ops [op 129 (.mov (.r 0)), op 130 (.mov (.r 1)), op 131 (.mov (.r 16)), op 132 (.mov (.r 3)), op 133 (.mov (.r 4)), cl 134 64 [(.r 129), (.r 130), (.r 131), (.r 132), (.r 133)]]) <|
          .ops [op 135 (.mov (.r 16)), op 136 (.bin .add (.r 135) (.c (.int .i64 1))), op 1 (.mov (.r 136))])
          (sq (.ops [op 137 (.mov (.r 19)), op 138 (.mov (.r 20)), op 139 (.bin .geq (.r 137) (.r 138)), op 10 (.mov (.r 139))]) <|
          sq (.ops [op 140 (.mov (.r 0)), op 141 (.mov (.r 16)), op 142 (.bin .add (.r 141) (.c (.int .i64 1))), op 143 (.mov (.r 2)), op 144 (.mov (.r 3)), op 145 (.mov (.r 4)), cl 146 64 [(.r 140), (.r 142), (.r 143), (.r 144), (.r 145)]]) <|
          .ops [op 147 (.mov (.r 16)), op 2 (.mov (.r 147))]))))⟩
def an65 : An := ⟨[], []⟩
def ir65 : Go.Rmp.Fn := ⟨8, 1, [.t 2],
  sq (.ops [op 2 (.mov (.c (.int .i64 0)))]) <|
  sq (.cond (.c (.bool false))
    (sq (.ops [op 3 (.mov (.r 0)), op 4 (.cvi .u32 (.r 3)), cl 5 83 [(.r 4)], op 2 (.mov (.r 5))]) <|
    .ret)
    (.skip)) <|
  sq (.ops [op 6 (.mov (.r 0)), cl 7 84 [(.r 6)], op 2 (.mov (.r 7))]) <|
  .ret⟩
def an66 : An := ⟨[], []⟩
def ir66 : Go.Rmp.Fn := ⟨6, 1, [.t 2],
  sq (.ops [op 2 (.mov (.c (.bool false)))]) <|
  sq (.ops [op 3 (.mov (.r 0)), op 4 (.mov (.r 0)), op 5 (.bin .neq (.r 3) (.r 4)), op 2 (.mov (.r 5))]) <|
  .ret⟩
def an67 : An := ⟨[], []⟩
def ir67 : Go.Rmp.Fn := ⟨6, 1, [.t 2],
  sq (.ops [op 2 (.mov (.c (.bool false)))]) <|
  sq (.ops [op 3 (.mov (.r 0)), op 4 (.mov (.r 0)), op 5 (.bin .neq (.r 3) (.r 4)), op 2 (.mov (.r 5))]) <|
  .ret⟩
def an68 : An := ⟨[(3, 3)], []⟩
def ir68 : Go.Rmp.Fn := ⟨13, 2, [.t 4],
  sq (.ops [op 2 (.box (.r 0)), op 4 (.mov (.c (.sl .nil [])))]) <|
  sq (sq (.ops [op 6 (.mov (.r 1))]) <|
  .block 0 (
    .rangeF 13 (.r 6) [7]
      (.ops [op 5 (.mov (.r 7))])
      (.block 1 (
        .ops [op 8 (.ld 1 false (.r 2)), op 9 (.mov (.r 5)), op 10 (.bsl 1 [.str ⟨#[]⟩] [(0, (.r 9))]), op 11 (.app 1 16 true (.r 8) (.r 10)), ef (.st 1 (.r 2) (.r 11))])))) <|
  sq (.ops [op 12 (.ld 1 false (.r 2)), op 4 (.mov (.r 12))]) <|
  .ret⟩
def an69 : An := ⟨[], [(17, [(0, true), (1, true), (2, true), (3, true), (4, true), (5, true), (6, true), (7, true), (8, true), (9, true), (10, true), (11, true), (12, false), (13, true), (14, true)])]⟩
def ir69 : Go.Rmp.Fn := ⟨134, 4, [],
  sq (.ops [op 8 (.mov (.c (.bool true)))]) <|
  sq (.ops [op 9 (.mov (.c (.bool true)))]) <|
  .block 0 (
    .loop (
      .block 1 (
        sq (.ops [op 19 (.mov (.r 2)), op 20 (.mov (.r 1)), op 21 (.bin .sub (.r 19) (.r 20)), op 10 (.mov (.r 21))]) <|
        sq (sq (.ops [op 22 (.mov (.r 10)), op 23 (.bin .leq (.r 22) (.c (.int .i64 12)))]) <|
        .cond (.r 23)
          (sq (.ops [op 24 (.mov (.r 0)), op 25 (.mov (.r 1)), op 26 (.mov (.r 2)), cl 27 85 [(.r 24), (.r 25), (.r 26)]]) <|
          .ret)
          (.skip)) <|
        sq (sq (.ops [op 28 (.mov (.r 3)), op 29 (.bin .eql (.r 28) (.c (.int .i64 0)))]) <|
        .cond (.r 29)
          (sq (.ops [op 30 (.mov (.r 0)), op 31 (.mov (.r 1)), op 32 (.mov (.r 2)), cl 33 86 [(.r 30), (.r 31), (.r 32)]]) <|
          .ret)
          (.skip)) <|
        sq (sq (.ops [op 34 (.mov (.r 8)), op 35 (.un .not (.r 34))]) <|
        .cond (.r 35)
          (sq (.ops [op 36 (.mov (.r 0)), op 37 (.mov (.r 1)), op 38 (.mov (.r 2)), cl 39 87 [(.r 36), (.r 37), (.r 38)]]) <|
          .ops [op 40 (.mov (.r 3)), op 41 (.bin .sub (.r 40) (.c (.int .i64 1))), op 3 (.mov (.r 41))])
          (.skip)) <|
        sq (.ops [op 43 (.mov (.r 0)), op 44 (.mov (.r 1)), op 45 (.mov (.r 2)), cl 46 88 [(.r 43), (.r 44), (.r 45)], op 42 (.mov (.r 46)), op 47 (.ext 0 (.r 42)), op 48 (.ext 1 (.r 42)), op 11 (.mov (.r 47)), op 12 (.mov (.r 48))]) <|
        sq (sq (.ops [op 49 (.mov (.r 12)), op 50 (.bin .eql (.r 49) (.c (.int .i64 2)))]) <|
        .cond (.r 50)
          (sq (.ops [op 51 (.mov (.r 0)), op 52 (.mov (.r 1)), op 53 (.mov (.r 2)), cl 54 89 [(.r 51), (.r 52), (.r 53)]]) <|
          sq (.ops [op 55 (.mov (.r 2)), op 56 (.bin .sub (.r 55) (.c (.int .i64 1))), op 57 (.mov (.r 11)), op 58 (.mov (.r 1)), op 59 (.bin .sub (.r 57) (.r 58)), op 60 (.bin .sub (.r 56) (.r 59)), op 11 (.mov (.r 60))]) <|
          .ops [op 12 (.mov (.c (.int .i64 1)))])
          (.skip)) <|
        sq (sq (.ops [op 61 (.mov (.r 8)), op 62 (.mov (.r 61)), ⟨(some 63), .b (.mov (.r 9)), (some (62, true)), []⟩, op 64 (.pick (.r 62) (.r 63) (.c (.bool false))), op 65 (.mov (.r 64)), ⟨(some 66), .b (.mov (.r 12)), (some (65, true)), []⟩, ⟨(some 67), .b (.bin .eql (.r 66) (.c (.int .i64 1))), (some (65, true)), []⟩, op 68 (.pick (.r 65) (.r 67) (.c (.bool false)))]) <|
        .cond (.r 68)
          (sq (.ops [op 69 (.mov (.r 0)), op 70 (.mov (.r 1)), op 71 (.mov (.r 2)), cl 72 90 [(.r 69), (.r 70), (.r 71)]]) <|
          .cond (.r 72)
            (.ret)
            (.skip))
          (.skip)) <|
        sq (sq (.ops [op 73 (.mov (.r 1)), op 74 (.bin .gtr (.r 73) (.c (.int .i64 0))), op 75 (.mov (.r 74)), ⟨(some 76), .b (.mov (.r 0)), (some (75, true)), []⟩, ⟨(some 77), .b (.mov (.r 1)), (some (75, true)), []⟩, ⟨(some 78), .b (.bin .sub (.r 77) (.c (.int .i64 1))), (some (75, true)), []⟩, ⟨(some 79), .b (.iad 1 (.r 76) (.r 78)), (some (75, true)), []⟩, ⟨(some 80), .b (.ld 1 false (.r 79)), (some (75, true)), []⟩, ⟨(some 81), .b (.mov (.r 0)), (some (75, true)), []⟩, ⟨(some 82), .b (.mov (.r 11)), (some (75, true)), []⟩, ⟨(some 83), .b (.iad 1 (.r 81) (.r 82)), (some (75, true)), []⟩, ⟨(some 84), .b (.ld 1 false (.r 83)), (some (75, true)), []⟩, ⟨(some 85), .call 91 [(.r 80), (.r 84)], (some (75, true)), []⟩, ⟨(some 86), .b (.un .not (.r 85)), (some (75, true)), []⟩, op 87 (.pick (.r 75) (.r 86) (.c (.bool false)))]) <|
        .cond (.r 87)
          (sq (.ops [op 88 (.mov (.r 0)), op 89 (.mov (.r 1)), op 90 (.mov (.r 2)), op 91 (.mov (.r 11)), cl 92 92 [(.r 88), (.r 89), (.r 90), (.r 91)], op 13 (.mov (.r 92))]) <|
          sq (.ops [op 93 (.mov (.r 13)), op 1 (.mov (.r 93))]) <|
          .exit 1)
          (.skip)) <|
        sq (.ops [op 95 (.mov (.r 0)), op 96 (.mov (.r 1)), op 97 (.mov (.r 2)), op 98 (.mov (.r 11)), cl 99 93 [(.r 95), (.r 96), (.r 97), (.r 98)], op 94 (.mov (.r 99)), op 100 (.ext 0 (.r 94)), op 101 (.ext 1 (.r 94)), op 14 (.mov (.r 100)), op 15 (.mov (.r 101))]) <|
        sq (.ops [op 102 (.mov (.r 15)), op 9 (.mov (.r 102))]) <|
        sq (.ops [op 103 (.mov (.r 14)), op 104 (.mov (.r 1)), op 105 (.bin .sub (.r 103) (.r 104)), op 106 (.mov (.r 2)), op 107 (.mov (.r 14)), op 108 (.bin .sub (.r 106) (.r 107)), op 16 (.mov (.r 105)), op 17 (.mov (.r 108))]) <|
        sq (.ops [op 109 (.mov (.r 10)), op 110 (.bin .quo (.r 109) (.c (.int .i64 8))), op 18 (.mov (.r 110))]) <|
        sq (.ops [op 111 (.mov (.r 16)), op 112 (.mov (.r 17)), op 113 (.bin .lss (.r 111) (.r 112))]) <|
        .cond (.r 113)
          (sq (.ops [op 114 (.mov (.r 16)), op 115 (.mov (.r 18)), op 116 (.bin .geq (.r 114) (.r 115)), op 8 (.mov (.r 116))]) <|
          sq (.ops [op 117 (.mov (.r 0)), op 118 (.mov (.r 1)), op 119 (.mov (.r 14)), op 120 (.mov (.r 3)), cl 121 69 [(.r 117), (.r 118), (.r 119), (.r 120)]]) <|
          .ops [op 122 (.mov (.r 14)), op 123 (.bin .add (.r 122) (.c (.int .i64 1))), op 1 (.mov (.r 123))])
          (sq (.ops [op 124 (.mov (.r 17)), op 125 (.mov (.r 18)), op 126 (.bin .geq (.r 124) (.r 125)), op 8 (.mov (.r 126))]) <|
          sq (.ops [op 127 (.mov (.r 0)), op 128 (.mov (.r 14)), op 129 (.bin .add (.r 128) (.c (.int .i64 1))), op 130 (.mov (.r 2)), op 131 (.mov (.r 3)), cl 132 69 [(.r 127), (.r 129), (.r 130), (.r 131)]]) <|
          .ops [op 133 (.mov (.r 14)), op 2 (.mov (.r 133))]))))⟩
def an70 : An := ⟨[], []⟩
def ir70 : Go.Rmp.Fn := ⟨54, 2, [.t 4, .t 5],
  sq (.ops [op 4 (.mov (.c (.int .i64 0))), op 5 (.mov (.c (.bool false)))]) <|
  sq (.ops [op 10 (.mov (.r 0)), op 11 (.len .sl (.r 10)), op 6 (.mov (.r 11))]) <|
  sq (.ops [op 12 (.mov (.r 6)), op 7 (.mov (.c (.int .i64 0))), op 8 (.mov (.r 12))]) <|
  sq (.block 0 (
    .loop (
      sq (sq (.ops [op 13 (.mov (.r 7)), op 14 (.mov (.r 8)), op 15 (.bin .lss (.r 13) (.r 14))]) <|
      .cond (.r 15)
        (.skip)
        (.exit 0)) <|
      .block 1 (
        sq (.ops [op 16 (.mov (.r 7)), op 17 (.mov (.r 8)), op 18 (.bin .add (.r 16) (.r 17)), op 19 (.cvi .u64 (.r 18)), op 20 (.bin .shr (.r 19) (.c (.int .u64 1))), op 21 (.cvi .i64 (.r 20)), op 9 (.mov (.r 21))]) <|
        sq (.ops [op 22 (.mov (.r 0)), op 23 (.mov (.r 9)), op 24 (.iad 1 (.r 22) (.r 23)), op 25 (.ld 1 false (.r 24)), op 26 (.mov (.r 1)), cl 27 91 [(.r 25), (.r 26)]]) <|
        .cond (.r 27)
          (.ops [op 28 (.mov (.r 9)), op 29 (.bin .add (.r 28) (.c (.int .i64 1))), op 7 (.mov (.r 29))])
          (.ops [op 30 (.mov (.r 9)), op 8 (.mov (.r 30))]))))) <|
  sq (.ops [op 31 (.mov (.r 7)), op 32 (.mov (.r 7)), op 33 (.mov (.r 6)), op 34 (.bin .lss (.r 32) (.r 33)), op 35 (.mov (.r 34)), ⟨(some 36), .b (.mov (.r 0)), (some (35, true)), []⟩, ⟨(some 37), .b (.mov (.r 7)), (some (35, true)), []⟩, ⟨(some 38), .b (.iad 1 (.r 36) (.r 37)), (some (35, true)), []⟩, ⟨(some 39), .b (.ld 1 false (.r 38)), (some (35, true)), []⟩, ⟨(some 40), .b (.mov (.r 1)), (some (35, true)), []⟩, ⟨(some 41), .b (.bin .eql (.r 39) (.r 40)), (some (35, true)), []⟩, ⟨(some 42), .b (.mov (.r 41)), (some (35, true)), []⟩, ⟨(some 43), .b (.mov (.r 0)), (some (42, false)), []⟩, ⟨(some 44), .b (.mov (.r 7)), (some (42, false)), []⟩, ⟨(some 45), .b (.iad 1 (.r 43) (.r 44)), (some (42, false)), []⟩, ⟨(some 46), .b (.ld 1 false (.r 45)), (some (42, false)), []⟩, ⟨(some 47), .call 94 [(.r 46)], (some (42, false)), []⟩, ⟨(some 48), .b (.mov (.r 47)), (some (42, false)), []⟩, ⟨(some 49), .b (.mov (.r 1)), (some (48, true)), []⟩, ⟨(some 50), .call 94 [(.r 49)], (some (48, true)), []⟩, ⟨(some 51), .b (.pick (.r 48) (.r 50) (.c (.bool false))), (some (42, false)), []⟩, ⟨(some 52), .b (.pick (.r 42) (.c (.bool true)) (.r 51)), (some (35, true)), []⟩, op 53 (.pick (.r 35) (.r 52) (.c (.bool false))), op 4 (.mov (.r 31)), op 5 (.mov (.r 53))]) <|
  .ret⟩
def an71 : An := ⟨[], []⟩
def ir71 : Go.Rmp.Fn := ⟨17, 2, [.t 4],
  sq (.ops [op 4 (.mov (.c (.bool false)))]) <|
  sq (.ops [op 5 (.mov (.r 0)), cl 6 67 [(.r 5)], op 7 (.mov (.r 6)), ⟨(some 8), .b (.mov (.r 1)), (some (7, true)), []⟩, ⟨(some 9), .call 67 [(.r 8)], (some (7, true)), []⟩, ⟨(some 10), .b (.un .not (.r 9)), (some (7, true)), []⟩, op 11 (.pick (.r 7) (.r 10) (.c (.bool false))), op 12 (.mov (.r 11)), ⟨(some 13), .b (.mov (.r 0)), (some (12, false)), []⟩, ⟨(some 14), .b (.mov (.r 1)), (some (12, false)), []⟩, ⟨(some 15), .b (.bin .lss (.r 13) (.r 14)), (some (12, false)), []⟩, op 16 (.pick (.r 12) (.c (.bool true)) (.r 15)), op 4 (.mov (.r 16))]) <|
  .ret⟩
def an72 : An := ⟨[], []⟩
def ir72 : Go.Rmp.Fn := ⟨6, 1, [.t 2],
  sq (.ops [op 2 (.mov (.c (.bool false)))]) <|
  sq (.ops [op 3 (.mov (.r 0)), op 4 (.mov (.r 0)), op 5 (.bin .neq (.r 3) (.r 4)), op 2 (.mov (.r 5))]) <|
  .ret⟩
def an75 : An := ⟨[], [(4, [(0, true), (1, true), (2, true), (3, true), (4, true), (5, true), (6, true), (7, true), (8, true), (9, true), (10, true), (11, true), (12, true), (13, true), (14, false), (15, true), (16, true)]), (6, [(0, true), (1, true), (2, true), (3, true), (4, true), (5, true), (6, true), (7, true), (8, true), (9, true), (10, true), (11, true), (12, true), (13, true), (14, true), (15, false), (16, true), (17, false)])]⟩
def ir75 : Go.Rmp.Fn := ⟨53, 4, [],
  sq (.ops [op 10 (.mov (.r 1)), op 11 (.bin .add (.r 10) (.c (.int .i64 1))), op 8 (.mov (.r 11))]) <|
  .block 0 (
    .loop (
      sq (sq (.ops [op 12 (.mov (.r 8)), op 13 (.mov (.r 2)), op 14 (.bin .lss (.r 12) (.r 13))]) <|
      .cond (.r 14)
        (.skip)
        (.exit 0)) <|
      sq (.block 1 (
        sq (.ops [op 17 (.mov (.r 8)), op 9 (.mov (.r 17))]) <|
        .block 2 (
          .loop (
            sq (sq (.ops [op 18 (.mov (.r 9)), op 19 (.mov (.r 1)), op 20 (.bin .gtr (.r 18) (.r 19)), op 21 (.mov (.r 20)), ⟨(some 22), .b (.mov (.r 3)), (some (21, true)), []⟩, ⟨(some 23), .b (.mov (.r 0)), (some (21, true)), []⟩, ⟨(some 24), .b (.mov (.r 9)), (some (21, true)), []⟩, ⟨(some 25), .b (.iad 2 (.r 23) (.r 24)), (some (21, true)), []⟩, ⟨(some 26), .b (.ld 2 true (.r 25)), (some (21, true)), []⟩, ⟨(some 27), .b (.mov (.r 0)), (some (21, true)), []⟩, ⟨(some 28), .b (.mov (.r 9)), (some (21, true)), []⟩, ⟨(some 29), .b (.bin .sub (.r 28) (.c (.int .i64 1))), (some (21, true)), []⟩, ⟨(some 30), .b (.iad 2 (.r 27) (.r 29)), (some (21, true)), []⟩, ⟨(some 31), .b (.ld 2 true (.r 30)), (some (21, true)), []⟩, ⟨(some 32), .callv (.r 22) [(.r 26), (.r 31)], (some (21, true)), []⟩, ⟨(some 33), .b (.bin .lss (.r 32) (.c (.int .i64 0))), (some (21, true)), []⟩, op 34 (.pick (.r 21) (.r 33) (.c (.bool false)))]) <|
            .cond (.r 34)
              (.skip)
              (.exit 2)) <|
            sq (.block 3 (
              .ops [op 37 (.mov (.r 0)), op 38 (.mov (.r 9)), op 39 (.mov (.r 0)), op 40 (.mov (.r 9)), op 41 (.bin .sub (.r 40) (.c (.int .i64 1))), op 42 (.mov (.r 0)), op 43 (.mov (.r 9)), op 44 (.bin .sub (.r 43) (.c (.int .i64 1))), op 45 (.iad 2 (.r 42) (.r 44)), op 46 (.ld 2 true (.r 45)), op 47 (.mov (.r 0)), op 48 (.mov (.r 9)), op 49 (.iad 2 (.r 47) (.r 48)), op 50 (.ld 2 true (.r 49)), op 51 (.iad 2 (.r 37) (.r 38)), ef (.st 2 (.r 51) (.r 46)), op 52 (.iad 2 (.r 39) (.r 41)), ef (.st 2 (.r 52) (.r 50))])) <|
            .ops [op 35 (.mov (.r 9)), op 36 (.bin .sub (.r 35) (.c (.int .i64 1))), op 9 (.mov (.r 36))])))) <|
      .ops [op 15 (.mov (.r 8)), op 16 (.bin .add (.r 15) (.c (.int .i64 1))), op 8 (.mov (.r 16))]))⟩
def an76 : An := ⟨[], [(10, [(0, true), (1, true), (2, true), (3, true), (4, true), (5, true), (6, true), (7, true), (8, true), (9, true), (10, true), (11, true), (12, true), (13, true), (14, true), (15, true), (16, true), (17, false), (18, true), (19, false)])]⟩
def ir76 : Go.Rmp.Fn := ⟨60, 4, [],
  sq (.ops [op 13 (.mov (.r 1)), op 8 (.mov (.r 13))]) <|
  sq (.ops [op 9 (.mov (.c (.int .i64 0)))]) <|
  sq (.ops [op 14 (.mov (.r 2)), op 15 (.mov (.r 1)), op 16 (.bin .sub (.r 14) (.r 15)), op 10 (.mov (.r 16))]) <|
  sq (sq (.ops [op 17 (.mov (.r 10)), op 18 (.bin .sub (.r 17) (.c (.int .i64 1))), op 19 (.bin .quo (.r 18) (.c (.int .i64 2))), op 11 (.mov (.r 19))]) <|
  .block 0 (
    .loop (
      sq (sq (.ops [op 20 (.mov (.r 11)), op 21 (.bin .geq (.r 20) (.c (.int .i64 0)))]) <|
      .cond (.r 21)
        (.skip)
        (.exit 0)) <|
      sq (.block 1 (
        .ops [op 24 (.mov (.r 0)), op 25 (.mov (.r 11)), op 26 (.mov (.r 10)), op 27 (.mov (.r 8)), op 28 (.mov (.r 3)), cl 29 96 [(.r 24), (.r 25), (.r 26), (.r 27), (.r 28)]])) <|
      .ops [op 22 (.mov (.r 11)), op 23 (.bin .sub (.r 22) (.c (.int .i64 1))), op 11 (.mov (.r 23))]))) <|
  sq (.ops [op 30 (.mov (.r 10)), op 31 (.bin .sub (.r 30) (.c (.int .i64 1))), op 12 (.mov (.r 31))]) <|
  .block 2 (
    .loop (
      sq (sq (.ops [op 32 (.mov (.r 12)), op 33 (.bin .geq (.r 32) (.c (.int .i64 0)))]) <|
      .cond (.r 33)
        (.skip)
        (.exit 2)) <|
      sq (.block 3 (
        sq (.ops [op 36 (.mov (.r 0)), op 37 (.mov (.r 8)), op 38 (.mov (.r 0)), op 39 (.mov (.r 8)), op 40 (.mov (.r 12)), op 41 (.bin .add (.r 39) (.r 40)), op 42 (.mov (.r 0)), op 43 (.mov (.r 8)), op 44 (.mov (.r 12)), op 45 (.bin .add (.r 43) (.r 44)), op 46 (.iad 2 (.r 42) (.r 45)), op 47 (.ld 2 true (.r 46)), op 48 (.mov (.r 0)), op 49 (.mov (.r 8)), op 50 (.iad 2 (.r 48) (.r 49)), op 51 (.ld 2 true (.r 50)), op 52 (.iad 2 (.r 36) (.r 37)), ef (.st 2 (.r 52) (.r 47)), op 53 (.iad 2 (.r 38) (.r 41)), ef (.st 2 (.r 53) (.r 51))]) <|
        .ops [op 54 (.mov (.r 0)), op 55 (.mov (.r 9)), op 56 (.mov (.r 12)), op 57 (.mov (.r 8)), op 58 (.mov (.r 3)), cl 59 96 [(.r 54), (.r 55), (.r 56), (.r 57), (.r 58)]])) <|
      .ops [op 34 (.mov (.r 12)), op 35 (.bin .sub (.r 34) (.c (.int .i64 1))), op 12 (.mov (.r 35))]))⟩
def an77 : An := ⟨[], [(10, [(0, true), (1, true), (2, true), (3, true), (4, true), (5, true), (6, true), (7, true), (8, true), (9, true), (10, true), (11, true), (12, true), (13, true), (14, true), (15, true), (16, true), (17, false), (18, true), (19, false)])]⟩
def ir77 : Go.Rmp.Fn := ⟨67, 4, [],
  sq (.ops [op 13 (.mov (.r 2)), op 14 (.mov (.r 1)), op 15 (.bin .sub (.r 13) (.r 14)), op 8 (.mov (.r 15))]) <|
  sq (.ops [op 16 (.mov (.r 8)), op 17 (.bin .geq (.r 16) (.c (.int .i64 8)))]) <|
  .cond (.r 17)
    (sq (.ops [op 18 (.mov (.r 8)), op 19 (.cvi .u64 (.r 18)), op 9 (.alloc [.int .u64 0]), ef (.st 1 (.r 9) (.r 19))]) <|
    sq (.ops [op 20 (.mov (.r 8)), cl 21 97 [(.r 20)], op 10 (.mov (.r 21))]) <|
    sq (.ops [op 22 (.mov (.r 1)), op 23 (.mov (.r 8)), op 24 (.bin .quo (.r 23) (.c (.int .i64 4))), op 25 (.bin .mul (.r 24) (.c (.int .i64 2))), op 26 (.bin .add (.r 22) (.r 25)), op 27 (.bin .sub (.r 26) (.c (.int .i64 1))), op 11 (.mov (.r 27))]) <|
    .block 0 (
      .loop (
        sq (sq (.ops [op 28 (.mov (.r 11)), op 29 (.mov (.r 1)), op 30 (.mov (.r 8)), op 31 (.bin .quo (.r 30) (.c (.int .i64 4))), op 32 (.bin .mul (.r 31) (.c (.int .i64 2))), op 33 (.bin .add (.r 29) (.r 32)), op 34 (.bin .add (.r 33) (.c (.int .i64 1))), op 35 (.bin .leq (.r 28) (.r 34))]) <|
        .cond (.r 35)
          (.skip)
          (.exit 0)) <|
        sq (.block 1 (
          sq (.ops [cl 38 98 [(.r 9)], op 39 (.mov (.r 10)), op 40 (.bin .sub (.r 39) (.c (.int .u64 1))), op 41 (.bin .and (.r 38) (.r 40)), op 42 (.cvi .i64 (.r 41)), op 12 (.mov (.r 42))]) <|
          sq (sq (.ops [op 43 (.mov (.r 12)), op 44 (.mov (.r 8)), op 45 (.bin .geq (.r 43) (.r 44))]) <|
          .cond (.r 45)
            (.ops [op 46 (.mov (.r 12)), op 47 (.mov (.r 8)), op 48 (.bin .sub (.r 46) (.r 47)), op 12 (.mov (.r 48))])
            (.skip)) <|
          .ops [op 49 (.mov (.r 0)), op 50 (.mov (.r 11)), op 51 (.mov (.r 0)), op 52 (.mov (.r 1)), op 53 (.mov (.r 12)), op 54 (.bin .add (.r 52) (.r 53)), op 55 (.mov (.r 0)), op 56 (.mov (.r 1)), op 57 (.mov (.r 12)), op 58 (.bin .add (.r 56) (.r 57)), op 59 (.iad 2 (.r 55) (.r 58)), op 60 (.ld 2 true (.r 59)), op 61 (.mov (.r 0)), op 62 (.mov (.r 11)), op 63 (.iad 2 (.r 61) (.r 62)), op 64 (.ld 2 true (.r 63)), op 65 (.iad 2 (.r 49) (.r 50)), ef (.st 2 (.r 65) (.r 60)), op 66 (.iad 2 (.r 51) (.r 54)), ef (.st 2 (.r 66) (.r 64))])) <|
        .ops [op 36 (.mov (.r 11)), op 37 (.bin .add (.r 36) (.c (.int .i64 1))), op 11 (.mov (.r 37))])))
    (.skip)⟩
def an78 : An := ⟨[], []⟩
def ir78 : Go.Rmp.Fn := ⟨63, 4, [.t 8, .t 9],
  sq (.ops [op 8 (.mov (.c (.int .i64 0))), op 9 (.mov (.c (.int .i64 0)))]) <|
  sq (.ops [op 15 (.mov (.r 2)), op 16 (.mov (.r 1)), op 17 (.bin .sub (.r 15) (.r 16)), op 10 (.mov (.r 17))]) <|
  sq (.ops [op 11 (.alloc [.int .i64 0])]) <|
  sq (.ops [op 18 (.mov (.r 1)), op 19 (.mov (.r 10)), op 20 (.bin .quo (.r 19) (.c (.int .i64 4))), op 21 (.bin .mul (.r 20) (.c (.int .i64 1))), op 22 (.bin .add (.r 18) (.r 21)), op 12 (.mov (.r 22))]) <|
  sq (.ops [op 23 (.mov (.r 1)), op 24 (.mov (.r 10)), op 25 (.bin .quo (.r 24) (.c (.int .i64 4))), op 26 (.bin .mul (.r 25) (.c (.int .i64 2))), op 27 (.bin .add (.r 23) (.r 26)), op 13 (.mov (.r 27))]) <|
  sq (.ops [op 28 (.mov (.r 1)), op 29 (.mov (.r 10)), op 30 (.bin .quo (.r 29) (.c (.int .i64 4))), op 31 (.bin .mul (.r 30) (.c (.int .i64 3))), op 32 (.bin .add (.r 28) (.r 31)), op 14 (.mov (.r 32))]) <|
  sq (sq (.ops [op 33 (.mov (.r 10)), op 34 (.bin .geq (.r 33) (.c (.int .i64 8)))]) <|
  .cond (.r 34)
    (sq (sq (.ops [op 35 (.mov (.r 10)), op 36 (.bin .geq (.r 35) (.c (.int .i64 50)))]) <|
    .cond (.r 36)
      (sq (.ops [op 37 (.mov (.r 0)), op 38 (.mov (.r 12)), op 39 (.mov (.r 3)), cl 40 99 [(.r 37), (.r 38), (.r 11), (.r 39)], op 12 (.mov (.r 40))]) <|
      sq (.ops [op 41 (.mov (.r 0)), op 42 (.mov (.r 13)), op 43 (.mov (.r 3)), cl 44 99 [(.r 41), (.r 42), (.r 11), (.r 43)], op 13 (.mov (.r 44))]) <|
      .ops [op 45 (.mov (.r 0)), op 46 (.mov (.r 14)), op 47 (.mov (.r 3)), cl 48 99 [(.r 45), (.r 46), (.r 11), (.r 47)], op 14 (.mov (.r 48))])
      (.skip)) <|
    .ops [op 49 (.mov (.r 0)), op 50 (.mov (.r 12)), op 51 (.mov (.r 13)), op 52 (.mov (.r 14)), op 53 (.mov (.r 3)), cl 54 100 [(.r 49), (.r 50), (.r 51), (.r 52), (.r 11), (.r 53)], op 13 (.mov (.r 54))])
    (.skip)) <|
  sq (.ops [op 55 (.ld 1 false (.r 11))]) <|
  .block 0 (
    sq (.ops [op 58 (.bin .eql (.r 55) (.c (.int .i64 0))), op 57 (.mov (.r 58))]) <|
    .cond (.r 57)
      (sq (.ops [op 59 (.mov (.r 13)), op 8 (.mov (.r 59)), op 9 (.mov (.c (.int .i64 1)))]) <|
      .ret)
      (sq (.ops [op 61 (.bin .eql (.r 55) (.c (.int .i64 12))), op 60 (.mov (.r 61))]) <|
      .cond (.r 60)
        (sq (.ops [op 62 (.mov (.r 13)), op 8 (.mov (.r 62)), op 9 (.mov (.c (.int .i64 2)))]) <|
        .ret)
        (sq (.ops [op 56 (.mov (.r 13)), op 8 (.mov (.r 56)), op 9 (.mov (.c (.int .i64 0)))]) <|
        .ret)))⟩
def an79 : An := ⟨[], [(3, [(0, true), (1, true), (2, true), (3, true), (4, true), (5, true), (6, true), (7, true), (8, true), (9, true), (10, true), (11, true), (12, true), (13, false), (14, true), (15, false)])]⟩
def ir79 : Go.Rmp.Fn := ⟨34, 4, [],
  sq (.ops [op 10 (.mov (.r 1)), op 8 (.mov (.r 10))]) <|
  sq (.ops [op 11 (.mov (.r 2)), op 12 (.bin .sub (.r 11) (.c (.int .i64 1))), op 9 (.mov (.r 12))]) <|
  .block 0 (
    .loop (
      sq (sq (.ops [op 13 (.mov (.r 8)), op 14 (.mov (.r 9)), op 15 (.bin .lss (.r 13) (.r 14))]) <|
      .cond (.r 15)
        (.skip)
        (.exit 0)) <|
      .block 1 (
        sq (.ops [op 16 (.mov (.r 0)), op 17 (.mov (.r 8)), op 18 (.mov (.r 0)), op 19 (.mov (.r 9)), op 20 (.mov (.r 0)), op 21 (.mov (.r 9)), op 22 (.iad 2 (.r 20) (.r 21)), op 23 (.ld 2 true (.r 22)), op 24 (.mov (.r 0)), op 25 (.mov (.r 8)), op 26 (.iad 2 (.r 24) (.r 25)), op 27 (.ld 2 true (.r 26)), op 28 (.iad 2 (.r 16) (.r 17)), ef (.st 2 (.r 28) (.r 23)), op 29 (.iad 2 (.r 18) (.r 19)), ef (.st 2 (.r 29) (.r 27))]) <|
        sq (.ops [op 30 (.mov (.r 8)), op 31 (.bin .add (.r 30) (.c (.int .i64 1))), op 8 (.mov (.r 31))]) <|
        .ops [op 32 (.mov (.r 9)), op 33 (.bin .sub (.r 32) (.c (.int .i64 1))), op 9 (.mov (.r 33))])))⟩
def an80 : An := ⟨[], [(5, [(0, true), (1, true), (2, true), (3, true), (4, true), (5, true), (6, true), (7, true), (8, true), (9, true), (10, true), (11, true), (12, true), (13, true), (14, false), (15, true), (16, true), (17, true)]), (11, [(0, true), (1, true), (2, true), (3, true), (4, true), (5, true), (6, true), (7, true), (8, true), (9, true), (10, true), (11, true), (12, true), (13, true), (14, true), (15, false), (16, true), (17, false)]), (16, [(0, true), (1, true), (2, true), (3, true), (4, true), (5, true), (6, true), (7, true), (8, true), (9, true), (10, false), (11, true), (12, true)]), (17, [(0, true), (1, true), (2, true), (3, true), (4, true), (5, true), (6, true), (7, true), (8, true), (9, true), (10, true), (11, true), (12, true), (13, true), (14, true), (15, false), (16, true), (17, false)]), (22, [(0, true), (1, true), (2, true), (3, true), (4, true), (5, true), (6, true), (7, true), (8, true), (9, true), (10, false), (11, true), (12, true)]), (23, [(0, true), (1, true), (2, true), (3, true), (4, true), (5, true), (6, true), (7, true), (8, true), (9, true), (10, true), (11, true), (12, true), (13, true), (14, true), (15, false), (16, true), (17, false)])]⟩
def ir80 : Go.Rmp.Fn := ⟨141, 4, [.t 8],
  sq (.ops [op 8 (.mov (.c (.bool false)))]) <|
  sq (.ops [op 13 (.mov (.r 1)), op 14 (.bin .add (.r 13) (.c (.int .i64 1))), op 9 (.mov (.r 14))]) <|
  sq (sq (.ops [op 10 (.mov (.c (.int .i64 0)))]) <|
  .block 0 (
    .loop (
      sq (sq (.ops [op 15 (.mov (.r 10)), op 16 (.bin .lss (.r 15) (.c (.int .i64 5)))]) <|
      .cond (.r 16)
        (.skip)
        (.exit 0)) <|
      sq (.block 1 (
        sq (.block 2 (
          .loop (
            sq (sq (.ops [op 19 (.mov (.r 9)), op 20 (.mov (.r 2)), op 21 (.bin .lss (.r 19) (.r 20)), op 22 (.mov (.r 21)), ⟨(some 23), .b (.mov (.r 3)), (some (22, true)), []⟩, ⟨(some 24), .b (.mov (.r 0)), (some (22, true)), []⟩, ⟨(some 25), .b (.mov (.r 9)), (some (22, true)), []⟩, ⟨(some 26), .b (.iad 2 (.r 24) (.r 25)), (some (22, true)), []⟩, ⟨(some 27), .b (.ld 2 true (.r 26)), (some (22, true)), []⟩, ⟨(some 28), .b (.mov (.r 0)), (some (22, true)), []⟩, ⟨(some 29), .b (.mov (.r 9)), (some (22, true)), []⟩, ⟨(some 30), .b (.bin .sub (.r 29) (.c (.int .i64 1))), (some (22, true)), []⟩, ⟨(some 31), .b (.iad 2 (.r 28) (.r 30)), (some (22, true)), []⟩, ⟨(some 32), .b (.ld 2 true (.r 31)), (some (22, true)), []⟩, ⟨(some 33), .callv (.r 23) [(.r 27), (.r 32)], (some (22, true)), []⟩, ⟨(some 34), .b (.bin .lss (.r 33) (.c (.int .i64 0))), (some (22, true)), []⟩, ⟨(some 35), .b (.un .not (.r 34)), (some (22, true)), []⟩, op 36 (.pick (.r 22) (.r 35) (.c (.bool false)))]) <|
            .cond (.r 36)
              (.skip)
              (.exit 2)) <|
            .block 3 (
              .ops [op 37 (.mov (.r 9)), op 38 (.bin .add (.r 37) (.c (.int .i64 1))), op 9 (.mov (.r 38))])))) <|
        sq (sq (.ops [op 39 (.mov (.r 9)), op 40 (.mov (.r 2)), op 41 (.bin .eql (.r 39) (.r 40))]) <|
        .cond (.r 41)
          (sq (.ops [op 8 (.mov (.c (.bool true)))]) <|
          .ret)
          (.skip)) <|
        sq (sq (.ops [op 42 (.mov (.r 2)), op 43 (.mov (.r 1)), op 44 (.bin .sub (.r 42) (.r 43)), op 45 (.bin .lss (.r 44) (.c (.int .i64 50)))]) <|
        .cond (.r 45)
          (sq (.ops [op 8 (.mov (.c (.bool false)))]) <|
          .ret)
          (.skip)) <|
        sq (.ops [op 46 (.mov (.r 0)), op 47 (.mov (.r 9)), op 48 (.mov (.r 0)), op 49 (.mov (.r 9)), op 50 (.bin .sub (.r 49) (.c (.int .i64 1))), op 51 (.mov (.r 0)), op 52 (.mov (.r 9)), op 53 (.bin .sub (.r 52) (.c (.int .i64 1))), op 54 (.iad 2 (.r 51) (.r 53)), op 55 (.ld 2 true (.r 54)), op 56 (.mov (.r 0)), op 57 (.mov (.r 9)), op 58 (.iad 2 (.r 56) (.r 57)), op 59 (.ld 2 true (.r 58)), op 60 (.iad 2 (.r 46) (.r 47)), ef (.st 2 (.r 60) (.r 55)), op 61 (.iad 2 (.r 48) (.r 50)), ef (.st 2 (.r 61) (.r 59))]) <|
        sq (sq (.ops [op 62 (.mov (.r 9)), op 63 (.mov (.r 1)), op 64 (.bin .sub (.r 62) (.r 63)), op 65 (.bin .geq (.r 64) (.c (.int .i64 2)))]) <|
        .cond (.r 65)
          (sq (.ops [op 66 (.mov (.r 9)), op 67 (.bin .sub (.r 66) (.c (.int .i64 1))), op 11 (.mov (.r 67))]) <|
          .block 4 (
            .loop (
              sq (sq (.ops [op 68 (.mov (.r 11)), op 69 (.bin .geq (.r 68) (.c (.int .i64 1)))]) <|
              .cond (.r 69)
                (.skip)
                (.exit 4)) <|
              sq (.block 5 (
                sq (sq (.ops [op 72 (.mov (.r 3)), op 73 (.mov (.r 0)), op 74 (.mov (.r 11)), op 75 (.iad 2 (.r 73) (.r 74)), op 76 (.ld 2 true (.r 75)), op 77 (.mov (.r 0)), op 78 (.mov (.r 11)), op 79 (.bin .sub (.r 78) (.c (.int .i64 1))), op 80 (.iad 2 (.r 77) (.r 79)), op 81 (.ld 2 true (.r 80)), ⟨(some 82), .callv (.r 72) [(.r 76), (.r 81)], none, []⟩, op 83 (.bin .lss (.r 82) (.c (.int .i64 0))), op 84 (.un .not (.r 83))]) <|
                .cond (.r 84)
                  (.exit 4)
                  (.skip)) <|
                .ops [op 85 (.mov (.r 0)), op 86 (.mov (.r 11)), op 87 (.mov (.r 0)), op 88 (.mov (.r 11)), op 89 (.bin .sub (.r 88) (.c (.int .i64 1))), op 90 (.mov (.r 0)), op 91 (.mov (.r 11)), op 92 (.bin .sub (.r 91) (.c (.int .i64 1))), op 93 (.iad 2 (.r 90) (.r 92)), op 94 (.ld 2 true (.r 93)), op 95 (.mov (.r 0)), op 96 (.mov (.r 11)), op 97 (.iad 2 (.r 95) (.r 96)), op 98 (.ld 2 true (.r 97)), op 99 (.iad 2 (.r 85) (.r 86)), ef (.st 2 (.r 99) (.r 94)), op 100 (.iad 2 (.r 87) (.r 89)), ef (.st 2 (.r 100) (.r 98))])) <|
              .ops [op 70 (.mov (.r 11)), op 71 (.bin .sub (.r 70) (.c (.int .i64 1))), op 11 (.mov (.r 71))])))
          (.skip)) <|
        sq (.ops [op 101 (.mov (.r 2)), op 102 (.mov (.r 9)), op 103 (.bin .sub (.r 101) (.r 102)), op 104 (.bin .geq (.r 103) (.c (.int .i64 2)))]) <|
        .cond (.r 104)
          (sq (.ops [op 105 (.mov (.r 9)), op 106 (.bin .add (.r 105) (.c (.int .i64 1))), op 12 (.mov (.r 106))]) <|
          .block 6 (
            .loop (
              sq (sq (.ops [op 107 (.mov (.r 12)), op 108 (.mov (.r 2)), op 109 (.bin .lss (.r 107) (.r 108))]) <|
              .cond (.r 109)
                (.skip)
                (.exit 6)) <|
              sq (.block 7 (
                sq (sq (.ops [op 112 (.mov (.r 3)), op 113 (.mov (.r 0)), op 114 (.mov (.r 12)), op 115 (.iad 2 (.r 113) (.r 114)), op 116 (.ld 2 true (.r 115)), op 117 (.mov (.r 0)), op 118 (.mov (.r 12)), op 119 (.bin .sub (.r 118) (.c (.int .i64 1))), op 120 (.iad 2 (.r 117) (.r 119)), op 121 (.ld 2 true (.r 120)), ⟨(some 122), .callv (.r 112) [(.r 116), (.r 121)], none, []⟩, op 123 (.bin .lss (.r 122) (.c (.int .i64 0))), op 124 (.un .not (.r 123))]) <|
                .cond (.r 124)
                  (.exit 6)
                  (.skip)) <|
                .ops [op 125 (.mov (.r 0)), op 126 (.mov (.r 12)), op 127 (.mov (.r 0)), op 128 (.mov (.r 12)), op 129 (.bin .sub (.r 128) (.c (.int .i64 1))), op 130 (.mov (.r 0)), op 131 (.mov (.r 12)), op 132 (.bin .sub (.r 131) (.c (.int .i64 1))), op 133 (.iad 2 (.r 130) (.r 132)), op 134 (.ld 2 true (.r 133)), op 135 (.mov (.r 0)), op 136 (.mov (.r 12)), op 137 (.iad 2 (.r 135) (.r 136)), op 138 (.ld 2 true (.r 137)), op 139 (.iad 2 (.r 125) (.r 126)), ef (.st 2 (.r 139) (.r 134)), op 140 (.iad 2 (.r 127) (.r 129)), ef (.st 2 (.r 140) (.r 138))])) <|
              .ops [op 110 (.mov (.r 12)), op 111 (.bin .add (.r 110) (.c (.int .i64 1))), op 12 (.mov (.r 111))])))
          (.skip))) <|
      .ops [op 17 (.mov (.r 10)), op 18 (.bin .add (.r 17) (.c (.int .i64 1))), op 10 (.mov (.r 18))]))) <|
  sq (.ops [op 8 (.mov (.c (.bool false)))]) <|
  .ret⟩
def an81 : An := ⟨[], [(1, [(0, true), (1, true), (2, true), (3, true), (4, true), (5, true), (6, true), (7, true), (8, true), (9, true), (10, true), (11, true), (12, true), (13, false), (14, true), (15, false)]), (3, [(0, true), (1, true), (2, true), (3, true), (4, true), (5, true), (6, true), (7, true), (8, true), (9, true), (10, true), (11, true), (12, true), (13, false), (14, true), (15, true), (16, true)]), (5, [(0, true), (1, true), (2, true), (3, true), (4, true), (5, true), (6, true), (7, true), (8, true), (9, true), (10, true), (11, true), (12, true), (13, false), (14, true), (15, true)]), (8, [(0, true), (1, true), (2, true), (3, true), (4, true), (5, true), (6, true), (7, true), (8, true), (9, true), (10, true), (11, true), (12, true), (13, false), (14, true), (15, false)])]⟩
def ir81 : Go.Rmp.Fn := ⟨90, 5, [.t 10],
  sq (.ops [op 10 (.mov (.c (.int .i64 0)))]) <|
  sq (.ops [op 13 (.mov (.r 0)), op 14 (.mov (.r 1)), op 15 (.mov (.r 0)), op 16 (.mov (.r 3)), op 17 (.mov (.r 0)), op 18 (.mov (.r 3)), op 19 (.iad 2 (.r 17) (.r 18)), op 20 (.ld 2 true (.r 19)), op 21 (.mov (.r 0)), op 22 (.mov (.r 1)), op 23 (.iad 2 (.r 21) (.r 22)), op 24 (.ld 2 true (.r 23)), op 25 (.iad 2 (.r 13) (.r 14)), ef (.st 2 (.r 25) (.r 20)), op 26 (.iad 2 (.r 15) (.r 16)), ef (.st 2 (.r 26) (.r 24))]) <|
  sq (.ops [op 27 (.mov (.r 1)), op 28 (.bin .add (.r 27) (.c (.int .i64 1))), op 29 (.mov (.r 2)), op 30 (.bin .sub (.r 29) (.c (.int .i64 1))), op 11 (.mov (.r 28)), op 12 (.mov (.r 30))]) <|
  sq (.block 0 (
    .loop (
      .block 1 (
        sq (.block 2 (
          .loop (
            sq (sq (.ops [op 31 (.mov (.r 11)), op 32 (.mov (.r 12)), op 33 (.bin .leq (.r 31) (.r 32)), op 34 (.mov (.r 33)), ⟨(some 35), .b (.mov (.r 4)), (some (34, true)), []⟩, ⟨(some 36), .b (.mov (.r 0)), (some (34, true)), []⟩, ⟨(some 37), .b (.mov (.r 1)), (some (34, true)), []⟩, ⟨(some 38), .b (.iad 2 (.r 36) (.r 37)), (some (34, true)), []⟩, ⟨(some 39), .b (.ld 2 true (.r 38)), (some (34, true)), []⟩, ⟨(some 40), .b (.mov (.r 0)), (some (34, true)), []⟩, ⟨(some 41), .b (.mov (.r 11)), (some (34, true)), []⟩, ⟨(some 42), .b (.iad 2 (.r 40) (.r 41)), (some (34, true)), []⟩, ⟨(some 43), .b (.ld 2 true (.r 42)), (some (34, true)), []⟩, ⟨(some 44), .callv (.r 35) [(.r 39), (.r 43)], (some (34, true)), []⟩, ⟨(some 45), .b (.bin .lss (.r 44) (.c (.int .i64 0))), (some (34, true)), []⟩, ⟨(some 46), .b (.un .not (.r 45)), (some (34, true)), []⟩, op 47 (.pick (.r 34) (.r 46) (.c (.bool false)))]) <|
            .cond (.r 47)
              (.skip)
              (.exit 2)) <|
            .block 3 (
              .ops [op 48 (.mov (.r 11)), op 49 (.bin .add (.r 48) (.c (.int .i64 1))), op 11 (.mov (.r 49))])))) <|
        sq (.block 4 (
          .loop (
            sq (sq (.ops [op 50 (.mov (.r 11)), op 51 (.mov (.r 12)), op 52 (.bin .leq (.r 50) (.r 51)), op 53 (.mov (.r 52)), ⟨(some 54), .b (.mov (.r 4)), (some (53, true)), []⟩, ⟨(some 55), .b (.mov (.r 0)), (some (53, true)), []⟩, ⟨(some 56), .b (.mov (.r 1)), (some (53, true)), []⟩, ⟨(some 57), .b (.iad 2 (.r 55) (.r 56)), (some (53, true)), []⟩, ⟨(some 58), .b (.ld 2 true (.r 57)), (some (53, true)), []⟩, ⟨(some 59), .b (.mov (.r 0)), (some (53, true)), []⟩, ⟨(some 60), .b (.mov (.r 12)), (some (53, true)), []⟩, ⟨(some 61), .b (.iad 2 (.r 59) (.r 60)), (some (53, true)), []⟩, ⟨(some 62), .b (.ld 2 true (.r 61)), (some (53, true)), []⟩, ⟨(some 63), .callv (.r 54) [(.r 58), (.r 62)], (some (53, true)), []⟩, ⟨(some 64), .b (.bin .lss (.r 63) (.c (.int .i64 0))), (some (53, true)), []⟩, op 65 (.pick (.r 53) (.r 64) (.c (.bool false)))]) <|
            .cond (.r 65)
              (.skip)
              (.exit 4)) <|
            .block 5 (
              .ops [op 66 (.mov (.r 12)), op 67 (.bin .sub (.r 66) (.c (.int .i64 1))), op 12 (.mov (.r 67))])))) <|
        sq (sq (.ops [op 68 (.mov (.r 11)), op 69 (.mov (.r 12)), op 70 (.bin .gtr (.r 68) (.r 69))]) <|
        .cond (.r 70)
          (.exit 0)
          (.skip)) <|
        sq (.ops [op 71 (.mov (.r 0)), op 72 (.mov (.r 11)), op 73 (.mov (.r 0)), op 74 (.mov (.r 12)), op 75 (.mov (.r 0)), op 76 (.mov (.r 12)), op 77 (.iad 2 (.r 75) (.r 76)), op 78 (.ld 2 true (.r 77)), op 79 (.mov (.r 0)), op 80 (.mov (.r 11)), op 81 (.iad 2 (.r 79) (.r 80)), op 82 (.ld 2 true (.r 81)), op 83 (.iad 2 (.r 71) (.r 72)), ef (.st 2 (.r 83) (.r 78)), op 84 (.iad 2 (.r 73) (.r 74)), ef (.st 2 (.r 84) (.r 82))]) <|
        sq (.ops [op 85 (.mov (.r 11)), op 86 (.bin .add (.r 85) (.c (.int .i64 1))), op 11 (.mov (.r 86))]) <|
        .ops [op 87 (.mov (.r 12)), op 88 (.bin .sub (.r 87) (.c (.int .i64 1))), op 12 (.mov (.r 88))])))) <|
  sq (.ops [op 89 (.mov (.r 11)), op 10 (.mov (.r 89))]) <|
  .ret⟩
def an82 : An := ⟨[], [(1, [(0, true), (1, true), (2, true), (3, true), (4, true), (5, true), (6, true), (7, true), (8, true), (9, true), (10, true), (11, true), (12, true), (13, false), (14, true), (15, false)]), (3, [(0, true), (1, true), (2, true), (3, true), (4, true), (5, true), (6, true), (7, true), (8, true), (9, true), (10, true), (11, true), (12, true), (13, false), (14, true), (15, true)]), (5, [(0, true), (1, true), (2, true), (3, true), (4, true), (5, true), (6, true), (7, true), (8, true), (9, true), (10, true), (11, true), (12, true), (13, false), (14, true), (15, true), (16, true)]), (8, [(0, true), (1, true), (2, true), (3, true), (4, true), (5, true), (6, true), (7, true), (8, true), (9, true), (10, true), (11, true), (12, true), (13, false), (14, true), (15, false)]), (10, [(0, true), (1, true), (2, true), (3, true), (4, true), (5, true), (6, true), (7, true), (8, true), (9, true), (10, true), (11, true), (12, true), (13, false), (14, true), (15, false)]), (13, [(0, true), (1, true), (2, true), (3, true), (4, true), (5, true), (6, true), (7, true), (8, true), (9, true), (10, true), (11, true), (12, true), (13, false), (14, true), (15, true)]), (15, [(0, true), (1, true), (2, true), (3, true), (4, true), (5, true), (6, true), (7, true), (8, true), (9, true), (10, true), (11, true), (12, true), (13, false), (14, true), (15, true), (16, true)]), (18, [(0, true), (1, true), (2, true), (3, true), (4, true), (5, true), (6, true), (7, true), (8, true), (9, true), (10, true), (11, true), (12, true), (13, false), (14, true), (15, false)]), (21, [(0, true), (1, true), (2, true), (3, true), (4, true), (5, true), (6, true), (7, true), (8, true), (9, true), (10, true), (11, true), (12, true), (13, false), (14, true), (15, false)])]⟩
def ir82 : Go.Rmp.Fn := ⟨178, 5, [.t 10, .t 11],
  sq (.ops [op 10 (.mov (.c (.int .i64 0))), op 11 (.mov (.c (.bool false)))]) <|
  sq (.ops [op 14 (.mov (.r 0)), op 15 (.mov (.r 1)), op 16 (.mov (.r 0)), op 17 (.mov (.r 3)), op 18 (.mov (.r 0)), op 19 (.mov (.r 3)), op 20 (.iad 2 (.r 18) (.r 19)), op 21 (.ld 2 true (.r 20)), op 22 (.mov (.r 0)), op 23 (.mov (.r 1)), op 24 (.iad 2 (.r 22) (.r 23)), op 25 (.ld 2 true (.r 24)), op 26 (.iad 2 (.r 14) (.r 15)), ef (.st 2 (.r 26) (.r 21)), op 27 (.iad 2 (.r 16) (.r 17)), ef (.st 2 (.r 27) (.r 25))]) <|
  sq (.ops [op 28 (.mov (.r 1)), op 29 (.bin .add (.r 28) (.c (.int .i64 1))), op 30 (.mov (.r 2)), op 31 (.bin .sub (.r 30) (.c (.int .i64 1))), op 12 (.mov (.r 29)), op 13 (.mov (.r 31))]) <|
  sq (.block 0 (
    .loop (
      sq (sq (.ops [op 32 (.mov (.r 12)), op 33 (.mov (.r 13)), op 34 (.bin .leq (.r 32) (.r 33)), op 35 (.mov (.r 34)), ⟨(some 36), .b (.mov (.r 4)), (some (35, true)), []⟩, ⟨(some 37), .b (.mov (.r 0)), (some (35, true)), []⟩, ⟨(some 38), .b (.mov (.r 12)), (some (35, true)), []⟩, ⟨(some 39), .b (.iad 2 (.r 37) (.r 38)), (some (35, true)), []⟩, ⟨(some 40), .b (.ld 2 true (.r 39)), (some (35, true)), []⟩, ⟨(some 41), .b (.mov (.r 0)), (some (35, true)), []⟩, ⟨(some 42), .b (.mov (.r 1)), (some (35, true)), []⟩, ⟨(some 43), .b (.iad 2 (.r 41) (.r 42)), (some (35, true)), []⟩, ⟨(some 44), .b (.ld 2 true (.r 43)), (some (35, true)), []⟩, ⟨(some 45), .callv (.r 36) [(.r 40), (.r 44)], (some (35, true)), []⟩, ⟨(some 46), .b (.bin .lss (.r 45) (.c (.int .i64 0))), (some (35, true)), []⟩, op 47 (.pick (.r 35) (.r 46) (.c (.bool false)))]) <|
      .cond (.r 47)
        (.skip)
        (.exit 0)) <|
      .block 1 (
        .ops [op 48 (.mov (.r 12)), op 49 (.bin .add (.r 48) (.c (.int .i64 1))), op 12 (.mov (.r 49))])))) <|
  sq (.block 2 (
    .loop (
      sq (sq (.ops [op 50 (.mov (.r 12)), op 51 (.mov (.r 13)), op 52 (.bin .leq (.r 50) (.r 51)), op 53 (.mov (.r 52)), ⟨(some 54), .b (.mov (.r 4)), (some (53, true)), []⟩, ⟨(some 55), .b (.mov (.r 0)), (some (53, true)), []⟩, ⟨(some 56), .b (.mov (.r 13)), (some (53, true)), []⟩, ⟨(some 57), .b (.iad 2 (.r 55) (.r 56)), (some (53, true)), []⟩, ⟨(some 58), .b (.ld 2 true (.r 57)), (some (53, true)), []⟩, ⟨(some 59), .b (.mov (.r 0)), (some (53, true)), []⟩, ⟨(some 60), .b (.mov (.r 1)), (some (53, true)), []⟩, ⟨(some 61), .b (.iad 2 (.r 59) (.r 60)), (some (53, true)), []⟩, ⟨(some 62), .b (.ld 2 true (.r 61)), (some (53, true)), []⟩, ⟨(some 63), .callv (.r 54) [(.r 58), (.r 62)], (some (53, true)), []⟩, ⟨(some 64), .b (.bin .lss (.r 63) (.c (.int .i64 0))), (some (53, true)), []⟩, ⟨(some 65), .b (.un .not (.r 64)), (some (53, true)), []⟩, op 66 (.pick (.r 53) (.r 65) (.c (.bool false)))]) <|
      .cond (.r 66)
        (.skip)
        (.exit 2)) <|
      .block 3 (
        .ops [op 67 (.mov (.r 13)), op 68 (.bin .sub (.r 67) (.c (.int .i64 1))), op 13 (.mov (.r 68))])))) <|
  sq (sq (.ops [op 69 (.mov (.r 12)), op 70 (.mov (.r 13)), op 71 (.bin .gtr (.r 69) (.r 70))]) <|
  .cond (.r 71)
    (sq (.ops [op 72 (.mov (.r 0)), op 73 (.mov (.r 13)), op 74 (.mov (.r 0)), op 75 (.mov (.r 1)), op 76 (.mov (.r 0)), op 77 (.mov (.r 1)), op 78 (.iad 2 (.r 76) (.r 77)), op 79 (.ld 2 true (.r 78)), op 80 (.mov (.r 0)), op 81 (.mov (.r 13)), op 82 (.iad 2 (.r 80) (.r 81)), op 83 (.ld 2 true (.r 82)), op 84 (.iad 2 (.r 72) (.r 73)), ef (.st 2 (.r 84) (.r 79)), op 85 (.iad 2 (.r 74) (.r 75)), ef (.st 2 (.r 85) (.r 83))]) <|
    sq (.ops [op 86 (.mov (.r 13)), op 10 (.mov (.r 86)), op 11 (.mov (.c (.bool true)))]) <|
    .ret)
    (.skip)) <|
  sq (.ops [op 87 (.mov (.r 0)), op 88 (.mov (.r 12)), op 89 (.mov (.r 0)), op 90 (.mov (.r 13)), op 91 (.mov (.r 0)), op 92 (.mov (.r 13)), op 93 (.iad 2 (.r 91) (.r 92)), op 94 (.ld 2 true (.r 93)), op 95 (.mov (.r 0)), op 96 (.mov (.r 12)), op 97 (.iad 2 (.r 95) (.r 96)), op 98 (.ld 2 true (.r 97)), op 99 (.iad 2 (.r 87) (.r 88)), ef (.st 2 (.r 99) (.r 94)), op 100 (.iad 2 (.r 89) (.r 90)), ef (.st 2 (.r 100) (.r 98))]) <|
  sq (.ops [op 101 (.mov (.r 12)), op 102 (.bin .add (.r 101) (.c (.int .i64 1))), op 12 (.mov (.r 102))]) <|
  sq (.ops [op 103 (.mov (.r 13)), op 104 (.bin .sub (.r 103) (.c (.int .i64 1))), op 13 (.mov (.r 104))]) <|
  sq (.block 4 (
    .loop (
      .block 5 (
        sq (.block 6 (
          .loop (
            sq (sq (.ops [op 105 (.mov (.r 12)), op 106 (.mov (.r 13)), op 107 (.bin .leq (.r 105) (.r 106)), op 108 (.mov (.r 107)), ⟨(some 109), .b (.mov (.r 4)), (some (108, true)), []⟩, ⟨(some 110), .b (.mov (.r 0)), (some (108, true)), []⟩, ⟨(some 111), .b (.mov (.r 12)), (some (108, true)), []⟩, ⟨(some 112), .b (.iad 2 (.r 110) (.r 111)), (some (108, true)), []⟩, ⟨(some 113), .b (.ld 2 true (.r 112)), (some (108, true)), []⟩, ⟨(some 114), .b (.mov (.r 0)), (some (108, true)), []⟩, ⟨(some 115), .b (.mov (.r 1)), (some (108, true)), []⟩, ⟨(some 116), .b (.iad 2 (.r 114) (.r 115)), (some (108, true)), []⟩, ⟨(some 117), .b (.ld 2 true (.r 116)), (some (108, true)), []⟩, ⟨(some 118), .callv (.r 109) [(.r 113), (.r 117)], (some (108, true)), []⟩, ⟨(some 119), .b (.bin .lss (.r 118) (.c (.int .i64 0))), (some (108, true)), []⟩, op 120 (.pick (.r 108) (.r 119) (.c (.bool false)))]) <|
            .cond (.r 120)
              (.skip)
              (.exit 6)) <|
            .block 7 (
              .ops [op 121 (.mov (.r 12)), op 122 (.bin .add (.r 121) (.c (.int .i64 1))), op 12 (.mov (.r 122))])))) <|
        sq (.block 8 (
          .loop (
            sq (sq (.ops [op 123 (.mov (.r 12)), op 124 (.mov (.r 13)), op 125 (.bin .leq (.r 123) (.r 124)), op 126 (.mov (.r 125)), ⟨(some 127), .b (.mov (.r 4)), (some (126, true)), []⟩, ⟨(some 128), .b (.mov (.r 0)), (some (126, true)), []⟩, ⟨(some 129), .b (.mov (.r 13)), (some (126, true)), []⟩, ⟨(some 130), .b (.iad 2 (.r 128) (.r 129)), (some (126, true)), []⟩, ⟨(some 131), .b (.ld 2 true (.r 130)), (some (126, true)), []⟩, ⟨(some 132), .b (.mov (.r 0)), (some (126, true)), []⟩, ⟨(some 133), .b (.mov (.r 1)), (some (126, true)), []⟩, ⟨(some 134), .b (.iad 2 (.r 132) (.r 133)), (some (126, true)), []⟩, ⟨(some 135), .b (.ld 2 true (.r 134)), (some (126, true)), []⟩, ⟨(some 136), .callv (.r 127) [(.r 131), (.r 135)], (some (126, true)), []⟩, ⟨(some 137), .b (.bin .lss (.r 136) (.c (.int .i64 0))), (some (126, true)), []⟩, ⟨(some 138), .b (.un .not (.r 137)), (some (126, true)), []⟩, op 139 (.pick (.r 126) (.r 138) (.c (.bool false)))]) <|
            .cond (.r 139)
              (.skip)
              (.exit 8)) <|
            .block 9 (
              .ops [op 140 (.mov (.r 13)), op 141 (.bin .sub (.r 140) (.c (.int .i64 1))), op 13 (.mov (.r 141))])))) <|
        sq (sq (.ops [op 142 (.mov (.r 12)), op 143 (.mov (.r 13)), op 144 (.bin .gtr (.r 142) (.r 143))]) <|
        .cond (.r 144)
          (.exit 4)
          (.skip)) <|
        sq (.ops [op 145 (.mov (.r 0)), op 146 (.mov (.r 12)), op 147 (.mov (.r 0)), op 148 (.mov (.r 13)), op 149 (.mov (.r 0)), op 150 (.mov (.r 13)), op 151 (.iad 2 (.r 149) (.r 150)), op 152 (.ld 2 true (.r 151)), op 153 (.mov (.r 0)), op 154 (.mov (.r 12)), op 155 (.iad 2 (.r 153) (.r 154)), op 156 (.ld 2 true (.r 155)), op 157 (.iad 2 (.r 145) (.r 146)), ef (.st 2 (.r 157) (.r 152)), op 158 (.iad 2 (.r 147) (.r 148)), ef (.st 2 (.r 158) (.r 156))]) <|
        sq (.ops [op 159 (.mov (.r 12)), op 160 (.bin .add (.r 159) (.c (.int .i64 1))), op 12 (.mov (.r 160))]) <|
        .ops [op 161 (.mov (.r 13)), op 162 (.bin .sub (.r 161) (.c (.int .i64 1))), op 13 (.mov (.r 162))])))) <|
  sq (.ops [op 163 (.mov (.r 0)), op 164 (.mov (.r 13)), op 165 (.mov (.r 0)), op 166 (.mov (.r 1)), op 167 (.mov (.r 0)), op 168 (.mov (.r 1)), op 169 (.iad 2 (.r 167) (.r 168)), op 170 (.ld 2 true (.r 169)), op 171 (.mov (.r 0)), op 172 (.mov (.r 13)), op 173 (.iad 2 (.r 171) (.r 172)), op 174 (.ld 2 true (.r 173)), op 175 (.iad 2 (.r 163) (.r 164)), ef (.st 2 (.r 175) (.r 170)), op 176 (.iad 2 (.r 165) (.r 166)), ef (.st 2 (.r 176) (.r 174))]) <|
  sq (.ops [op 177 (.mov (.r 13)), op 10 (.mov (.r 177)), op 11 (.mov (.c (.bool false)))]) <|
  .ret⟩
def an84 : An := ⟨[], []⟩
def ir84 : Go.Rmp.Fn := ⟨25, 1, [.t 2],
  sq (.ops [op 2 (.mov (.c (.int .i64 0)))]) <|
  sq (sq (.ops [op 3 (.mov (.r 0)), op 4 (.bin .geq (.r 3) (.c (.int .u64 4294967296)))]) <|
  .cond (.r 4)
    (sq (.ops [op 5 (.mov (.r 0)), op 6 (.bin .shr (.r 5) (.c (.int .u64 32))), op 0 (.mov (.r 6))]) <|
    .ops [op 2 (.mov (.c (.int .i64 32)))])
    (.skip)) <|
  sq (sq (.ops [op 7 (.mov (.r 0)), op 8 (.bin .geq (.r 7) (.c (.int .u64 65536)))]) <|
  .cond (.r 8)
    (sq (.ops [op 9 (.mov (.r 0)), op 10 (.bin .shr (.r 9) (.c (.int .u64 16))), op 0 (.mov (.r 10))]) <|
    .ops [op 11 (.mov (.r 2)), op 12 (.bin .add (.r 11) (.c (.int .i64 16))), op 2 (.mov (.r 12))])
    (.skip)) <|
  sq (sq (.ops [op 13 (.mov (.r 0)), op 14 (.bin .geq (.r 13) (.c (.int .u64 256)))]) <|
  .cond (.r 14)
    (sq (.ops [op 15 (.mov (.r 0)), op 16 (.bin .shr (.r 15) (.c (.int .u64 8))), op 0 (.mov (.r 16))]) <|
    .ops [op 17 (.mov (.r 2)), op 18 (.bin .add (.r 17) (.c (.int .i64 8))), op 2 (.mov (.r 18))])
    (.skip)) <|
  sq (.ops [op 19 (.mov (.r 2)), op 20 (.mov (.r 0)), op 21 (.cvi .u8 (.r 20)), op 22 (.ixs (.c (.str ⟨#[0, 1, 2, 2, 3, 3, 3, 3, 4, 4, 4, 4, 4, 4, 4, 4, 5, 5, 5, 5, 5, 5, 5, 5, 5, 5, 5, 5, 5, 5, 5, 5, 6, 6, 6, 6, 6, 6, 6, 6, 6, 6, 6, 6, 6, 6, 6, 6, 6, 6, 6, 6, 6, 6, 6, 6, 6, 6, 6, 6, 6, 6, 6, 6, 7, 7, 7, 7, 7, 7, 7, 7, 7, 7, 7, 7, 7, 7, 7, 7, 7, 7, 7, 7, 7, 7, 7, 7, 7, 7, 7, 7, 7, 7, 7, 7, 7, 7, 7, 7, 7, 7, 7, 7, 7, 7, 7, 7, 7, 7, 7, 7, 7, 7, 7, 7, 7, 7, 7, 7, 7, 7, 7, 7, 7, 7, 7, 7, 8, 8, 8, 8, 8, 8, 8, 8, 8, 8, 8, 8, 8, 8, 8, 8, 8, 8, 8, 8, 8, 8, 8, 8, 8, 8, 8, 8, 8, 8, 8, 8, 8, 8, 8, 8, 8, 8, 8, 8, 8, 8, 8, 8, 8, 8, 8, 8, 8, 8, 8, 8, 8, 8, 8, 8, 8, 8, 8, 8, 8, 8, 8, 8, 8, 8, 8, 8, 8, 8, 8, 8, 8, 8, 8, 8, 8, 8, 8, 8, 8, 8, 8, 8, 8, 8, 8, 8, 8, 8, 8, 8, 8, 8, 8, 8, 8, 8, 8, 8, 8, 8, 8, 8, 8, 8, 8, 8, 8, 8, 8, 8, 8, 8, 8, 8, 8, 8, 8, 8, 8, 8, 8, 8, 8, 8, 8, 8]⟩)) (.r 21)), op 23 (.cvi .i64 (.r 22)), op 24 (.bin .add (.r 19) (.r 23)), op 2 (.mov (.r 24))]) <|
  .ret⟩
def an85 : An := ⟨[], [(4, [(0, true), (1, true), (2, true), (3, true), (4, true), (5, true), (6, true), (7, true), (8, true), (9, true), (10, true), (11, true), (12, true), (13, false), (14, true)]), (6, [(0, true), (1, true), (2, true), (3, true), (4, true), (5, true), (6, true), (7, true), (8, true), (9, true), (10, true), (11, true), (12, true), (13, true), (14, true), (15, false), (16, true), (17, false)])]⟩
def ir85 : Go.Rmp.Fn := ⟨49, 3, [],
  sq (.ops [op 8 (.mov (.r 1)), op 9 (.bin .add (.r 8) (.c (.int .i64 1))), op 6 (.mov (.r 9))]) <|
  .block 0 (
    .loop (
      sq (sq (.ops [op 10 (.mov (.r 6)), op 11 (.mov (.r 2)), op 12 (.bin .lss (.r 10) (.r 11))]) <|
      .cond (.r 12)
        (.skip)
        (.exit 0)) <|
      sq (.block 1 (
        sq (.ops [op 15 (.mov (.r 6)), op 7 (.mov (.r 15))]) <|
        .block 2 (
          .loop (
            sq (sq (.ops [op 16 (.mov (.r 7)), op 17 (.mov (.r 1)), op 18 (.bin .gtr (.r 16) (.r 17)), op 19 (.mov (.r 18)), ⟨(some 20), .b (.mov (.r 0)), (some (19, true)), []⟩, ⟨(some 21), .b (.mov (.r 7)), (some (19, true)), []⟩, ⟨(some 22), .b (.iad 1 (.r 20) (.r 21)), (some (19, true)), []⟩, ⟨(some 23), .b (.ld 1 false (.r 22)), (some (19, true)), []⟩, ⟨(some 24), .b (.mov (.r 0)), (some (19, true)), []⟩, ⟨(some 25), .b (.mov (.r 7)), (some (19, true)), []⟩, ⟨(some 26), .b (.bin .sub (.r 25) (.c (.int .i64 1))), (some (19, true)), []⟩, ⟨(some 27), .b (.iad 1 (.r 24) (.r 26)), (some (19, true)), []⟩, ⟨(some 28), .b (.ld 1 false (.r 27)), (some (19, true)), []⟩, ⟨(some 29), .call 91 [(.r 23), (.r 28)], (some (19, true)), []⟩, op 30 (.pick (.r 19) (.r 29) (.c (.bool false)))]) <|
            .cond (.r 30)
              (.skip)
              (.exit 2)) <|
            sq (.block 3 (
              .ops [op 33 (.mov (.r 0)), op 34 (.mov (.r 7)), op 35 (.mov (.r 0)), op 36 (.mov (.r 7)), op 37 (.bin .sub (.r 36) (.c (.int .i64 1))), op 38 (.mov (.r 0)), op 39 (.mov (.r 7)), op 40 (.bin .sub (.r 39) (.c (.int .i64 1))), op 41 (.iad 1 (.r 38) (.r 40)), op 42 (.ld 1 false (.r 41)), op 43 (.mov (.r 0)), op 44 (.mov (.r 7)), op 45 (.iad 1 (.r 43) (.r 44)), op 46 (.ld 1 false (.r 45)), op 47 (.iad 1 (.r 33) (.r 34)), ef (.st 1 (.r 47) (.r 42)), op 48 (.iad 1 (.r 35) (.r 37)), ef (.st 1 (.r 48) (.r 46))])) <|
            .ops [op 31 (.mov (.r 7)), op 32 (.bin .sub (.r 31) (.c (.int .i64 1))), op 7 (.mov (.r 32))])))) <|
      .ops [op 13 (.mov (.r 6)), op 14 (.bin .add (.r 13) (.c (.int .i64 1))), op 6 (.mov (.r 14))]))⟩
def an91 : An := ⟨[], []⟩
def ir91 : Go.Rmp.Fn := ⟨17, 2, [.t 4],
  sq (.ops [op 4 (.mov (.c (.bool false)))]) <|
  sq (.ops [op 5 (.mov (.r 0)), cl 6 66 [(.r 5)], op 7 (.mov (.r 6)), ⟨(some 8), .b (.mov (.r 1)), (some (7, true)), []⟩, ⟨(some 9), .call 66 [(.r 8)], (some (7, true)), []⟩, ⟨(some 10), .b (.un .not (.r 9)), (some (7, true)), []⟩, op 11 (.pick (.r 7) (.r 10) (.c (.bool false))), op 12 (.mov (.r 11)), ⟨(some 13), .b (.mov (.r 0)), (some (12, false)), []⟩, ⟨(some 14), .b (.mov (.r 1)), (some (12, false)), []⟩, ⟨(some 15), .b (.bin .lss (.r 13) (.r 14)), (some (12, false)), []⟩, op 16 (.pick (.r 12) (.c (.bool true)) (.r 15)), op 4 (.mov (.r 16))]) <|
  .ret⟩
def an94 : An := ⟨[], []⟩
def ir94 : Go.Rmp.Fn := ⟨6, 1, [.t 2],
  sq (.ops [op 2 (.mov (.c (.bool false)))]) <|
  sq (.ops [op 3 (.mov (.r 0)), op 4 (.mov (.r 0)), op 5 (.bin .neq (.r 3) (.r 4)), op 2 (.mov (.r 5))]) <|
  .ret⟩
def an96 : An := ⟨[], [(3, [(0, true), (1, true), (2, true), (3, true), (4, true), (5, true), (6, true), (7, true), (8, true), (9, true), (10, true), (11, true), (12, true), (13, true), (14, true), (15, true), (16, true), (17, true), (18, true), (19, false), (20, true), (21, true)]), (5, [(0, true), (1, true), (2, true), (3, true), (4, true), (5, true), (6, true), (7, true), (8, true), (9, true), (10, true), (11, true), (12, true), (13, false), (14, true), (15, true)]), (6, [(0, true), (1, true), (2, true), (3, true), (4, true), (5, true), (6, true), (7, true), (8, true), (9, true), (10, true), (11, true), (12, true), (13, true), (14, true), (15, true), (16, true), (17, true), (18, true), (19, true), (20, true), (21, false), (22, true), (23, false)])]⟩
def ir96 : Go.Rmp.Fn := ⟨82, 5, [],
  sq (.ops [op 12 (.mov (.r 1)), op 10 (.mov (.r 12))]) <|
  .block 0 (
    .loop (
      .block 1 (
        sq (.ops [op 13 (.mov (.r 10)), op 14 (.bin .mul (.c (.int .i64 2)) (.r 13)), op 15 (.bin .add (.r 14) (.c (.int .i64 1))), op 11 (.mov (.r 15))]) <|
        sq (sq (.ops [op 16 (.mov (.r 11)), op 17 (.mov (.r 2)), op 18 (.bin .geq (.r 16) (.r 17))]) <|
        .cond (.r 18)
          (.exit 0)
          (.skip)) <|
        sq (sq (.ops [op 19 (.mov (.r 11)), op 20 (.bin .add (.r 19) (.c (.int .i64 1))), op 21 (.mov (.r 2)), op 22 (.bin .lss (.r 20) (.r 21)), op 23 (.mov (.r 22)), ⟨(some 24), .b (.mov (.r 4)), (some (23, true)), []⟩, ⟨(some 25), .b (.mov (.r 0)), (some (23, true)), []⟩, ⟨(some 26), .b (.mov (.r 3)), (some (23, true)), []⟩, ⟨(some 27), .b (.mov (.r 11)), (some (23, true)), []⟩, ⟨(some 28), .b (.bin .add (.r 26) (.r 27)), (some (23, true)), []⟩, ⟨(some 29), .b (.iad 2 (.r 25) (.r 28)), (some (23, true)), []⟩, ⟨(some 30), .b (.ld 2 true (.r 29)), (some (23, true)), []⟩, ⟨(some 31), .b (.mov (.r 0)), (some (23, true)), []⟩, ⟨(some 32), .b (.mov (.r 3)), (some (23, true)), []⟩, ⟨(some 33), .b (.mov (.r 11)), (some (23, true)), []⟩, ⟨(some 34), .b (.bin .add (.r 32) (.r 33)), (some (23, true)), []⟩, ⟨(some 35), .b (.bin .add (.r 34) (.c (.int .i64 1))), (some (23, true)), []⟩, ⟨(some 36), .b (.iad 2 (.r 31) (.r 35)), (some (23, true)), []⟩, ⟨(some 37), .b (.ld 2 true (.r 36)), (some (23, true)), []⟩, ⟨(some 38), .callv (.r 24) [(.r 30), (.r 37)], (some (23, true)), []⟩, ⟨(some 39), .b (.bin .lss (.r 38) (.c (.int .i64 0))), (some (23, true)), []⟩, op 40 (.pick (.r 23) (.r 39) (.c (.bool false)))]) <|
        .cond (.r 40)
          (.ops [op 41 (.mov (.r 11)), op 42 (.bin .add (.r 41) (.c (.int .i64 1))), op 11 (.mov (.r 42))])
          (.skip)) <|
        sq (sq (.ops [op 43 (.mov (.r 4)), op 44 (.mov (.r 0)), op 45 (.mov (.r 3)), op 46 (.mov (.r 10)), op 47 (.bin .add (.r 45) (.r 46)), op 48 (.iad 2 (.r 44) (.r 47)), op 49 (.ld 2 true (.r 48)), op 50 (.mov (.r 0)), op 51 (.mov (.r 3)), op 52 (.mov (.r 11)), op 53 (.bin .add (.r 51) (.r 52)), op 54 (.iad 2 (.r 50) (.r 53)), op 55 (.ld 2 true (.r 54)), ⟨(some 56), .callv (.r 43) [(.r 49), (.r 55)], none, []⟩, op 57 (.bin .lss (.r 56) (.c (.int .i64 0))), op 58 (.un .not (.r 57))]) <|
        .cond (.r 58)
          (.ret)
          (.skip)) <|
        sq (.ops [op 59 (.mov (.r 0)), op 60 (.mov (.r 3)), op 61 (.mov (.r 10)), op 62 (.bin .add (.r 60) (.r 61)), op 63 (.mov (.r 0)), op 64 (.mov (.r 3)), op 65 (.mov (.r 11)), op 66 (.bin .add (.r 64) (.r 65)), op 67 (.mov (.r 0)), op 68 (.mov (.r 3)), op 69 (.mov (.r 11)), op 70 (.bin .add (.r 68) (.r 69)), op 71 (.iad 2 (.r 67) (.r 70)), op 72 (.ld 2 true (.r 71)), op 73 (.mov (.r 0)), op 74 (.mov (.r 3)), op 75 (.mov (.r 10)), op 76 (.bin .add (.r 74) (.r 75)), op 77 (.iad 2 (.r 73) (.r 76)), op 78 (.ld 2 true (.r 77)), op 79 (.iad 2 (.r 59) (.r 62)), ef (.st 2 (.r 79) (.r 72)), op 80 (.iad 2 (.r 63) (.r 66)), ef (.st 2 (.r 80) (.r 78))]) <|
        .ops [op 81 (.mov (.r 11)), op 10 (.mov (.r 81))])))⟩
def an97 : An := ⟨[], []⟩
def ir97 : Go.Rmp.Fn := ⟨7, 1, [.t 2],
  sq (.ops [op 2 (.mov (.c (.int .u64 0)))]) <|
  sq (.ops [op 3 (.mov (.r 0)), op 4 (.cvi .u64 (.r 3)), cl 5 65 [(.r 4)], op 6 (.bin .shl (.c (.int .u64 1)) (.r 5)), op 2 (.mov (.r 6))]) <|
  .ret⟩
def an98 : An := ⟨[], [(1, [(0, true), (1, true), (2, true), (3, true), (4, true), (5, true), (6, true), (7, true), (8, true), (9, false)]), (2, [(0, true), (1, true), (2, true), (3, true), (4, true), (5, true), (6, true), (7, true), (8, true), (9, false)]), (3, [(0, true), (1, true), (2, true), (3, true), (4, true), (5, true), (6, true), (7, true), (8, true), (9, false)])]⟩
def ir98 : Go.Rmp.Fn := ⟨33, 1, [.t 2],
  sq (.ops [op 2 (.mov (.c (.int .u64 0)))]) <|
  sq (.ops [op 3 (.mov (.r 0)), op 4 (.nilc (.r 3)), op 5 (.ld 1 false (.r 4)), op 6 (.mov (.r 0)), op 7 (.nilc (.r 6)), op 8 (.ld 1 false (.r 7)), op 9 (.bin .shl (.r 8) (.c (.int .u64 13))), op 10 (.bin .xor (.r 5) (.r 9)), op 11 (.nilc (.r 3)), ef (.st 1 (.r 11) (.r 10))]) <|
  sq (.ops [op 12 (.mov (.r 0)), op 13 (.nilc (.r 12)), op 14 (.ld 1 false (.r 13)), op 15 (.mov (.r 0)), op 16 (.nilc (.r 15)), op 17 (.ld 1 false (.r 16)), op 18 (.bin .shr (.r 17) (.c (.int .u64 7))), op 19 (.bin .xor (.r 14) (.r 18)), op 20 (.nilc (.r 12)), ef (.st 1 (.r 20) (.r 19))]) <|
  sq (.ops [op 21 (.mov (.r 0)), op 22 (.nilc (.r 21)), op 23 (.ld 1 false (.r 22)), op 24 (.mov (.r 0)), op 25 (.nilc (.r 24)), op 26 (.ld 1 false (.r 25)), op 27 (.bin .shl (.r 26) (.c (.int .u64 17))), op 28 (.bin .xor (.r 23) (.r 27)), op 29 (.nilc (.r 21)), ef (.st 1 (.r 29) (.r 28))]) <|
  sq (.ops [op 30 (.mov (.r 0)), op 31 (.nilc (.r 30)), op 32 (.ld 1 false (.r 31)), op 2 (.mov (.r 32))]) <|
  .ret⟩
def an99 : An := ⟨[], []⟩
def ir99 : Go.Rmp.Fn := ⟨18, 4, [.t 8],
  sq (.ops [op 8 (.mov (.c (.int .i64 0)))]) <|
  sq (.ops [op 9 (.mov (.r 0)), op 10 (.mov (.r 1)), op 11 (.bin .sub (.r 10) (.c (.int .i64 1))), op 12 (.mov (.r 1)), op 13 (.mov (.r 1)), op 14 (.bin .add (.r 13) (.c (.int .i64 1))), op 15 (.mov (.r 2)), op 16 (.mov (.r 3)), cl 17 100 [(.r 9), (.r 11), (.r 12), (.r 14), (.r 15), (.r 16)], op 8 (.mov (.r 17))]) <|
  .ret⟩
def an100 : An := ⟨[], []⟩
def ir100 : Go.Rmp.Fn := ⟨41, 6, [.t 12],
  sq (.ops [op 12 (.mov (.c (.int .i64 0)))]) <|
  sq (.ops [op 14 (.mov (.r 0)), op 15 (.mov (.r 1)), op 16 (.mov (.r 2)), op 17 (.mov (.r 4)), op 18 (.mov (.r 5)), cl 19 105 [(.r 14), (.r 15), (.r 16), (.r 17), (.r 18)], op 13 (.mov (.r 19)), op 20 (.ext 0 (.r 13)), op 21 (.ext 1 (.r 13)), op 1 (.mov (.r 20)), op 2 (.mov (.r 21))]) <|
  sq (.ops [op 23 (.mov (.r 0)), op 24 (.mov (.r 2)), op 25 (.mov (.r 3)), op 26 (.mov (.r 4)), op 27 (.mov (.r 5)), cl 28 105 [(.r 23), (.r 24), (.r 25), (.r 26), (.r 27)], op 22 (.mov (.r 28)), op 29 (.ext 0 (.r 22)), op 30 (.ext 1 (.r 22)), op 2 (.mov (.r 29)), op 3 (.mov (.r 30))]) <|
  sq (.ops [op 32 (.mov (.r 0)), op 33 (.mov (.r 1)), op 34 (.mov (.r 2)), op 35 (.mov (.r 4)), op 36 (.mov (.r 5)), cl 37 105 [(.r 32), (.r 33), (.r 34), (.r 35), (.r 36)], op 31 (.mov (.r 37)), op 38 (.ext 0 (.r 31)), op 39 (.ext 1 (.r 31)), op 1 (.mov (.r 38)), op 2 (.mov (.r 39))]) <|
  sq (.ops [op 40 (.mov (.r 2)), op 12 (.mov (.r 40))]) <|
  .ret⟩
def an105 : An := ⟨[], [(1, [(0, true), (1, true), (2, true), (3, true), (4, true), (5, true), (6, true), (7, true), (8, true), (9, false), (10, true)])]⟩
def ir105 : Go.Rmp.Fn := ⟨32, 5, [.t 10, .t 11],
  sq (.ops [op 10 (.mov (.c (.int .i64 0))), op 11 (.mov (.c (.int .i64 0)))]) <|
  sq (sq (.ops [op 12 (.mov (.r 4)), op 13 (.mov (.r 0)), op 14 (.mov (.r 2)), op 15 (.iad 2 (.r 13) (.r 14)), op 16 (.ld 2 true (.r 15)), op 17 (.mov (.r 0)), op 18 (.mov (.r 1)), op 19 (.iad 2 (.r 17) (.r 18)), op 20 (.ld 2 true (.r 19)), ⟨(some 21), .callv (.r 12) [(.r 16), (.r 20)], none, []⟩, op 22 (.bin .lss (.r 21) (.c (.int .i64 0)))]) <|
  .cond (.r 22)
    (sq (.ops [op 23 (.mov (.r 3)), op 24 (.nilc (.r 23)), op 25 (.ld 1 false (.r 24)), op 26 (.bin .add (.r 25) (.c (.int .i64 1))), op 27 (.nilc (.r 23)), ef (.st 1 (.r 27) (.r 26))]) <|
    sq (.ops [op 28 (.mov (.r 2)), op 29 (.mov (.r 1)), op 10 (.mov (.r 28)), op 11 (.mov (.r 29))]) <|
    .ret)
    (.skip)) <|
  sq (.ops [op 30 (.mov (.r 1)), op 31 (.mov (.r 2)), op 10 (.mov (.r 30)), op 11 (.mov (.r 31))]) <|
  .ret⟩
theorem c6 : compFn Try.prog an6 6 = some ir6 := by kernel_rfl
theorem c7 : compFn Try.prog an7 7 = some ir7 := by kernel_rfl
theorem c8 : compFn Try.prog an8 8 = some ir8 := by kernel_rfl
theorem c9 : compFn Try.prog an9 9 = some ir9 := by kernel_rfl
theorem c10 : compFn Try.prog an10 10 = some ir10 := by kernel_rfl
theorem c11 : compFn Try.prog an11 11 = some ir11 := by kernel_rfl
theorem c13 : compFn Try.prog an13 13 = some ir13 := by kernel_rfl
theorem c14 : compFn Try.prog an14 14 = some ir14 := by kernel_rfl
theorem c15 : compFn Try.prog an15 15 = some ir15 := by kernel_rfl
theorem c16 : compFn Try.prog an16 16 = some ir16 := by kernel_rfl
theorem c17 : compFn Try.prog an17 17 = some ir17 := by kernel_rfl
theorem c18 : compFn Try.prog an18 18 = some ir18 := by kernel_rfl
theorem c19 : compFn Try.prog an19 19 = some ir19 := by kernel_rfl
theorem c20 : compFn Try.prog an20 20 = some ir20 := by kernel_rfl
theorem c22 : compFn Try.prog an22 22 = some ir22 := by kernel_rfl
theorem c23 : compFn Try.prog an23 23 = some ir23 := by kernel_rfl
theorem c24 : compFn Try.prog an24 24 = some ir24 := by kernel_rfl
theorem c25 : compFn Try.prog an25 25 = some ir25 := by kernel_rfl
theorem c26 : compFn Try.prog an26 26 = some ir26 := by kernel_rfl
theorem c27 : compFn Try.prog an27 27 = some ir27 := by kernel_rfl
theorem c28 : compFn Try.prog an28 28 = some ir28 := by kernel_rfl
theorem c29 : compFn Try.prog an29 29 = some ir29 := by kernel_rfl
theorem c30 : compFn Try.prog an30 30 = some ir30 := by kernel_rfl
theorem c31 : compFn Try.prog an31 31 = some ir31 := by kernel_rfl
theorem c32 : compFn Try.prog an32 32 = some ir32 := by kernel_rfl
theorem c33 : compFn Try.prog an33 33 = some ir33 := by kernel_rfl
theorem c34 : compFn Try.prog an34 34 = some ir34 := by kernel_rfl
theorem c35 : compFn Try.prog an35 35 = some ir35 := by kernel_rfl
theorem c36 : compFn Try.prog an36 36 = some ir36 := by kernel_rfl
theorem c37 : compFn Try.prog an37 37 = some ir37 := by kernel_rfl
theorem c38 : compFn Try.prog an38 38 = some ir38 := by kernel_rfl
theorem c39 : compFn Try.prog an39 39 = some ir39 := by kernel_rfl
theorem c40 : compFn Try.prog an40 40 = some ir40 := by kernel_rfl
theorem c41 : compFn Try.prog an41 41 = some ir41 := by kernel_rfl
theorem c42 : compFn Try.prog an42 42 = some ir42 := by kernel_rfl
theorem c43 : compFn Try.prog an43 43 = some ir43 := by kernel_rfl
theorem c44 : compFn Try.prog an44 44 = some ir44 := by kernel_rfl
theorem c45 : compFn Try.prog an45 45 = some ir45 := by kernel_rfl
theorem c46 : compFn Try.prog an46 46 = some ir46 := by kernel_rfl
theorem c47 : compFn Try.prog an47 47 = some ir47 := by kernel_rfl
theorem c48 : compFn Try.prog an48 48 = some ir48 := by kernel_rfl
theorem c49 : compFn Try.prog an49 49 = some ir49 := by kernel_rfl
theorem c50 : compFn Try.prog an50 50 = some ir50 := by kernel_rfl
theorem c51 : compFn Try.prog an51 51 = some ir51 := by kernel_rfl
theorem c52 : compFn Try.prog an52 52 = some ir52 := by kernel_rfl
theorem c53 : compFn Try.prog an53 53 = some ir53 := by kernel_rfl
theorem c54 : compFn Try.prog an54 54 = some ir54 := by kernel_rfl
theorem c55 : compFn Try.prog an55 55 = some ir55 := by kernel_rfl
theorem c56 : compFn Try.prog an56 56 = some ir56 := by kernel_rfl
theorem c57 : compFn Try.prog an57 57 = some ir57 := by kernel_rfl
theorem c58 : compFn Try.prog an58 58 = some ir58 := by kernel_rfl
theorem c59 : compFn Try.prog an59 59 = some ir59 := by kernel_rfl
theorem c60 : compFn Try.prog an60 60 = some ir60 := by kernel_rfl
theorem c61 : compFn Try.prog an61 61 = some ir61 := by kernel_rfl
theorem c62 : compFn Try.prog an62 62 = some ir62 := by kernel_rfl
theorem c63 : compFn Try.prog an63 63 = some ir63 := by kernel_rfl
theorem c64 : compFn Try.prog an64 64 = some ir64 := by kernel_rfl
theorem c65 : compFn Try.prog an65 65 = some ir65 := by kernel_rfl
theorem c66 : compFn Try.prog an66 66 = some ir66 := by kernel_rfl
theorem c67 : compFn Try.prog an67 67 = some ir67 := by kernel_rfl
theorem c68 : compFn Try.prog an68 68 = some ir68 := by kernel_rfl
theorem c69 : compFn Try.prog an69 69 = some ir69 := by kernel_rfl
theorem c70 : compFn Try.prog an70 70 = some ir70 := by kernel_rfl
theorem c71 : compFn Try.prog an71 71 = some ir71 := by kernel_rfl
theorem c72 : compFn Try.prog an72 72 = some ir72 := by kernel_rfl
theorem c75 : compFn Try.prog an75 75 = some ir75 := by kernel_rfl
theorem c76 : compFn Try.prog an76 76 = some ir76 := by kernel_rfl
theorem c77 : compFn Try.prog an77 77 = some ir77 := by kernel_rfl
theorem c78 : compFn Try.prog an78 78 = some ir78 := by kernel_rfl
theorem c79 : compFn Try.prog an79 79 = some ir79 := by kernel_rfl
theorem c80 : compFn Try.prog an80 80 = some ir80 := by kernel_rfl
theorem c81 : compFn Try.prog an81 81 = some ir81 := by kernel_rfl
theorem c82 : compFn Try.prog an82 82 = some ir82 := by kernel_rfl
theorem c84 : compFn Try.prog an84 84 = some ir84 := by kernel_rfl
theorem c85 : compFn Try.prog an85 85 = some ir85 := by kernel_rfl
theorem c91 : compFn Try.prog an91 91 = some ir91 := by kernel_rfl
theorem c94 : compFn Try.prog an94 94 = some ir94 := by kernel_rfl
theorem c96 : compFn Try.prog an96 96 = some ir96 := by kernel_rfl
theorem c97 : compFn Try.prog an97 97 = some ir97 := by kernel_rfl
theorem c98 : compFn Try.prog an98 98 = some ir98 := by kernel_rfl
theorem c99 : compFn Try.prog an99 99 = some ir99 := by kernel_rfl
theorem c100 : compFn Try.prog an100 100 = some ir100 := by kernel_rfl
theorem c105 : compFn Try.prog an105 105 = some ir105 := by kernel_rfl
def envFn : Nat → Option Go.Rmp.Fn
  | 6 => some ir6
  | 7 => some ir7
  | 8 => some ir8
  | 9 => some ir9
  | 10 => some ir10
  | 11 => some ir11
  | 13 => some ir13
  | 14 => some ir14
  | 15 => some ir15
  | 16 => some ir16
  | 17 => some ir17
  | 18 => some ir18
  | 19 => some ir19
  | 20 => some ir20
  | 22 => some ir22
  | 23 => some ir23
  | 24 => some ir24
  | 25 => some ir25
  | 26 => some ir26
  | 27 => some ir27
  | 28 => some ir28
  | 29 => some ir29
  | 30 => some ir30
  | 31 => some ir31
  | 32 => some ir32
  | 33 => some ir33
  | 34 => some ir34
  | 35 => some ir35
  | 36 => some ir36
  | 37 => some ir37
  | 38 => some ir38
  | 39 => some ir39
  | 40 => some ir40
  | 41 => some ir41
  | 42 => some ir42
  | 43 => some ir43
  | 44 => some ir44
  | 45 => some ir45
  | 46 => some ir46
  | 47 => some ir47
  | 48 => some ir48
  | 49 => some ir49
  | 50 => some ir50
  | 51 => some ir51
  | 52 => some ir52
  | 53 => some ir53
  | 54 => some ir54
  | 55 => some ir55
  | 56 => some ir56
  | 57 => some ir57
  | 58 => some ir58
  | 59 => some ir59
  | 60 => some ir60
  | 61 => some ir61
  | 62 => some ir62
  | 63 => some ir63
  | 64 => some ir64
  | 65 => some ir65
  | 66 => some ir66
  | 67 => some ir67
  | 68 => some ir68
  | 69 => some ir69
  | 70 => some ir70
  | 71 => some ir71
  | 72 => some ir72
  | 75 => some ir75
  | 76 => some ir76
  | 77 => some ir77
  | 78 => some ir78
  | 79 => some ir79
  | 80 => some ir80
  | 81 => some ir81
  | 82 => some ir82
  | 84 => some ir84
  | 85 => some ir85
  | 91 => some ir91
  | 94 => some ir94
  | 96 => some ir96
  | 97 => some ir97
  | 98 => some ir98
  | 99 => some ir99
  | 100 => some ir100
  | 105 => some ir105
  | _ => none
def env : Env := ⟨envFn, fun _ _ _ _ => False, fun _ _ _ _ _ h _ => h⟩
theorem envOk : EnvOk Try.prog env where
  mixed := by kernel_rfl
  fn := by
    intro f fn h
    simp only [env, envFn] at h
    split at h
    · cases h; exact ⟨_, c6⟩
    · cases h; exact ⟨_, c7⟩
    · cases h; exact ⟨_, c8⟩
    · cases h; exact ⟨_, c9⟩
    · cases h; exact ⟨_, c10⟩
    · cases h; exact ⟨_, c11⟩
    · cases h; exact ⟨_, c13⟩
    · cases h; exact ⟨_, c14⟩
    · cases h; exact ⟨_, c15⟩
    · cases h; exact ⟨_, c16⟩
    · cases h; exact ⟨_, c17⟩
    · cases h; exact ⟨_, c18⟩
    · cases h; exact ⟨_, c19⟩
    · cases h; exact ⟨_, c20⟩
    · cases h; exact ⟨_, c22⟩
    · cases h; exact ⟨_, c23⟩
    · cases h; exact ⟨_, c24⟩
    · cases h; exact ⟨_, c25⟩
    · cases h; exact ⟨_, c26⟩
    · cases h; exact ⟨_, c27⟩
    · cases h; exact ⟨_, c28⟩
    · cases h; exact ⟨_, c29⟩
    · cases h; exact ⟨_, c30⟩
    · cases h; exact ⟨_, c31⟩
    · cases h; exact ⟨_, c32⟩
    · cases h; exact ⟨_, c33⟩
    · cases h; exact ⟨_, c34⟩
    · cases h; exact ⟨_, c35⟩
    · cases h; exact ⟨_, c36⟩
    · cases h; exact ⟨_, c37⟩
    · cases h; exact ⟨_, c38⟩
    · cases h; exact ⟨_, c39⟩
    · cases h; exact ⟨_, c40⟩
    · cases h; exact ⟨_, c41⟩
    · cases h; exact ⟨_, c42⟩
    · cases h; exact ⟨_, c43⟩
    · cases h; exact ⟨_, c44⟩
    · cases h; exact ⟨_, c45⟩
    · cases h; exact ⟨_, c46⟩
    · cases h; exact ⟨_, c47⟩
    · cases h; exact ⟨_, c48⟩
    · cases h; exact ⟨_, c49⟩
    · cases h; exact ⟨_, c50⟩
    · cases h; exact ⟨_, c51⟩
    · cases h; exact ⟨_, c52⟩
    · cases h; exact ⟨_, c53⟩
    · cases h; exact ⟨_, c54⟩
    · cases h; exact ⟨_, c55⟩
    · cases h; exact ⟨_, c56⟩
    · cases h; exact ⟨_, c57⟩
    · cases h; exact ⟨_, c58⟩
    · cases h; exact ⟨_, c59⟩
    · cases h; exact ⟨_, c60⟩
    · cases h; exact ⟨_, c61⟩
    · cases h; exact ⟨_, c62⟩
    · cases h; exact ⟨_, c63⟩
    · cases h; exact ⟨_, c64⟩
    · cases h; exact ⟨_, c65⟩
    · cases h; exact ⟨_, c66⟩
    · cases h; exact ⟨_, c67⟩
    · cases h; exact ⟨_, c68⟩
    · cases h; exact ⟨_, c69⟩
    · cases h; exact ⟨_, c70⟩
    · cases h; exact ⟨_, c71⟩
    · cases h; exact ⟨_, c72⟩
    · cases h; exact ⟨_, c75⟩
    · cases h; exact ⟨_, c76⟩
    · cases h; exact ⟨_, c77⟩
    · cases h; exact ⟨_, c78⟩
    · cases h; exact ⟨_, c79⟩
    · cases h; exact ⟨_, c80⟩
    · cases h; exact ⟨_, c81⟩
    · cases h; exact ⟨_, c82⟩
    · cases h; exact ⟨_, c84⟩
    · cases h; exact ⟨_, c85⟩
    · cases h; exact ⟨_, c91⟩
    · cases h; exact ⟨_, c94⟩
    · cases h; exact ⟨_, c96⟩
    · cases h; exact ⟨_, c97⟩
    · cases h; exact ⟨_, c98⟩
    · cases h; exact ⟨_, c99⟩
    · cases h; exact ⟨_, c100⟩
    · cases h; exact ⟨_, c105⟩
    · cases h
  prim := by intro f az H Q h; exact h.elim
end Go.Proofs.Ytbkgokabcnogdaa.Ir
end

section
namespace Go.Proofs.Ytbkgokabcnogdaa.St
open Go.Rmp Go.Proofs.Ytbkgokabcnogdaa.Ir
set_option maxRecDepth 10000
theorem getP {α : Type} {l : List α} {i : Nat} (h : i < l.length) : ∃ x, l[i]? = some x := ⟨l[i], List.getElem?_eq_getElem h⟩
def eS (s : ByteArray) : List T := [.str s]
def eU (n : Nat) : List T := [.int .u64 n]
def restI (n : Int) (most : Nat) : Nat := (n % ((most : Int) + 1)).toNat
theorem restI_le (n : Int) (most : Nat) : restI n most ≤ most := by
  unfold restI
  have h1 := Int.emod_nonneg n (show (most : Int) + 1 ≠ 0 by omega)
  have h2 := Int.emod_lt_of_pos n (show 0 < (most : Int) + 1 by omega)
  omega
theorem wrap8 {n : Nat} (h : n < 256) : IntKind.u8.wrap (n : Int) = (n : Int) := by
  unfold IntKind.wrap
  simp -implicitDefEqProofs only [IntKind.signed, IntKind.bits]
  simp
  omega
theorem tmod_rest (n : Int) (most : Nat) : (if n.tmod ((most : Int) + 1) < 0 then n.tmod ((most : Int) + 1) + (most : Int) + 1 else n.tmod ((most : Int) + 1)) = (restI n most : Int) := by
  unfold restI
  have h1 := Int.emod_nonneg n (show (most : Int) + 1 ≠ 0 by omega)
  have h2 := Int.emod_lt_of_pos n (show 0 < (most : Int) + 1 by omega)
  have h3 := @Int.tmod_eq_emod n ((most : Int) + 1)
  rw [Int.toNat_of_nonneg h1]
  by_cases hc : 0 ≤ n ∨ (most : Int) + 1 ∣ n
  · simp -implicitDefEqProofs only [hc, if_true] at h3
    split <;> omega
  · simp -implicitDefEqProofs only [hc, if_false] at h3
    have h4 : (((most : Int) + 1).natAbs : Int) = (most : Int) + 1 := by omega
    split <;> omega
theorem rest10 (n : Int) (most : Nat) (hm : most < 4611686018427387903) (hn : -9223372036854775808 ≤ n ∧ n ≤ 9223372036854775807) (H : Heap) : W env (.call 10 [.int .i64 n, .int .i64 most]) H (Ret (.int .i64 (restI n most : Nat)) H) := by
  refine W.fnI rfl rfl rfl ?_
  have w1 : IntKind.i64.wrap ((most : Int) + 1) = ((most : Int) + 1) := wrap64 (by omega)
  have nz : ¬ ((most : Int) + 1) = 0 := by omega
  have hr := tmod_rest n most
  have hl := restI_le n most
  have hb : -((most : Int) + 1) < n.tmod ((most : Int) + 1) := Int.lt_tmod_of_pos n (by omega)
  have hb2 : n.tmod ((most : Int) + 1) < ((most : Int) + 1) := Int.tmod_lt_of_pos n (by omega)
  by_cases hneg : n.tmod ((most : Int) + 1) < 0
  · have w2 : IntKind.i64.wrap (n.tmod ((most : Int) + 1) + (most : Int)) = n.tmod ((most : Int) + 1) + (most : Int) := wrap64 (by omega)
    have w3 : IntKind.i64.wrap (n.tmod ((most : Int) + 1) + (most : Int) + 1) = n.tmod ((most : Int) + 1) + (most : Int) + 1 := wrap64 (by omega)
    rw [if_pos hneg] at hr
    simp -implicitDefEqProofs only [ir10, op, ef, cl, sq, reduceIte, Int.reduceLT, Int.reduceLE, Int.reduceBEq, Int.reduceBNe, Int.reduceEq, Nat.reduceAdd, Nat.reduceLeDiff, Nat.reduceLT, Nat.reduceEqDiff, S1, w1, nz, hneg, w2, w3]
    exact hr
  · rw [if_neg hneg] at hr
    simp -implicitDefEqProofs only [ir10, op, ef, cl, sq, reduceIte, Int.reduceLT, Int.reduceLE, Int.reduceBEq, Int.reduceBNe, Int.reduceEq, Nat.reduceAdd, Nat.reduceLeDiff, Nat.reduceLT, Nat.reduceEqDiff, S1, w1, nz, hneg]
    exact hr
def keyT (i : Nat) : ByteArray := ⟨#[UInt8.ofNat (97 + i)]⟩
def bit (m : Int) (i : Nat) : Bool := IntKind.i64.wrap ((BitVec.ofInt IntKind.i64.bits (m.fdiv (2 ^ (min (i : Int).toNat IntKind.i64.bits))) &&& BitVec.ofInt IntKind.i64.bits 1).toNat : Nat) == 1
def keysN (m : Int) (n : Nat) : List ByteArray := ((List.range n).filter (bit m)).map keyT
def setOf (m : Int) : List ByteArray := if keysN m 3 = [] then [keyT 0] else keysN m 3
theorem keysN_succ (m : Int) (n : Nat) : keysN m (n + 1) = if bit m n then keysN m n ++ [keyT n] else keysN m n := by
  unfold keysN; rw [List.range_succ, List.filter_append, List.map_append]
  cases h : bit m n <;> simp [List.filter_cons, h]
theorem keyT_lt {i j : Nat} (h : i < j) (hj : j < 8) : strLt (keyT i) (keyT j) = true := by
  have hi : i < 8 := by omega
  simp -implicitDefEqProofs only [strLt, keyT, Go.ByteArray.toList_eq, Op.bytesLess, Bool.or_eq_true, decide_eq_true_eq]
  left
  rw [UInt8.lt_iff_toNat_lt]
  simp -implicitDefEqProofs only [UInt8.toNat_ofNat']
  omega
def rises : List ByteArray → Bool
  | a :: b :: l => strLt a b && rises (b :: l)
  | _ => true
theorem rises_iff : ∀ (l : List ByteArray), rises l = true ↔ ∀ (i : Nat) (a b : ByteArray), l[i]? = some a → l[i+1]? = some b → strLt a b = true
  | [] => by simp [rises]
  | [a] => by simp [rises]
  | a :: b :: l => by
    simp -implicitDefEqProofs only [rises, Bool.and_eq_true, rises_iff (b :: l)]
    constructor
    · rintro ⟨h1, h2⟩ i x y hx hy
      cases i with
      | zero => simp at hx hy; subst hx; subst hy; exact h1
      | succ i => exact h2 i x y (by simpa using hx) (by simpa using hy)
    · intro h
      exact ⟨h 0 a b rfl rfl, fun i x y hx hy => h (i + 1) x y (by simpa using hx) (by simpa using hy)⟩
theorem rises_lt {l : List ByteArray} (h : rises l = true) : ∀ (q p : Nat) (a b : ByteArray), p < q → l[p]? = some a → l[q]? = some b → strLt a b = true
  | 0, p, _, _, hpq, _, _ => by omega
  | q + 1, p, a, b, hpq, ha, hb => by
    obtain ⟨c, hc⟩ := getP (l := l) (i := q) (by have := (List.getElem?_eq_some_iff.1 hb).1; omega)
    have h1 := (rises_iff l).1 h q c b hc hb
    by_cases e : p = q
    · subst e; rw [ha] at hc; cases hc; exact h1
    · exact lt_trans' (rises_lt h q p a c (by omega) ha hc) h1
theorem rises_pw : ∀ {l : List ByteArray}, l.Pairwise (fun a b => strLt a b = true) → rises l = true
  | [], _ => rfl
  | [_], _ => rfl
  | a :: b :: l, h => by
    rw [List.pairwise_cons] at h
    simp -implicitDefEqProofs only [rises, h.1 b (by simp), rises_pw h.2, Bool.and_self]
theorem keysN_rises (m : Int) (n : Nat) (hn : n ≤ 8) : (keysN m n).Pairwise (fun a b => strLt a b = true) := by
  unfold keysN
  rw [List.pairwise_map]
  have h1 : (List.range n).Pairwise (fun i j => i < j) := List.pairwise_lt_range
  refine (h1.filter _).imp_of_mem ?_
  intro i j hi hj h
  exact keyT_lt h (by have := List.mem_range.1 (List.mem_filter.1 hj).1; omega)
theorem keysN_len (m : Int) (n : Nat) : (keysN m n).length ≤ n := by
  unfold keysN; rw [List.length_map]; have := List.length_filter_le (bit m) (List.range n); simpa using this
theorem setOf_rises (m : Int) : rises (setOf m) = true := by
  unfold setOf; split
  · rfl
  · exact rises_pw (keysN_rises m 3 (by decide))
theorem setOf_len (m : Int) : 1 ≤ (setOf m).length ∧ (setOf m).length ≤ 3 := by
  unfold setOf; split
  · simp
  · rename_i h
    exact ⟨List.length_pos_iff.2 h, keysN_len m 3⟩
theorem setOf_key {m : Int} {s : ByteArray} (h : s ∈ setOf m) : ∃ i, i < 3 ∧ s = keyT i := by
  unfold setOf at h; split at h
  · simp at h; exact ⟨0, by decide, h⟩
  · unfold keysN at h
    obtain ⟨i, hi, rfl⟩ := List.mem_map.1 h
    exact ⟨i, List.mem_range.1 (List.mem_filter.1 hi).1, rfl⟩
theorem keyT_size (i : Nat) : (keyT i).size = 1 := rfl
def idOf (w : Int) : Nat := 65536 * (1 + restI w 11) + restI w 11 % 3
theorem idOf_ge (w : Int) : 65536 ≤ idOf w ∧ idOf w ≤ 786436 := by
  have := restI_le w 11
  unfold idOf; omega
theorem wrapu {n : Nat} (h : n < 18446744073709551616) : IntKind.u64.wrap (n : Int) = (n : Int) := by
  unfold IntKind.wrap
  simp -implicitDefEqProofs only [IntKind.signed, IntKind.bits]
  simp
  omega
theorem id9 (w : Int) (hw : -9223372036854775808 ≤ w ∧ w ≤ 9223372036854775807) (H : Heap) : W env (.call 9 [.int .i64 w]) H (Ret (.int .u64 (idOf w : Nat)) H) := by
  refine W.fnI rfl rfl rfl ?_
  have hr := restI_le w 11
  have w1 : IntKind.i64.wrap (1 + (restI w 11 : Int)) = ((1 + restI w 11 : Nat) : Int) := by rw [wrap64 (by omega)]; omega
  have w2 : IntKind.i64.wrap (65536 * ((1 + restI w 11 : Nat) : Int)) = ((65536 * (1 + restI w 11) : Nat) : Int) := by rw [wrap64 (by omega)]; omega
  have w3 : ((restI w 11 : Nat) : Int).tmod 3 = ((restI w 11 % 3 : Nat) : Int) := rfl
  have w4 : IntKind.i64.wrap (((65536 * (1 + restI w 11) : Nat) : Int) + ((restI w 11 % 3 : Nat) : Int)) = ((idOf w : Nat) : Int) := by
    unfold idOf; rw [wrap64 (by omega)]; omega
  have w5 := wrapu (n := idOf w) (by have := idOf_ge w; omega)
  have z3 : ¬ ((3 : Int) = 0) := by decide
  simp -implicitDefEqProofs only [ir9, op, ef, cl, sq, reduceIte, Int.reduceLT, Int.reduceLE, Int.reduceBEq, Int.reduceBNe, Int.reduceEq, Nat.reduceAdd, Nat.reduceLeDiff, Nat.reduceLT, Nat.reduceEqDiff, S1]
  refine callB_of _ _ _ _ _ _ _ _ (rest10 w 11 (by decide) hw _) ?_
  rintro u H1 ⟨hu, rfl⟩
  cases hu
  simp -implicitDefEqProofs only [op, ef, cl, sq, reduceIte, Int.reduceLT, Int.reduceLE, Int.reduceBEq, Int.reduceBNe, Int.reduceEq, Nat.reduceAdd, Nat.reduceLeDiff, Nat.reduceLT, Nat.reduceEqDiff, S1, w1, w2]
  refine callB_of _ _ _ _ _ _ _ _ (rest10 w 11 (by decide) hw _) ?_
  rintro u H1 ⟨hu, rfl⟩
  cases hu
  simp -implicitDefEqProofs only [op, ef, cl, sq, reduceIte, Int.reduceLT, Int.reduceLE, Int.reduceBEq, Int.reduceBNe, Int.reduceEq, Nat.reduceAdd, Nat.reduceLeDiff, Nat.reduceLT, Nat.reduceEqDiff, S1, w3, w4, w5, z3]
theorem key13 (i : Nat) (hi : i < 8) (H : Heap) : W env (.call 13 [.int .i64 i]) H (Ret (.str (keyT i)) H) := by
  refine W.fnI rfl rfl rfl ?_
  have w1 : IntKind.i64.wrap (97 + (i : Int)) = ((97 + i : Nat) : Int) := by rw [wrap64 (by omega)]; omega
  have w2 : IntKind.u8.wrap ((97 + i : Nat) : Int) = ((97 + i : Nat) : Int) := wrap8 (by omega)
  simp -implicitDefEqProofs only [ir13, op, ef, cl, sq, reduceIte, Int.reduceLT, Int.reduceLE, Int.reduceBEq, Int.reduceBNe, Int.reduceEq, Nat.reduceAdd, Nat.reduceLeDiff, Nat.reduceLT, Nat.reduceEqDiff, S1, w1, w2, bytesOf, Int.toNat_natCast, keyT]
def shortOf (v : ByteArray) : ByteArray := v.extract 0 (min v.size 1000)
theorem short19 (v : ByteArray) (H : Heap) : W env (.call 19 [.str v]) H (Ret (.str (shortOf v)) H) := by
  refine W.fnI rfl rfl rfl ?_
  have hm : (if (1000 : Int) < (v.size : Int) then (1000 : Int) else (v.size : Int)) = ((min v.size 1000 : Nat) : Int) := by split <;> omega
  have h1 : min v.size 1000 ≤ v.size := Nat.min_le_left ..
  simp -implicitDefEqProofs only [ir19, op, ef, cl, sq, reduceIte, Int.reduceLT, Int.reduceLE, Int.reduceBEq, Int.reduceBNe, Int.reduceEq, Nat.reduceAdd, Nat.reduceLeDiff, Nat.reduceLT, Nat.reduceEqDiff, S1, hm, h1, Nat.zero_le]
  rfl
theorem tick31 (n : Int) (H : Heap) : W env (.call 31 [.int .i64 n]) H (Ret (.bool (decide (0 ≤ n) && decide (n ≤ 1099511627776))) H) := by
  refine W.fnI rfl rfl rfl ?_
  by_cases h1 : 0 ≤ n
  · simp -implicitDefEqProofs only [ir31, op, ef, cl, sq, reduceIte, Int.reduceLT, Int.reduceLE, Int.reduceBEq, Int.reduceBNe, Int.reduceEq, Nat.reduceAdd, Nat.reduceLeDiff, Nat.reduceLT, Nat.reduceEqDiff, S1, h1]
  · simp -implicitDefEqProofs only [ir31, op, ef, cl, sq, reduceIte, Int.reduceLT, Int.reduceLE, Int.reduceBEq, Int.reduceBNe, Int.reduceEq, Nat.reduceAdd, Nat.reduceLeDiff, Nat.reduceLT, Nat.reduceEqDiff, S1, h1, Bool.false_and]
end Go.Proofs.Ytbkgokabcnogdaa.St
end

section
namespace Go.Proofs.Ytbkgokabcnogdaa.St
open Go.Rmp Go.Proofs.Ytbkgokabcnogdaa.Ir
set_option maxRecDepth 10000
theorem all_map {α : Type} {enc : α → List T} {n : Nat} (hn : ∀ x, (enc x).length = n) (l : List α) : (l.map enc).all (·.length == n) = true := by
  simp [List.all_map, hn]
theorem take_sn {α : Type} {l : List α} {i : Nat} {x : α} (h : l[i]? = some x) : l.take (i + 1) = l.take i ++ [x] := by
  obtain ⟨hi, e⟩ := List.getElem?_eq_some_iff.1 h
  rw [List.take_add_one, h]; rfl
theorem iadX {α : Type} {e : α → List T} {n : Nat} (hn : ∀ x, (e x).length = n) (h0 : n ≠ 0) {l : List α} {k : SK} {i : Nat} {x : α} (h : l[i]? = some x) : iadT n i (.sl k (l.map e)) = some (.iptr (e x)) := by
  simp -implicitDefEqProofs only [iadT, List.getElem?_map, h, Option.map_some, hn, h0, ne_eq, not_false_eq_true, and_self, if_true]
theorem roomS {n b : Nat} (h : n ≤ 2097152) (hb : b ≤ 64) : roomOk n b = true := by
  simp -implicitDefEqProofs only [roomOk, decide_eq_true_eq]
  have : (n + n / 4 + 512) * b ≤ (n + n / 4 + 512) * 64 := Nat.mul_le_mul_left _ hb
  omega
def KOk {α : Type} (k : SK) (l : List α) : Prop := k = .nil → l = []
theorem app_nn {H H' : Heap} {bytes : Nat} {k k' : SK} {es new es' : List (List T)} (ha : appT H bytes k es new = some (.sl k' es', H')) (hn : new ≠ []) : k' ≠ .nil := by
  rintro rfl
  unfold appT at ha
  split at ha
  · exact hn rfl
  · split at ha
    · cases k <;> simp only at ha
      · simp at ha
      · cases ha
      · simp at ha
      · split at ha
        · split at ha <;> simp at ha
        · cases ha
    · cases ha
theorem set18 (m : Int) (H : Heap) : W env (.call 18 [.int .i64 m]) H (fun o H' => Ext H H' ∧ ∃ k, KOk k (setOf m) ∧ o = .val (.sl k ((setOf m).map eS))) := by
  refine W.fnI rfl rfl rfl ?_
  simp -implicitDefEqProofs only [ir18, op, ef, cl, sq, reduceIte, Int.reduceLT, Int.reduceLE, Int.reduceBEq, Int.reduceBNe, Int.reduceEq, Nat.reduceAdd, Nat.reduceLeDiff, Nat.reduceLT, Nat.reduceEqDiff, S1]
  refine W.loopI (fun (i : Nat) R H' => At H' (fun H' => ∃ kw, R 3 = .sl kw ((keysN m i).map eS) ∧ Ext H H' ∧ Apd H.length H' kw ∧ KOk kw (keysN m i)) ∧ R 0 = .int .i64 m ∧ R 4 = .int .i64 i ∧ i ≤ 3) (fun i => 3 - i) 0 ⟨.i ⟨.nil, rfl, Ext.rfl', apd_nil _ _, fun _ => rfl⟩, rfl, rfl, Nat.zero_le _⟩ ?_
  rintro i R H1 ⟨⟨kw, g3, hx, hap, hko⟩, g0, g4, hi⟩
  have hsn := keysN_succ m i
  by_cases hlt : i < 3
  · have wsi := wrap_succ (show i < 9223372036854775807 by omega)
    have nn : ¬ (i : Int) < 0 := by omega
    have hb : (IntKind.i64.wrap ((BitVec.ofInt IntKind.i64.bits (m.fdiv (2 ^ (min (i : Int).toNat IntKind.i64.bits))) &&& BitVec.ofInt IntKind.i64.bits 1).toNat : Nat) == 1) = bit m i := rfl
    cases hbi : bit m i
    · rw [hbi] at hb hsn
      simp -implicitDefEqProofs only [op, ef, cl, sq, reduceIte, Int.reduceLT, Int.reduceLE, Int.reduceBEq, Int.reduceBNe, Int.reduceEq, Nat.reduceAdd, Nat.reduceLeDiff, Nat.reduceLT, Nat.reduceEqDiff, S1, g0, g3, g4, hlt, nn, hb, wsi]
      refine ⟨i + 1, by omega, .i ⟨kw, ?_, hx, hap, ?_⟩, rfl, by omega⟩
      · simp -implicitDefEqProofs only [op, ef, cl, sq, reduceIte, Int.reduceLT, Int.reduceLE, Int.reduceBEq, Int.reduceBNe, Int.reduceEq, Nat.reduceAdd, Nat.reduceLeDiff, Nat.reduceLT, Nat.reduceEqDiff, S1, g3, hsn]
      · rw [hsn]; exact hko
    · rw [hbi] at hb hsn
      simp -implicitDefEqProofs only [op, ef, cl, sq, reduceIte, Int.reduceLT, Int.reduceLE, Int.reduceBEq, Int.reduceBNe, Int.reduceEq, Nat.reduceAdd, Nat.reduceLeDiff, Nat.reduceLT, Nat.reduceEqDiff, S1, g0, g3, g4, hlt, nn, hb]
      refine callB_of _ _ _ _ _ _ _ _ (key13 i (by omega) _) ?_
      rintro u H2 ⟨hu, rfl⟩
      cases hu
      have hl := keysN_len m i
      have hall := all_map (enc := eS) (n := 1) (fun _ => rfl) (keysN m i)
      obtain ⟨k', H', ha, hap', hst⟩ := app_ok (bytes := 16) ((keysN m i).map eS) [[T.str (keyT i)]] hap hx.len (by simp) (roomS (by simp; omega) (by omega))
      have hnn := app_nn ha (by simp)
      simp -implicitDefEqProofs only [op, ef, cl, sq, reduceIte, Int.reduceLT, Int.reduceLE, Int.reduceBEq, Int.reduceBNe, Int.reduceEq, Nat.reduceAdd, Nat.reduceLeDiff, Nat.reduceLT, Nat.reduceEqDiff, S1] at ha
      simp -implicitDefEqProofs only [op, ef, cl, sq, reduceIte, Int.reduceLT, Int.reduceLE, Int.reduceBEq, Int.reduceBNe, Int.reduceEq, Nat.reduceAdd, Nat.reduceLeDiff, Nat.reduceLT, Nat.reduceEqDiff, S1, g0, g3, g4, hall, ha, wsi]
      refine ⟨i + 1, by omega, .i ⟨k', ?_, hst.ext H (Nat.le_refl _) hx, hap', fun h => absurd h hnn⟩, rfl, by omega⟩
      simp -implicitDefEqProofs only [op, ef, cl, sq, reduceIte, Int.reduceLT, Int.reduceLE, Int.reduceBEq, Int.reduceBNe, Int.reduceEq, Nat.reduceAdd, Nat.reduceLeDiff, Nat.reduceLT, Nat.reduceEqDiff, S1, hsn, List.map_append, eS]
  · have hi3 : i = 3 := by omega
    subst hi3
    by_cases hz : keysN m 3 = []
    · have e1 : setOf m = [keyT 0] := by rw [setOf, if_pos hz]
      have e2 : (keysN m 3).length = 0 := by rw [hz]; rfl
      simp -implicitDefEqProofs only [op, ef, cl, sq, reduceIte, Int.reduceLT, Int.reduceLE, Int.reduceBEq, Int.reduceBNe, Int.reduceEq, Nat.reduceAdd, Nat.reduceLeDiff, Nat.reduceLT, Nat.reduceEqDiff, S1, g0, g3, g4, List.length_map, e2]
      refine callB_of _ _ _ _ _ _ _ _ (key13 0 (by decide) _) ?_
      rintro u H2 ⟨hu, rfl⟩
      cases hu
      simp -implicitDefEqProofs only [op, ef, cl, sq, reduceIte, Int.reduceLT, Int.reduceLE, Int.reduceBEq, Int.reduceBNe, Int.reduceEq, Nat.reduceAdd, Nat.reduceLeDiff, Nat.reduceLT, Nat.reduceEqDiff, S1]
      exact ⟨hx, .full, fun h => (by cases h), by rw [e1]; rfl⟩
    · have e1 : setOf m = keysN m 3 := by rw [setOf, if_neg hz]
      have e2 : ¬ (keysN m 3).length = 0 := by simpa using hz
      simp -implicitDefEqProofs only [op, ef, cl, sq, reduceIte, Int.reduceLT, Int.reduceLE, Int.reduceBEq, Int.reduceBNe, Int.reduceEq, Nat.reduceAdd, Nat.reduceLeDiff, Nat.reduceLT, Nat.reduceEqDiff, S1, g0, g3, g4, List.length_map, e2]
      exact ⟨hx, kw, by rw [e1]; exact hko, by rw [e1]⟩
theorem nan66 (s : ByteArray) (H : Heap) : W env (.call 66 [.str s]) H (Ret (.bool false) H) := by
  refine W.fnI rfl rfl rfl ?_
  simp -implicitDefEqProofs only [ir66, op, ef, cl, sq, reduceIte, Int.reduceLT, Int.reduceLE, Int.reduceBEq, Int.reduceBNe, Int.reduceEq, Nat.reduceAdd, Nat.reduceLeDiff, Nat.reduceLT, Nat.reduceEqDiff, S1, Bool.not_true]
theorem nan94 (s : ByteArray) (H : Heap) : W env (.call 94 [.str s]) H (Ret (.bool false) H) := by
  refine W.fnI rfl rfl rfl ?_
  simp -implicitDefEqProofs only [ir94, op, ef, cl, sq, reduceIte, Int.reduceLT, Int.reduceLE, Int.reduceBEq, Int.reduceBNe, Int.reduceEq, Nat.reduceAdd, Nat.reduceLeDiff, Nat.reduceLT, Nat.reduceEqDiff, S1, Bool.not_true]
theorem nan67 (n : Nat) (H : Heap) : W env (.call 67 [.int .u64 n]) H (Ret (.bool false) H) := by
  refine W.fnI rfl rfl rfl ?_
  simp -implicitDefEqProofs only [ir67, op, ef, cl, sq, reduceIte, Int.reduceLT, Int.reduceLE, Int.reduceBEq, Int.reduceBNe, Int.reduceEq, Nat.reduceAdd, Nat.reduceLeDiff, Nat.reduceLT, Nat.reduceEqDiff, S1]
theorem nan72 (n : Nat) (H : Heap) : W env (.call 72 [.int .u64 n]) H (Ret (.bool false) H) := by
  refine W.fnI rfl rfl rfl ?_
  simp -implicitDefEqProofs only [ir72, op, ef, cl, sq, reduceIte, Int.reduceLT, Int.reduceLE, Int.reduceBEq, Int.reduceBNe, Int.reduceEq, Nat.reduceAdd, Nat.reduceLeDiff, Nat.reduceLT, Nat.reduceEqDiff, S1]
def cmpS (a b : ByteArray) : Int := if strLt a b = true then -1 else if strLt b a = true then 1 else 0
def cmpN (a b : Nat) : Int := if a < b then -1 else if b < a then 1 else 0
theorem cmp52 (a b : ByteArray) (H : Heap) : W env (.call 52 [.str a, .str b]) H (Ret (.int .i64 (cmpS a b)) H) := by
  refine W.fnI rfl rfl rfl ?_
  simp -implicitDefEqProofs only [ir52, op, ef, cl, sq, reduceIte, Int.reduceLT, Int.reduceLE, Int.reduceBEq, Int.reduceBNe, Int.reduceEq, Nat.reduceAdd, Nat.reduceLeDiff, Nat.reduceLT, Nat.reduceEqDiff, S1]
  refine callB_of _ _ _ _ _ _ _ _ (nan66 a _) ?_
  rintro u H1 ⟨hu, rfl⟩
  cases hu
  simp -implicitDefEqProofs only [op, ef, cl, sq, reduceIte, Int.reduceLT, Int.reduceLE, Int.reduceBEq, Int.reduceBNe, Int.reduceEq, Nat.reduceAdd, Nat.reduceLeDiff, Nat.reduceLT, Nat.reduceEqDiff, S1]
  refine callB_of _ _ _ _ _ _ _ _ (nan66 b _) ?_
  rintro u H1 ⟨hu, rfl⟩
  cases hu
  cases h1 : strLt a b
  · cases h2 : strLt b a
    · simp -implicitDefEqProofs only [op, ef, cl, sq, reduceIte, Int.reduceLT, Int.reduceLE, Int.reduceBEq, Int.reduceBNe, Int.reduceEq, Nat.reduceAdd, Nat.reduceLeDiff, Nat.reduceLT, Nat.reduceEqDiff, S1, cmpS, h1, h2]
    · simp -implicitDefEqProofs only [op, ef, cl, sq, reduceIte, Int.reduceLT, Int.reduceLE, Int.reduceBEq, Int.reduceBNe, Int.reduceEq, Nat.reduceAdd, Nat.reduceLeDiff, Nat.reduceLT, Nat.reduceEqDiff, S1, cmpS, h1, h2]
  · simp -implicitDefEqProofs only [op, ef, cl, sq, reduceIte, Int.reduceLT, Int.reduceLE, Int.reduceBEq, Int.reduceBNe, Int.reduceEq, Nat.reduceAdd, Nat.reduceLeDiff, Nat.reduceLT, Nat.reduceEqDiff, S1, cmpS, h1]
theorem cmp53 (a b : Nat) (H : Heap) : W env (.call 53 [.int .u64 a, .int .u64 b]) H (Ret (.int .i64 (cmpN a b)) H) := by
  refine W.fnI rfl rfl rfl ?_
  simp -implicitDefEqProofs only [ir53, op, ef, cl, sq, reduceIte, Int.reduceLT, Int.reduceLE, Int.reduceBEq, Int.reduceBNe, Int.reduceEq, Nat.reduceAdd, Nat.reduceLeDiff, Nat.reduceLT, Nat.reduceEqDiff, S1]
  refine callB_of _ _ _ _ _ _ _ _ (nan67 a _) ?_
  rintro u H1 ⟨hu, rfl⟩
  cases hu
  simp -implicitDefEqProofs only [op, ef, cl, sq, reduceIte, Int.reduceLT, Int.reduceLE, Int.reduceBEq, Int.reduceBNe, Int.reduceEq, Nat.reduceAdd, Nat.reduceLeDiff, Nat.reduceLT, Nat.reduceEqDiff, S1]
  refine callB_of _ _ _ _ _ _ _ _ (nan67 b _) ?_
  rintro u H1 ⟨hu, rfl⟩
  cases hu
  by_cases h1 : a < b
  · simp -implicitDefEqProofs only [op, ef, cl, sq, reduceIte, Int.reduceLT, Int.reduceLE, Int.reduceBEq, Int.reduceBNe, Int.reduceEq, Nat.reduceAdd, Nat.reduceLeDiff, Nat.reduceLT, Nat.reduceEqDiff, S1, cmpN, h1]
  · by_cases h2 : b < a
    · simp -implicitDefEqProofs only [op, ef, cl, sq, reduceIte, Int.reduceLT, Int.reduceLE, Int.reduceBEq, Int.reduceBNe, Int.reduceEq, Nat.reduceAdd, Nat.reduceLeDiff, Nat.reduceLT, Nat.reduceEqDiff, S1, cmpN, h1, h2]
    · simp -implicitDefEqProofs only [op, ef, cl, sq, reduceIte, Int.reduceLT, Int.reduceLE, Int.reduceBEq, Int.reduceBNe, Int.reduceEq, Nat.reduceAdd, Nat.reduceLeDiff, Nat.reduceLT, Nat.reduceEqDiff, S1, cmpN, h1, h2]
theorem less91 (a b : ByteArray) (H : Heap) : W env (.call 91 [.str a, .str b]) H (Ret (.bool (strLt a b)) H) := by
  refine W.fnI rfl rfl rfl ?_
  simp -implicitDefEqProofs only [ir91, op, ef, cl, sq, reduceIte, Int.reduceLT, Int.reduceLE, Int.reduceBEq, Int.reduceBNe, Int.reduceEq, Nat.reduceAdd, Nat.reduceLeDiff, Nat.reduceLT, Nat.reduceEqDiff, S1]
  refine callB_of _ _ _ _ _ _ _ _ (nan66 a _) ?_
  rintro u H1 ⟨hu, rfl⟩
  cases hu
  simp -implicitDefEqProofs only [op, ef, cl, sq, reduceIte, Int.reduceLT, Int.reduceLE, Int.reduceBEq, Int.reduceBNe, Int.reduceEq, Nat.reduceAdd, Nat.reduceLeDiff, Nat.reduceLT, Nat.reduceEqDiff, S1]
theorem less71 (a b : Nat) (H : Heap) : W env (.call 71 [.int .u64 a, .int .u64 b]) H (Ret (.bool (decide (a < b))) H) := by
  refine W.fnI rfl rfl rfl ?_
  simp -implicitDefEqProofs only [ir71, op, ef, cl, sq, reduceIte, Int.reduceLT, Int.reduceLE, Int.reduceBEq, Int.reduceBNe, Int.reduceEq, Nat.reduceAdd, Nat.reduceLeDiff, Nat.reduceLT, Nat.reduceEqDiff, S1]
  refine callB_of _ _ _ _ _ _ _ _ (nan67 a _) ?_
  rintro u H1 ⟨hu, rfl⟩
  cases hu
  simp -implicitDefEqProofs only [op, ef, cl, sq, reduceIte, Int.reduceLT, Int.reduceLE, Int.reduceBEq, Int.reduceBNe, Int.reduceEq, Nat.reduceAdd, Nat.reduceLeDiff, Nat.reduceLT, Nat.reduceEqDiff, S1]
def or2 (x y : Int) : Int := if x = 0 then y else x
theorem or51 (x y : Int) (H : Heap) : W env (.call 51 [.sl .full [[.int .i64 x], [.int .i64 y]]]) H (Ret (.int .i64 (or2 x y)) H) := by
  refine W.fnI rfl rfl rfl ?_
  simp -implicitDefEqProofs only [ir51, op, ef, cl, sq, reduceIte, Int.reduceLT, Int.reduceLE, Int.reduceBEq, Int.reduceBNe, Int.reduceEq, Nat.reduceAdd, Nat.reduceLeDiff, Nat.reduceLT, Nat.reduceEqDiff, S1]
  refine W.loopI (fun (i : Nat) R H' => H' = H ∧ R 3 = .int .i64 0 ∧ R 6 = .sl .full [[.int .i64 x], [.int .i64 y]] ∧ R 7 = .int .i64 2 ∧ R 8 = .int .i64 i ∧ i ≤ 2 ∧ (1 ≤ i → x = 0) ∧ (2 ≤ i → y = 0)) (fun i => 2 - i) 0 ⟨rfl, rfl, rfl, rfl, rfl, by omega, fun h => by omega, fun h => by omega⟩ ?_
  rintro i R _ ⟨rfl, h3, h6, h7, h8, hi, h1, h2⟩
  have hc : i = 0 ∨ i = 1 ∨ i = 2 := by omega
  have i0 : iadT 1 0 (.sl .full [[T.int .i64 x], [.int .i64 y]]) = some (.iptr [.int .i64 x]) := rfl
  have i1 : iadT 1 1 (.sl .full [[T.int .i64 x], [.int .i64 y]]) = some (.iptr [.int .i64 y]) := rfl
  have n0 : natOf (.int .i64 ((0 : Nat) : Int)) = some 0 := rfl
  have n1 : natOf (.int .i64 ((1 : Nat) : Int)) = some 1 := rfl
  have l0 : ((0 : Nat) : Int) < 2 := by decide
  have l1 : ((1 : Nat) : Int) < 2 := by decide
  have l2 : ¬ ((2 : Nat) : Int) < 2 := by decide
  have w0 : IntKind.i64.wrap (((0 : Nat) : Int) + 1) = ((1 : Nat) : Int) := by decide
  have w1 : IntKind.i64.wrap (((1 : Nat) : Int) + 1) = ((2 : Nat) : Int) := by decide
  rcases hc with rfl | rfl | rfl
  · by_cases hx : x = 0
    · subst hx
      simp -implicitDefEqProofs only [op, ef, cl, sq, reduceIte, Int.reduceLT, Int.reduceLE, Int.reduceBEq, Int.reduceBNe, Int.reduceEq, Nat.reduceAdd, Nat.reduceLeDiff, Nat.reduceLT, Nat.reduceEqDiff, S1, h3, h6, h7, h8, l0, i0, n0, w0]
      exact ⟨1, by decide, rfl, by omega⟩
    · have hx' : (x != 0) = true := by simpa using hx
      simp -implicitDefEqProofs only [op, ef, cl, sq, reduceIte, Int.reduceLT, Int.reduceLE, Int.reduceBEq, Int.reduceBNe, Int.reduceEq, Nat.reduceAdd, Nat.reduceLeDiff, Nat.reduceLT, Nat.reduceEqDiff, S1, h3, h6, h7, h8, l0, i0, n0, hx', or2, hx]
  · have hx := h1 (by decide)
    subst hx
    by_cases hy : y = 0
    · subst hy
      simp -implicitDefEqProofs only [op, ef, cl, sq, reduceIte, Int.reduceLT, Int.reduceLE, Int.reduceBEq, Int.reduceBNe, Int.reduceEq, Nat.reduceAdd, Nat.reduceLeDiff, Nat.reduceLT, Nat.reduceEqDiff, S1, h3, h6, h7, h8, l1, i1, n1, w1]
      exact ⟨2, by decide, rfl, by omega⟩
    · have hy' : (y != 0) = true := by simpa using hy
      simp -implicitDefEqProofs only [op, ef, cl, sq, reduceIte, Int.reduceLT, Int.reduceLE, Int.reduceBEq, Int.reduceBNe, Int.reduceEq, Nat.reduceAdd, Nat.reduceLeDiff, Nat.reduceLT, Nat.reduceEqDiff, S1, h3, h6, h7, h8, l1, i1, n1, hy', or2]
  · have hx := h1 (by decide)
    have hy := h2 (by decide)
    subst hx hy
    simp -implicitDefEqProofs only [op, ef, cl, sq, reduceIte, Int.reduceLT, Int.reduceLE, Int.reduceBEq, Int.reduceBNe, Int.reduceEq, Nat.reduceAdd, Nat.reduceLeDiff, Nat.reduceLT, Nat.reduceEqDiff, S1, h3, h6, h7, h8, l2, or2]
abbrev Nm := ByteArray × Nat
def eN (n : Nm) : List T := [.str n.1, .int .u64 n.2]
def kN (n : Nm) : T := .agg (eN n)
theorem kNok : KeyOk (.st [.str, .int]) kN := ⟨fun _ => rfl, fun a b => by
  simp -implicitDefEqProofs only [kN, eN, keyEq, eqCells, eqSc, strEq_eq, if_true, deq]
  congr 1
  rw [Bool.eq_iff_iff]
  simp [Prod.ext_iff]⟩
def cmpM (a b : Nm) : Int := or2 (cmpS a.1 b.1) (cmpN a.2 b.2)
theorem byName36 (a b : Nm) (H : Heap) : W env (.call 36 [kN a, kN b]) H (RetG (.int .i64 (cmpM a b)) H) := by
  refine W.fnI rfl rfl rfl ?_
  simp -implicitDefEqProofs only [ir36, kN, eN, op, ef, cl, sq, reduceIte, Int.reduceLT, Int.reduceLE, Int.reduceBEq, Int.reduceBNe, Int.reduceEq, Nat.reduceAdd, Nat.reduceLeDiff, Nat.reduceLT, Nat.reduceEqDiff, S1, S2, S3]
  refine callB_of _ _ _ _ _ _ _ _ (cmp52 _ _ _) ?_
  rintro u H1 ⟨hu, rfl⟩
  cases hu
  simp -implicitDefEqProofs only [op, ef, cl, sq, reduceIte, Int.reduceLT, Int.reduceLE, Int.reduceBEq, Int.reduceBNe, Int.reduceEq, Nat.reduceAdd, Nat.reduceLeDiff, Nat.reduceLT, Nat.reduceEqDiff, S1, S2, S3]
  refine callB_of _ _ _ _ _ _ _ _ (cmp53 _ _ _) ?_
  rintro u H1 ⟨hu, rfl⟩
  cases hu
  simp -implicitDefEqProofs only [op, ef, cl, sq, reduceIte, Int.reduceLT, Int.reduceLE, Int.reduceBEq, Int.reduceBNe, Int.reduceEq, Nat.reduceAdd, Nat.reduceLeDiff, Nat.reduceLT, Nat.reduceEqDiff, S1, S2, S3]
  refine callB_of _ _ _ _ _ _ _ _ (or51 _ _ _) ?_
  rintro u H1 ⟨hu, rfl⟩
  cases hu
  simp -implicitDefEqProofs only [op, ef, cl, sq, reduceIte, Int.reduceLT, Int.reduceLE, Int.reduceBEq, Int.reduceBNe, Int.reduceEq, Nat.reduceAdd, Nat.reduceLeDiff, Nat.reduceLT, Nat.reduceEqDiff, S1]
  exact ⟨rfl, (Ext.rfl'.app _).app _⟩
end Go.Proofs.Ytbkgokabcnogdaa.St
end

section
namespace Go.Proofs.Ytbkgokabcnogdaa.St
open Go.Rmp Go.Proofs.Ytbkgokabcnogdaa.Ir
set_option maxRecDepth 10000
theorem half (i j : Nat) (h : i + j < 9223372036854775807) : IntKind.i64.wrap ((IntKind.u64.wrap (IntKind.i64.wrap ((i : Int) + (j : Int)))).fdiv (2 ^ (min (1 : Int).toNat IntKind.u64.bits))) = (((i + j) / 2 : Nat) : Int) := by
  rw [wrap64 (n := (i : Int) + j) (by omega), wrapu64 (n := (i : Int) + j) (by omega)]
  have e : (2 : Int) ^ (min (1 : Int).toNat IntKind.u64.bits) = 2 := by decide
  rw [e, Int.fdiv_eq_ediv_of_nonneg _ (by omega), wrap64 (by omega)]
  omega
def memB (l : List ByteArray) (x : ByteArray) : Bool := l.any fun y => decide (y = x)
theorem memB_iff {l : List ByteArray} {x : ByteArray} : memB l x = true ↔ x ∈ l := by simp [memB]
theorem memB_no {l : List ByteArray} {x : ByteArray} : memB l x = false ↔ x ∉ l := by rw [← memB_iff]; simp
def OkKey (l : List ByteArray) (i : Nat) : Prop := ∀ x, l[i]? = some x → x.size ≤ 65535 ∧ (0 < i → ∀ y, l[i-1]? = some y → strLt y x = true)
def GoodKeys (l : List ByteArray) : Prop := (∀ i, i < l.length → OkKey l i) ∧ 1 ≤ l.length ∧ l.length ≤ 1024
def goodB (l : List ByteArray) : Bool := rises l && l.all (fun x => decide (x.size ≤ 65535)) && decide (1 ≤ l.length) && decide (l.length ≤ 1024)
theorem goodB_iff {l : List ByteArray} : goodB l = true ↔ GoodKeys l := by
  simp -implicitDefEqProofs only [goodB, Bool.and_eq_true, decide_eq_true_eq, List.all_eq_true, GoodKeys, rises_iff]
  constructor
  · rintro ⟨⟨⟨h1, h2⟩, h3⟩, h4⟩
    refine ⟨fun i hi x hx => ⟨h2 x (List.mem_of_getElem? hx), fun h0 y hy => h1 (i - 1) y x hy (by rw [show i - 1 + 1 = i by omega]; exact hx)⟩, h3, h4⟩
  · rintro ⟨h1, h3, h4⟩
    refine ⟨⟨⟨fun i a b ha hb => ?_, fun x hx => ?_⟩, h3⟩, h4⟩
    · exact (h1 (i + 1) (List.getElem?_eq_some_iff.1 hb).1 b hb).2 (by omega) a (by simpa using ha)
    · obtain ⟨i, hi, rfl⟩ := List.getElem_of_mem hx
      exact (h1 i hi _ (List.getElem?_eq_getElem hi)).1
theorem goodB_no {l : List ByteArray} (h : ¬ GoodKeys l) : goodB l = false := by
  cases e : goodB l with
  | false => rfl
  | true => exact absurd (goodB_iff.1 e) h
theorem GoodKeys.rises {l : List ByteArray} (h : GoodKeys l) : rises l = true := (rises_iff l).2 fun i a b ha hb => by
  have := (h.1 (i + 1) (List.getElem?_eq_some_iff.1 hb).1 b hb).2 (by omega) a (by simpa using ha)
  exact this
theorem rising57 (k : SK) (l : List ByteArray) (H : Heap) (hl : l.length < 9223372036854775807) : W env (.call 57 [.sl k (l.map eS)]) H (fun o H' => o = .val (.bool (goodB l)) ∧ H' = H) := by
  refine W.fnI rfl rfl rfl ?_
  simp -implicitDefEqProofs only [ir57, op, ef, cl, sq, reduceIte, Int.reduceLT, Int.reduceLE, Int.reduceBEq, Int.reduceBNe, Int.reduceEq, Nat.reduceAdd, Nat.reduceLeDiff, Nat.reduceLT, Nat.reduceEqDiff, S1, List.length_map]
  refine W.loopI (fun (i : Nat) R H' => H' = H ∧ R 0 = .sl k (l.map eS) ∧ R 5 = .sl k (l.map eS) ∧ R 6 = .int .i64 l.length ∧ R 7 = .int .i64 i ∧ i ≤ l.length ∧ ∀ j, j < i → OkKey l j) (fun i => l.length - i) 0 ⟨rfl, rfl, rfl, rfl, rfl, Nat.zero_le _, fun j h => by omega⟩ ?_
  rintro i R _ ⟨rfl, h0, h5, h6, h7, hi, hok⟩
  by_cases hlt : i < l.length
  · obtain ⟨x, hx⟩ := getP hlt
    have ws := wrap_succ (show i < 9223372036854775807 by omega)
    have hia := iadX (e := eS) (n := 1) (fun _ => rfl) (by decide) (k := k) hx
    have bad : ¬ OkKey l i → goodB l = false := fun hb => goodB_no fun h => hb (h.1 i hlt)
    by_cases hsz : 65535 < x.size
    · have := bad fun h => by have := (h x hx).1; omega
      simp -implicitDefEqProofs only [op, ef, cl, sq, reduceIte, Int.reduceLT, Int.reduceLE, Int.reduceBEq, Int.reduceBNe, Int.reduceEq, Nat.reduceAdd, Nat.reduceLeDiff, Nat.reduceLT, Nat.reduceEqDiff, S1, h0, h5, h6, h7, hlt, natOf_nat, hia, eS, hsz, this]
    · by_cases hi0 : 0 < i
      · obtain ⟨y, hy⟩ := getP (l := l) (i := i - 1) (by omega)
        have wp := wrap_pred (show i < 9223372036854775807 by omega) hi0
        have hiy := iadX (e := eS) (n := 1) (fun _ => rfl) (by decide) (k := k) hy
        cases hc : strLt y x
        · have := bad fun h => by have := (h x hx).2 hi0 y hy; rw [hc] at this; cases this
          simp -implicitDefEqProofs only [op, ef, cl, sq, reduceIte, Int.reduceLT, Int.reduceLE, Int.reduceBEq, Int.reduceBNe, Int.reduceEq, Nat.reduceAdd, Nat.reduceLeDiff, Nat.reduceLT, Nat.reduceEqDiff, S1, h0, h5, h6, h7, hlt, natOf_nat, hia, hiy, eS, hsz, hi0, wp, hc, this]
        · simp -implicitDefEqProofs only [op, ef, cl, sq, reduceIte, Int.reduceLT, Int.reduceLE, Int.reduceBEq, Int.reduceBNe, Int.reduceEq, Nat.reduceAdd, Nat.reduceLeDiff, Nat.reduceLT, Nat.reduceEqDiff, S1, h0, h5, h6, h7, hlt, natOf_nat, hia, hiy, eS, hsz, hi0, wp, hc, ws]
          refine ⟨i + 1, by omega, rfl, by omega, fun j hj => ?_⟩
          by_cases e : j = i
          · subst e; intro x' hx'; rw [hx] at hx'; cases hx'
            exact ⟨by omega, fun _ y' hy' => by rw [hy] at hy'; cases hy'; exact hc⟩
          · exact hok j (by omega)
      · simp -implicitDefEqProofs only [op, ef, cl, sq, reduceIte, Int.reduceLT, Int.reduceLE, Int.reduceBEq, Int.reduceBNe, Int.reduceEq, Nat.reduceAdd, Nat.reduceLeDiff, Nat.reduceLT, Nat.reduceEqDiff, S1, h0, h5, h6, h7, hlt, natOf_nat, hia, eS, hsz, hi0, ws]
        refine ⟨i + 1, by omega, rfl, by omega, fun j hj => ?_⟩
        by_cases e : j = i
        · subst e; intro x' hx'; rw [hx] at hx'; cases hx'
          exact ⟨by omega, fun h => absurd h hi0⟩
        · exact hok j (by omega)
  · have hil : i = l.length := by omega
    subst hil
    by_cases h1 : 1 ≤ l.length
    · have e : goodB l = decide (l.length ≤ 1024) := by
        rw [Bool.eq_iff_iff, goodB_iff]; simp -implicitDefEqProofs only [decide_eq_true_eq]
        exact ⟨fun h => h.2.2, fun h => ⟨hok, h1, h⟩⟩
      simp -implicitDefEqProofs only [op, ef, cl, sq, reduceIte, Int.reduceLT, Int.reduceLE, Int.reduceBEq, Int.reduceBNe, Int.reduceEq, Nat.reduceAdd, Nat.reduceLeDiff, Nat.reduceLT, Nat.reduceEqDiff, S1, h0, h5, h6, h7, hlt, List.length_map, h1, e]
    · have e : goodB l = false := goodB_no fun h => h1 h.2.1
      simp -implicitDefEqProofs only [op, ef, cl, sq, reduceIte, Int.reduceLT, Int.reduceLE, Int.reduceBEq, Int.reduceBNe, Int.reduceEq, Nat.reduceAdd, Nat.reduceLeDiff, Nat.reduceLT, Nat.reduceEqDiff, S1, h0, h5, h6, h7, hlt, List.length_map, h1, e]
theorem bs70 (k : SK) (l : List ByteArray) (x : ByteArray) (H : Heap) (hl : l.length < 4611686018427387903) (hr : rises l = true) :
    W env (.call 70 [.sl k (l.map eS), .str x]) H (fun o H' => ∃ i : Nat, o = .val (.tup [.int .i64 i, .bool (memB l x)]) ∧ H' = H) := by
  refine W.fnI rfl rfl rfl ?_
  simp -implicitDefEqProofs only [ir70, op, ef, cl, sq, reduceIte, Int.reduceLT, Int.reduceLE, Int.reduceBEq, Int.reduceBNe, Int.reduceEq, Nat.reduceAdd, Nat.reduceLeDiff, Nat.reduceLT, Nat.reduceEqDiff, S1, List.length_map]
  refine W.loopI (fun (s : Nat × Nat) R H' => H' = H ∧ R 0 = .sl k (l.map eS) ∧ R 1 = .str x ∧ R 6 = .int .i64 l.length ∧ R 7 = .int .i64 s.1 ∧ R 8 = .int .i64 s.2 ∧ s.1 ≤ s.2 ∧ s.2 ≤ l.length ∧ (∀ p a, p < s.1 → l[p]? = some a → strLt a x = true) ∧ ∀ p a, s.2 ≤ p → l[p]? = some a → strLt a x = false)
    (fun s => s.2 - s.1) (0, l.length) ⟨rfl, rfl, rfl, rfl, rfl, rfl, Nat.zero_le _, Nat.le_refl _, fun p a h => by omega, fun p a h ha => by rw [List.getElem?_eq_none h] at ha; cases ha⟩ ?_
  rintro ⟨i, j⟩ R _ ⟨rfl, h0, h1, h6, h7, h8, hij, hjn, hlo, hhi⟩
  simp -implicitDefEqProofs only [op, ef, cl, sq, reduceIte, Int.reduceLT, Int.reduceLE, Int.reduceBEq, Int.reduceBNe, Int.reduceEq, Nat.reduceAdd, Nat.reduceLeDiff, Nat.reduceLT, Nat.reduceEqDiff, S1, h0, h1, h6, h7, h8, List.length_map]
  by_cases hlt : i < j
  · obtain ⟨y, hy⟩ := getP (l := l) (i := (i + j) / 2) (by omega)
    have hia := iadX (e := eS) (n := 1) (fun _ => rfl) (by decide) (k := k) hy
    simp -implicitDefEqProofs only [hlt, op, ef, cl, sq, reduceIte, Int.reduceLT, Int.reduceLE, Int.reduceBEq, Int.reduceBNe, Int.reduceEq, Nat.reduceAdd, Nat.reduceLeDiff, Nat.reduceLT, Nat.reduceEqDiff, S1, h0, h1, h6, h7, h8, half i j (by omega), hia, eS]
    refine callB_of _ _ _ _ _ _ _ _ (less91 y x _) ?_
    rintro v H' ⟨hv, rfl⟩
    cases hv
    simp -implicitDefEqProofs only [op, ef, cl, sq, reduceIte, Int.reduceLT, Int.reduceLE, Int.reduceBEq, Int.reduceBNe, Int.reduceEq, Nat.reduceAdd, Nat.reduceLeDiff, Nat.reduceLT, Nat.reduceEqDiff, S1, h0, h1, h6, h7, h8]
    cases hc : strLt y x
    · simp -implicitDefEqProofs only [op, ef, cl, sq, reduceIte, Int.reduceLT, Int.reduceLE, Int.reduceBEq, Int.reduceBNe, Int.reduceEq, Nat.reduceAdd, Nat.reduceLeDiff, Nat.reduceLT, Nat.reduceEqDiff, S1, h0, h1, h6, h7, h8]
      refine ⟨(i, (i + j) / 2), by omega, rfl, rfl, by omega, by omega, hlo, fun p a hp ha => ?_⟩
      by_cases e : p = (i + j) / 2
      · subst e; rw [hy] at ha; cases ha; exact hc
      · cases hh : strLt a x with
        | false => rfl
        | true => rw [lt_trans' (rises_lt hr p ((i + j) / 2) y a (by omega) hy ha) hh] at hc; cases hc
    · simp -implicitDefEqProofs only [op, ef, cl, sq, reduceIte, Int.reduceLT, Int.reduceLE, Int.reduceBEq, Int.reduceBNe, Int.reduceEq, Nat.reduceAdd, Nat.reduceLeDiff, Nat.reduceLT, Nat.reduceEqDiff, S1, h0, h1, h6, h7, h8, wrap_succ (show (i + j) / 2 < 9223372036854775807 by omega)]
      refine ⟨((i + j) / 2 + 1, j), by omega, rfl, rfl, by omega, by omega, fun p a hp ha => ?_, hhi⟩
      by_cases e : p = (i + j) / 2
      · subst e; rw [hy] at ha; cases ha; exact hc
      · exact lt_trans' (rises_lt hr ((i + j) / 2) p a y (by omega) ha hy) hc
  · have hij' : i = j := by simp only at hij; omega
    subst hij'
    by_cases hin : i < l.length
    · obtain ⟨y, hy⟩ := getP hin
      have hia := iadX (e := eS) (n := 1) (fun _ => rfl) (by decide) (k := k) hy
      by_cases hyx : y = x
      · have : memB l x = true := memB_iff.2 (hyx ▸ List.mem_of_getElem? hy)
        simp -implicitDefEqProofs only [op, ef, cl, sq, reduceIte, Int.reduceLT, Int.reduceLE, Int.reduceBEq, Int.reduceBNe, Int.reduceEq, Nat.reduceAdd, Nat.reduceLeDiff, Nat.reduceLT, Nat.reduceEqDiff, S1, h0, h1, h6, h7, h8, List.length_map, hlt, hin, hia, eS, hyx, this]
        exact ⟨i, rfl⟩
      · have : memB l x = false := memB_no.2 fun hm => by
          obtain ⟨p, hp, e⟩ := List.getElem_of_mem hm
          have hpx : l[p]? = some x := by rw [List.getElem?_eq_getElem hp, e]
          rcases Nat.lt_trichotomy p i with h | h | h
          · have := hlo p x h hpx; rw [lt_irr] at this; cases this
          · subst h; rw [hy] at hpx; cases hpx; exact hyx rfl
          · have a1 := hhi i y (Nat.le_refl _) hy
            rw [rises_lt hr p i y x h hy hpx] at a1; cases a1
        simp -implicitDefEqProofs only [op, ef, cl, sq, reduceIte, Int.reduceLT, Int.reduceLE, Int.reduceBEq, Int.reduceBNe, Int.reduceEq, Nat.reduceAdd, Nat.reduceLeDiff, Nat.reduceLT, Nat.reduceEqDiff, S1, h0, h1, h6, h7, h8, List.length_map, hlt, hin, hia, eS, hyx]
        refine callB_of _ _ _ _ _ _ _ _ (nan94 y _) ?_
        rintro v H' ⟨hv, rfl⟩
        cases hv
        simp -implicitDefEqProofs only [op, ef, cl, sq, reduceIte, Int.reduceLT, Int.reduceLE, Int.reduceBEq, Int.reduceBNe, Int.reduceEq, Nat.reduceAdd, Nat.reduceLeDiff, Nat.reduceLT, Nat.reduceEqDiff, S1, this]
        exact ⟨i, rfl⟩
    · have : memB l x = false := memB_no.2 fun hm => by
        obtain ⟨p, hp, e⟩ := List.getElem_of_mem hm
        have hpx : l[p]? = some x := by rw [List.getElem?_eq_getElem hp, e]
        have := hlo p x (by omega) hpx; rw [lt_irr] at this; cases this
      simp -implicitDefEqProofs only [op, ef, cl, sq, reduceIte, Int.reduceLT, Int.reduceLE, Int.reduceBEq, Int.reduceBNe, Int.reduceEq, Nat.reduceAdd, Nat.reduceLeDiff, Nat.reduceLT, Nat.reduceEqDiff, S1, h0, h1, h6, h7, h8, List.length_map, hlt, hin, this]
      exact ⟨i, rfl⟩
theorem has58 (k : SK) (l : List ByteArray) (x : ByteArray) (H : Heap) (hl : l.length < 4611686018427387903) (hr : rises l = true) : W env (.call 58 [.sl k (l.map eS), .str x]) H (Ret (.bool (memB l x)) H) := by
  refine W.fnI rfl rfl rfl ?_
  simp -implicitDefEqProofs only [ir58, op, ef, cl, sq, reduceIte, Int.reduceLT, Int.reduceLE, Int.reduceBEq, Int.reduceBNe, Int.reduceEq, Nat.reduceAdd, Nat.reduceLeDiff, Nat.reduceLT, Nat.reduceEqDiff, S1]
  refine callB_of _ _ _ _ _ _ _ _ (bs70 k l x _ hl hr) ?_
  rintro v H' ⟨i, hv, rfl⟩
  cases hv
  simp -implicitDefEqProofs only [op, ef, cl, sq, reduceIte, Int.reduceLT, Int.reduceLE, Int.reduceBEq, Int.reduceBNe, Int.reduceEq, Nat.reduceAdd, Nat.reduceLeDiff, Nat.reduceLT, Nat.reduceEqDiff, S1]
end Go.Proofs.Ytbkgokabcnogdaa.St
end
