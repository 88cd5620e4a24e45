/- Part of a proof of a law of this seat: the machine of plain values, its simulation, and the contracts of the functions that the law reaches. Conditions: none beyond the given row. -/
import Derived.Test.YtpbilghnfldmiaaM1
import Derived.Test.YtpbilghnfldmiaaProg
import Derived.KernelRfl
import Derived.Test.YtpbilghnfldmiaaRows
import Derived.WalkKit
import Derived.ProofKit
import Derived.OpenShut
import Derived.JoinedCond
import Derived.ChangeBears
set_option linter.unusedSimpArgs false
set_option linter.unusedVariables false
set_option maxHeartbeats 4000000
/-! text RmpV -/
section
/- HEAPS THAT GROW: lookups behind appends and stores; maps from texts and numbers. -/
namespace Go.Rmp
/-- what is said of a heap, kept whole -/
def At (H : Heap) (P : Heap → Prop) : Prop := P H
theorem At.i {H : Heap} {P : Heap → Prop} (h : P H) : At H P := h
def Ext (H H' : Heap) : Prop := ∃ m, H' = H ++ m
theorem Ext.rfl' {H : Heap} : Ext H H := ⟨[], by simp⟩
theorem Ext.trans {H H' H'' : Heap} (h : Ext H H') (h' : Ext H' H'') : Ext H H'' := by
  obtain ⟨a, rfl⟩ := h; obtain ⟨b, rfl⟩ := h'; exact ⟨a ++ b, by simp⟩
theorem Ext.app {H H' : Heap} (h : Ext H H') (l : Heap) : Ext H (H' ++ l) := h.trans ⟨l, rfl⟩
theorem Ext.set {H H' : Heap} (h : Ext H H') {b : Nat} (hb : H.length ≤ b) (x : B) : Ext H (H'.set b x) := by
  obtain ⟨m, rfl⟩ := h
  exact ⟨m.set (b - H.length) x, by rw [List.set_append_right _ _ hb]⟩
theorem Ext.get {H H' : Heap} (h : Ext H H') {b : Nat} {x : B} (hx : H[b]? = some x) : H'[b]? = some x := by
  obtain ⟨m, rfl⟩ := h
  have := (List.getElem?_eq_some_iff.1 hx).1
  rw [List.getElem?_append_left this]; exact hx
theorem Ext.len {H H' : Heap} (h : Ext H H') : H.length ≤ H'.length := by obtain ⟨m, rfl⟩ := h; simp
theorem glt {H : Heap} {b : Nat} {x : B} (hx : H[b]? = some x) : b < H.length := (List.getElem?_eq_some_iff.1 hx).1
/-- it returns v; the heap has grown -/
theorem retg_ext {v v' : T} {H H' : Heap} (h : Ext H H') : RetG v H (.val v') H' = (v' = v) := by
  simp only [RetG, Out.val.injEq, eq_iff_iff]; exact ⟨fun x => x.1, fun x => ⟨x, h⟩⟩
theorem g_tail {H l : Heap} {x : B} {b : Nat} (h : b = H.length) : (H ++ x :: l)[b]? = some x := by subst h; simp
theorem g_app {H l : Heap} {b : Nat} (h : b < H.length) : (H ++ l)[b]? = H[b]? := by rw [List.getElem?_append_left h]
theorem g_eq {H : Heap} {x : B} {b : Nat} (h : b < H.length) : (H.set b x)[b]? = some x := by simp [h]
theorem g_ne {H : Heap} {x : B} {b c : Nat} (h : b ≠ c) : (H.set b x)[c]? = H[c]? := by simp [h]
theorem s_tail {H l : Heap} {x y : B} {b : Nat} (h : b = H.length) : (H ++ x :: l).set b y = H ++ y :: l := by subst h; simp
theorem s_app {H l : Heap} {x : B} {b : Nat} (h : b < H.length) : (H ++ l).set b x = H.set b x ++ l := by rw [List.set_append_left _ _ h]
theorem l_app {H l : Heap} {b : Nat} (h : b < H.length) : (b < (H ++ l).length) = True := by simp; omega
theorem l_set {H : Heap} {x : B} {b c : Nat} : (b < (H.set c x).length) = (b < H.length) := by simp
theorem e_set {H : Heap} {x : B} {b c : Nat} : (b = (H.set c x).length) = (b = H.length) := by simp

def ldcB (n off : Nat) : Option B → Option (List T)
  | some (.cells cs) => if off + n ≤ cs.length then some ((cs.drop off).take n) else none
  | _ => none
theorem ldc_ptr (H : Heap) (n b off : Nat) : ldc H n (.ptr b off) = ldcB n off H[b]? := by
  simp only [ldc, ldcB]; rfl
theorem ldc_iptr (H : Heap) (n : Nat) (cs : List T) : ldc H n (.iptr cs) = if n ≤ cs.length then some (cs.take n) else none := rfl
theorem ldcB_c (n off : Nat) (cs : List T) : ldcB n off (some (.cells cs)) = if off + n ≤ cs.length then some ((cs.drop off).take n) else none := rfl
def stcB (H : Heap) (b : Nat) (vs : List T) (off : Nat) : Option B → Option Heap
  | some (.cells cs) => if off + vs.length ≤ cs.length then some (H.set b (.cells (cs.take off ++ vs ++ cs.drop (off + vs.length)))) else none
  | _ => none
theorem stc_ptr (H : Heap) (vs : List T) (b off : Nat) : stc H vs (.ptr b off) = stcB H b vs off H[b]? := by
  simp only [stc, stcB]; rfl
theorem stcB_c (H : Heap) (b : Nat) (vs : List T) (off : Nat) (cs : List T) : stcB H b vs off (some (.cells cs)) = if off + vs.length ≤ cs.length then some (H.set b (.cells (cs.take off ++ vs ++ cs.drop (off + vs.length)))) else none := rfl
theorem hset_tail (H l : Heap) (x y : B) : (H ++ x :: l).set H.length y = H ++ y :: l := s_tail rfl
theorem hget_tail (H l : Heap) (x : B) : (H ++ x :: l)[H.length]? = some x := g_tail rfl
theorem fad_ptr (off b o : Nat) : fadT off (.ptr b o) = some (.ptr b (o + off)) := rfl
/-- a loop that is left by one exit, at a place that is told once -/
def exitQ (id : Nat) (P : Regs → Heap → Prop) (Q : Out → Heap → Prop) : Out → Heap → Prop
  | .ex (.exit i) R, H => if i = id then P R H else Q (.ex (.exit i) R) H
  | o, H => Q o H
theorem ex_n (id : Nat) (P : Regs → Heap → Prop) (Q : Out → Heap → Prop) (R : Regs) (H : Heap) : exitQ id P Q (.ex .normal R) H = Q (.ex .normal R) H := rfl
theorem ex_r (id : Nat) (P : Regs → Heap → Prop) (Q : Out → Heap → Prop) (R : Regs) (H : Heap) : exitQ id P Q (.ex .ret R) H = Q (.ex .ret R) H := rfl
theorem ex_e (id i : Nat) (P : Regs → Heap → Prop) (Q : Out → Heap → Prop) (R : Regs) (H : Heap) : exitQ id P Q (.ex (.exit i) R) H = if i = id then P R H else Q (.ex (.exit i) R) H := rfl
theorem W.loopE {E : Env} {α : Type} {a : C} {R : Regs} {H : Heap} {Q : Out → Heap → Prop} (id : Nat) (I : α → Regs → Heap → Prop) (μ : α → Nat) (x : α) (P : Regs → Heap → Prop) (h0 : I x R H)
    (step : ∀ x R H, I x R H → wpC E a R H (thenQ (fun R' H' => ∃ y, μ y < μ x ∧ I y R' H') (exitQ id P Q))) (rest : ∀ R H, P R H → Q (.ex (.exit id) R) H) : W E (.code (.loop a) R) H Q :=
  W.use (W.loopI I μ x h0 step) fun o H' h => by
    cases o with
    | ex e R' => cases e with
      | exit i => simp only [exitQ] at h; split at h; rename_i e; subst e; exact rest _ _ h; exact h
      | normal => exact h
      | ret => exact h
    | val v => exact h
/-! maps by their keys -/
/-- a list of pairs, as a map: looked up; written -/
def mlook {α β : Type} [DecidableEq α] (es : List (α × β)) (k : α) : Option β := (es.find? fun e => decide (k = e.1)).map (·.2)
def mput {α β : Type} [DecidableEq α] (es : List (α × β)) (k : α) (v : β) : List (α × β) :=
  match es.findIdx? fun e => decide (k = e.1) with
  | some i => es.set i (k, v)
  | none => es ++ [(k, v)]
def mcut {α β : Type} [DecidableEq α] (es : List (α × β)) (k : α) : List (α × β) :=
  match es.findIdx? fun e => decide (k = e.1) with
  | some i => es.eraseIdx i
  | none => es
section
variable {α β : Type} [DecidableEq α]
theorem mlook_nil (k : α) : mlook ([] : List (α × β)) k = none := rfl
theorem mlook_cons (e : α × β) (es : List (α × β)) (k : α) : mlook (e :: es) k = if k = e.1 then some e.2 else mlook es k := by
  unfold mlook; rw [List.find?_cons]; by_cases h : k = e.1 <;> simp [h]
theorem mput_nil (k : α) (v : β) : mput [] k v = [(k, v)] := rfl
theorem mput_cons (e : α × β) (es : List (α × β)) (k : α) (v : β) : mput (e :: es) k v = if k = e.1 then (k, v) :: es else e :: mput es k v := by
  unfold mput; rw [List.findIdx?_cons]
  by_cases h : k = e.1
  · simp [h]
  · simp only [h, decide_false, if_false, Bool.false_eq_true]
    cases List.findIdx? (fun e => decide (k = e.1)) es <;> simp
theorem mlook_put (es : List (α × β)) (k k' : α) (v : β) : mlook (mput es k v) k' = if k' = k then some v else mlook es k' := by
  induction es with
  | nil => rw [mput_nil, mlook_cons]
  | cons e es ih =>
    rw [mput_cons]
    by_cases h : k = e.1
    · simp only [h, if_true, mlook_cons]; by_cases h' : k' = e.1 <;> simp [h']
    · simp only [h, if_false, mlook_cons, ih]
      by_cases h' : k' = e.1
      · subst h'; simp [Ne.symm h]
      · simp [h']
theorem mlook_idx (es : List (α × β)) (k : α) : mlook es k = match es.findIdx? fun e => decide (k = e.1) with
    | some i => (es[i]?).map (·.2)
    | none => none := by
  induction es with
  | nil => rfl
  | cons e es ih =>
    rw [mlook_cons, List.findIdx?_cons]
    by_cases h : k = e.1
    · simp [h]
    · simp only [h, if_false, decide_false, Bool.false_eq_true, ih]
      cases List.findIdx? (fun e => decide (k = e.1)) es <;> simp
theorem idx_some {es : List (α × β)} {k : α} {i : Nat} (h : (es.findIdx? fun e => decide (k = e.1)) = some i) : ∃ v, es[i]? = some (k, v) := by
  rw [List.findIdx?_eq_some_iff_getElem] at h
  obtain ⟨hi, h, -⟩ := h
  refine ⟨es[i].2, ?_⟩
  rw [List.getElem?_eq_getElem hi]
  simp only [decide_eq_true_eq] at h
  rw [h]
end
def encK {α : Type} (ek : α → T) (es : List (α × T)) : List (T × T) := es.map fun e => (ek e.1, e.2)
structure KeyOk {α : Type} [DecidableEq α] (kt : KT) (ek : α → T) : Prop where
  has : ∀ a, (ek a).hasK kt = true
  eq : ∀ a b, keyEq (ek a) (ek b) = some (decide (a = b))
section
variable {α : Type} [DecidableEq α] {kt : KT} {ek : α → T}
theorem mfindK (ho : KeyOk kt ek) (k : α) : ∀ es : List (α × T), mfind (ek k) (encK ek es) = some (es.findIdx? fun e => decide (k = e.1))
  | [] => rfl
  | e :: es => by
    have ih := mfindK ho k es
    simp only [encK] at ih ⊢
    simp only [List.map_cons, mfind, ho.eq, List.findIdx?_cons]
    cases h : decide (k = e.1)
    · simp [ih]
    · simp
/-- a lookup by its parts -/
def lkpT (o : Option T) (z : T) (ok : Bool) : T := match o with
  | some v => if ok then .tup [v, .bool true] else v
  | none => if ok then .tup [z, .bool false] else z
def lkpB (kt : KT) (z : T) (ok : Bool) (H : Heap) (mb : Option B) (k : T) : Option (T × Heap) := match mb with
  | some (.map es) => if k.hasK kt then match mfind k es with
    | some (some i) => match es[i]? with
      | some e => some (if ok then .tup [e.2, .bool true] else e.2, H)
      | none => none
    | some none => some (if ok then .tup [z, .bool false] else z, H)
    | none => none else none
  | _ => none
def lkpV (kt : KT) (z : T) (ok : Bool) (H : Heap) (m k : T) : Option (T × Heap) := match m with
  | .map b => lkpB kt z ok H H[b]? k
  | .nilm => if k.hasK kt then some (if ok then .tup [z, .bool false] else z, H) else none
  | _ => none
theorem ev_lkp (R : Regs) (H : Heap) (kt : KT) (z : T) (ok : Bool) (m k : X) : evop R H (.lkp kt z ok m k) = lkpV kt z ok H (m.ev R) (k.ev R) := by
  unfold lkpV lkpB
  simp only [evop]
  cases h1 : (k.ev R).hasK kt
  · simp only [Bool.false_eq_true, if_false]
    cases m.ev R with
    | map b => simp only; split <;> rfl
    | _ => rfl
  · simp only [if_true]
    cases m.ev R with
    | map b =>
      simp only [mapEs]
      cases H[b]? with
      | none => rfl
      | some x => cases x <;> rfl
    | nilm => simp only [mapEs, mfind]
    | _ => rfl
theorem lkpV_map (kt : KT) (z : T) (ok : Bool) (H : Heap) (b : Nat) (k : T) : lkpV kt z ok H (.map b) k = lkpB kt z ok H H[b]? k := rfl
theorem lkpB_K (ho : KeyOk kt ek) (z : T) (ok : Bool) (H : Heap) (es : List (α × T)) (s : α) : lkpB kt z ok H (some (.map (encK ek es))) (ek s) = some (lkpT (mlook es s) z ok, H) := by
  simp only [lkpB, ho.has, mfindK ho, if_true, mlook_idx]
  cases h : List.findIdx? (fun e => decide (s = e.1)) es with
  | none => cases ok <;> rfl
  | some i =>
    obtain ⟨v, hv⟩ := idx_some h
    have : (encK ek es)[i]? = some (ek s, v) := by simp [encK, hv]
    simp only [this, hv, lkpT, Option.map_some]
def upmB (kt : KT) (H : Heap) (b : Nat) (mb : Option B) (k v : T) : Option (T × Heap) := match mb with
  | some (.map es) => if k.hasK kt then match mfind k es with
    | some (some i) => some (undefT, H.set b (.map (es.set i (k, v))))
    | some none => some (undefT, H.set b (.map (es ++ [(k, v)])))
    | none => none else none
  | _ => none
def upmV (kt : KT) (H : Heap) (m k v : T) : Option (T × Heap) := match m with
  | .map b => upmB kt H b H[b]? k v
  | _ => none
theorem ev_upm (R : Regs) (H : Heap) (kt : KT) (m k v : X) : evop R H (.upm kt m k v) = upmV kt H (m.ev R) (k.ev R) (v.ev R) := by
  unfold upmV upmB
  simp only [evop]
  cases m.ev R with
  | map b =>
    simp only
    cases h1 : (k.ev R).hasK kt
    · simp only [Bool.false_eq_true, if_false]; split <;> rfl
    · simp only [if_true]
      cases H[b]? with
      | none => rfl
      | some x => cases x <;> rfl
  | _ => rfl
theorem upmV_map (kt : KT) (H : Heap) (b : Nat) (k v : T) : upmV kt H (.map b) k v = upmB kt H b H[b]? k v := rfl
theorem upmB_K (ho : KeyOk kt ek) (H : Heap) (b : Nat) (es : List (α × T)) (s : α) (v : T) : upmB kt H b (some (.map (encK ek es))) (ek s) v = some (undefT, H.set b (.map (encK ek (mput es s v)))) := by
  simp only [upmB, ho.has, mfindK ho, if_true, mput]
  cases h : List.findIdx? (fun e => decide (s = e.1)) es with
  | none => simp [encK]
  | some i => simp [encK]
end
theorem kStr : KeyOk (.sc .str) T.str := ⟨fun _ => rfl, fun a b => by simp only [keyEq, eqSc, strEq_eq]⟩
def kU (n : Nat) : T := .int .u64 n
theorem kNat : KeyOk (.sc .int) kU := ⟨fun _ => rfl, fun a b => by simp only [kU, keyEq, eqSc, if_true, deq]⟩
abbrev encM (es : List (ByteArray × T)) : List (T × T) := encK T.str es
abbrev encN (es : List (Nat × T)) : List (T × T) := encK kU es
theorem lkpB_M (z : T) (ok : Bool) (H : Heap) (es : List (ByteArray × T)) (s : ByteArray) : lkpB (.sc .str) z ok H (some (.map (encK T.str es))) (.str s) = some (lkpT (mlook es s) z ok, H) := lkpB_K kStr z ok H es s
theorem lkpB_N (z : T) (ok : Bool) (H : Heap) (es : List (Nat × T)) (s : Nat) : lkpB (.sc .int) z ok H (some (.map (encK kU es))) (.int .u64 s) = some (lkpT (mlook es s) z ok, H) := lkpB_K kNat z ok H es s
theorem upmB_M (H : Heap) (b : Nat) (es : List (ByteArray × T)) (s : ByteArray) (v : T) : upmB (.sc .str) H b (some (.map (encK T.str es))) (.str s) v = some (undefT, H.set b (.map (encK T.str (mput es s v)))) := upmB_K kStr H b es s v
theorem upmB_N (H : Heap) (b : Nat) (es : List (Nat × T)) (s : Nat) (v : T) : upmB (.sc .int) H b (some (.map (encK kU es))) (.int .u64 s) v = some (undefT, H.set b (.map (encK kU (mput es s v)))) := upmB_K kNat H b es s v
theorem lkp_some (v z : T) : lkpT (some v) z false = v := rfl
theorem lkp_none (z : T) : lkpT none z false = z := rfl
theorem lkp_some2 (v z : T) : lkpT (some v) z true = .tup [v, .bool true] := rfl
theorem lkp_none2 (z : T) : lkpT none z true = .tup [z, .bool false] := rfl
theorem map_nil_K {α : Type} (ek : α → T) : B.map [] = B.map (encK ek []) := rfl
end Go.Rmp
end

/-! text RmpX -/
section
/- THE LEMMAS FOR STEPPING, in one. -/
namespace Go.Rmp
theorem cells_agg (l : List T) : (T.agg l).cells? = some l := rfl
theorem cells_int (k : IntKind) (n : Int) : (T.int k n).cells? = some [.int k n] := rfl
theorem cells_str (s : ByteArray) : (T.str s).cells? = some [.str s] := rfl
theorem cells_bool (s : Bool) : (T.bool s).cells? = some [.bool s] := rfl
theorem cells_sl (k : SK) (l : List (List T)) : (T.sl k l).cells? = some [.sl k l] := rfl
theorem cells_msl (a b c d : Nat) : (T.msl a b c d).cells? = some [.msl a b c d] := rfl
theorem cells_map (b : Nat) : (T.map b).cells? = some [.map b] := rfl
theorem cells_ptr (a b : Nat) : (T.ptr a b).cells? = some [.ptr a b] := rfl
theorem cells_nilm : (T.nilm).cells? = some [.nilm] := rfl
theorem cells_nilp : (T.nilp).cells? = some [.nilp] := rfl
theorem tup1 (v : T) : tupT [v] = v := rfl
theorem tup2 (v w : T) : tupT [v, w] = .tup [v, w] := rfl
theorem tup3 (v w x : T) : tupT [v, w, x] = .tup [v, w, x] := rfl
theorem er_int (k : IntKind) (n : Int) : (T.int k n).erase = .int k n := rfl
theorem er_str (s : ByteArray) : (T.str s).erase = .str s := rfl
theorem er_bool (s : Bool) : (T.bool s).erase = .bool s := rfl
theorem er_sl (k : SK) (l : List (List T)) : (T.sl k l).erase = .sl .arg l := rfl
theorem er_ptr (a b : Nat) : (T.ptr a b).erase = .ptr a b := rfl
theorem er_map (b : Nat) : (T.map b).erase = .map b := rfl
theorem er_nilm : (T.nilm).erase = .nilm := rfl
theorem er_nilp : (T.nilp).erase = .nilp := rfl
theorem el_sl (H : Heap) (n : Nat) (k : SK) (es : List (List T)) : elemsOf H n (.sl k es) = if es.all (·.length == n) then some es else none := rfl
theorem want_n (R : Regs) : wants R Option.none = true := rfl
theorem tr_imp (p : Prop) : (True → p) = p := by simp
theorem im_tr (p : Prop) : (p → True) = True := by simp
theorem imp_t (p : Prop) : (true = true → p) = p := by simp
theorem imp_f (p : Prop) : (false = true → p) = True := by simp
theorem un_not (b : Bool) : unT .not (.bool b) = some (.bool !b) := rfl
theorem bi_add (k : IntKind) (a b : Int) : binT .add (.int k a) (.int k b) = some (.int k (k.wrap (a + b))) := by simp [binT]
theorem bi_sub (k : IntKind) (a b : Int) : binT .sub (.int k a) (.int k b) = some (.int k (k.wrap (a - b))) := by simp [binT]
theorem bi_mul (k : IntKind) (a b : Int) : binT .mul (.int k a) (.int k b) = some (.int k (k.wrap (a * b))) := by simp [binT]
theorem bi_quo (k : IntKind) (a b : Int) : binT .quo (.int k a) (.int k b) = if b = 0 then none else some (.int k (k.wrap (a.tdiv b))) := by simp [binT]
theorem bi_rem (k : IntKind) (a b : Int) : binT .rem (.int k a) (.int k b) = if b = 0 then none else some (.int k (a.tmod b)) := by simp [binT]
theorem bi_shl (k k' : IntKind) (a b : Int) : binT .shl (.int k a) (.int k' b) = if b < 0 then none else some (.int k (k.wrap (a * 2 ^ (min b.toNat k.bits)))) := by simp [binT]
theorem bi_shr (k k' : IntKind) (a b : Int) : binT .shr (.int k a) (.int k' b) = if b < 0 then none else some (.int k (a.fdiv (2 ^ (min b.toNat k.bits)))) := by simp [binT]
theorem bi_and (k : IntKind) (a b : Int) : binT .and (.int k a) (.int k b) = some (.int k (k.wrap (BitVec.ofInt k.bits a &&& BitVec.ofInt k.bits b).toNat)) := by simp [binT]
theorem bi_or (k : IntKind) (a b : Int) : binT .or (.int k a) (.int k b) = some (.int k (k.wrap (BitVec.ofInt k.bits a ||| BitVec.ofInt k.bits b).toNat)) := by simp [binT]
theorem bi_xor (k : IntKind) (a b : Int) : binT .xor (.int k a) (.int k b) = some (.int k (k.wrap (BitVec.ofInt k.bits a ^^^ BitVec.ofInt k.bits b).toNat)) := by simp [binT]
theorem bi_eql (k : IntKind) (a b : Int) : binT .eql (.int k a) (.int k b) = some (.bool (a == b)) := by simp [binT]
theorem bi_neq (k : IntKind) (a b : Int) : binT .neq (.int k a) (.int k b) = some (.bool (a != b)) := by simp [binT]
theorem bi_lss (k : IntKind) (a b : Int) : binT .lss (.int k a) (.int k b) = some (.bool (a < b)) := by simp [binT]
theorem bi_leq (k : IntKind) (a b : Int) : binT .leq (.int k a) (.int k b) = some (.bool (a ≤ b)) := by simp [binT]
theorem bi_gtr (k : IntKind) (a b : Int) : binT .gtr (.int k a) (.int k b) = some (.bool (b < a)) := by simp [binT]
theorem bi_geq (k : IntKind) (a b : Int) : binT .geq (.int k a) (.int k b) = some (.bool (b ≤ a)) := by simp [binT]
theorem bs_eql (a b : ByteArray) : binT .eql (.str a) (.str b) = some (.bool (decide (a = b))) := by simp [binT, strEq_eq]
theorem bs_neq (a b : ByteArray) : binT .neq (.str a) (.str b) = some (.bool (!decide (a = b))) := by simp [binT, strEq_eq]
theorem bs_lss (a b : ByteArray) : binT .lss (.str a) (.str b) = some (.bool (strLt a b)) := by rfl
theorem bs_leq (a b : ByteArray) : binT .leq (.str a) (.str b) = some (.bool (!strLt b a)) := by have := not_le b a; simp only [binT, Option.some.injEq, T.bool.injEq]; rw [← this]; simp
theorem bs_gtr (a b : ByteArray) : binT .gtr (.str a) (.str b) = some (.bool (strLt b a)) := by have := not_le b a; simp only [binT, Option.some.injEq, T.bool.injEq]; exact this
theorem bs_geq (a b : ByteArray) : binT .geq (.str a) (.str b) = some (.bool (!strLt a b)) := by rfl
theorem bs_add (a b : ByteArray) : binT .add (.str a) (.str b) = if a.size + b.size ≤ 9223372036854775807 then some (.str (a ++ b)) else none := rfl
theorem lit_lt (a b : Nat) : decide ((a : Int) < (no_index (OfNat.ofNat b))) = decide (a < OfNat.ofNat b) := dlt a b
theorem lit_gt (a b : Nat) : decide ((no_index (OfNat.ofNat b) : Int) < (a : Int)) = decide (OfNat.ofNat b < a) := dlt b a
theorem lit_le (a b : Nat) : decide ((a : Int) ≤ (no_index (OfNat.ofNat b))) = decide (a ≤ OfNat.ofNat b) := dle a b
theorem lit_ge (a b : Nat) : decide ((no_index (OfNat.ofNat b) : Int) ≤ (a : Int)) = decide (OfNat.ofNat b ≤ a) := dle b a
theorem lit_eq (a b : Nat) : ((a : Int) == (no_index (OfNat.ofNat b))) = decide (a = OfNat.ofNat b) := deq a b
theorem lit_ne (a b : Nat) : ((a : Int) != (no_index (OfNat.ofNat b))) = !decide (a = OfNat.ofNat b) := dne a b
theorem dge (a b : Nat) : decide ((a : Int) ≥ (b : Int)) = decide (b ≤ a) := by simp
set_option linter.defProp false in
theorem S1 : type_of% (And.intro (@b_vf) <| And.intro (@evop.eq_37) <| And.intro (@evop.eq_38) <| And.intro (@evop.eq_39) <| And.intro (@evop.eq_40) <| And.intro (@evop.eq_41) <| And.intro (@ex_n) <| And.intro (@ex_r) <| And.intro (@ex_e) <| And.intro (@bnd.eq_1) <| And.intro (@bnd.eq_2) <| And.intro (@want_n) <| And.intro (@tr_imp) <| And.intro (@im_tr) <| And.intro (@imp_t) <| And.intro (@imp_f) <| And.intro (@step_n) <| And.intro (@List.nil_append.{0}) <| And.intro (@List.append_nil.{0}) <| And.intro (@List.cons_append.{0}) <| And.intro (@er_int) <| And.intro (@er_str) <| And.intro (@er_bool) <| And.intro (@er_sl) <| And.intro (@er_ptr) <| And.intro (@er_map) <| And.intro (@er_nilm) <| And.intro (@er_nilp) <| And.intro (@el_sl) <| And.intro (@partsT.eq_1) <| And.intro (@partsT.eq_2) <| And.intro (@fillT.eq_1) <| And.intro (@fillT.eq_2) <| And.intro (@fillE.eq_1) <| And.intro (@fillE.eq_2) <| And.intro (@fillM.eq_1) <| And.intro (@fillM.eq_2) <| And.intro (@List.replicate_zero.{0}) <| And.intro (@List.replicate_succ.{0}) <| And.intro (@List.set_cons_zero.{0}) <| And.intro (@List.set_cons_succ.{0}) <| And.intro (@List.all_cons.{0}) <| And.intro (@List.all_nil.{0}) <| And.intro (@Bool.and_true) <| And.intro (@Bool.true_and) <| And.intro (@ldc_iptr) <| And.intro (@ldc_ptr) <| And.intro (@ldcB_c) <| And.intro (@stc_ptr) <| And.intro (@stcB_c) <| And.intro (@fad_ptr) <| And.intro (@lit_lt) <| And.intro (@lit_gt) <| And.intro (@lit_le) <| And.intro (@lit_ge) <| And.intro (@lit_eq) <| And.intro (@lit_ne) <| And.intro (@b_nil) <| And.intro (@b_b) <| And.intro (@b_g) <| And.intro (@b_c) <| And.intro (@b_cg) <| And.intro (@step_s) <| And.intro (@grd_t) <| And.intro (@grd_f) <| And.intro (@grdc_t) <| And.intro (@grdc_f) <| And.intro (@c_skip) <| And.intro (@c_ops) <| And.intro (@norm_ap) <| And.intro (@c_seq) <| And.intro (@c_cond) <| And.intro (@c_block) <| And.intro (@c_exit) <| And.intro (@c_ret) <| And.intro (@c_loop) <| And.intro (@c_range) <| And.intro (@cont_ap) <| And.intro (@cond_t) <| And.intro (@cond_f) <| And.intro (@then_n) <| And.intro (@then_r) <| And.intro (@then_e) <| And.intro (@blk_n) <| And.intro (@blk_r) <| And.intro (@blk_e) <| And.intro (@Bool.false_eq_true) <| And.intro (@want_t) <| And.intro (@want_f) <| And.intro (@isT_b) <| And.intro (@isF_b) <| And.intro (@isT_u) <| And.intro (@isF_u) <| And.intro (@retg_val) <| And.intro (@retg_same) <| And.intro (@List.length_cons.{0}) <| And.intro (@List.length_nil.{0}) <| And.intro (@List.drop_succ_cons.{0}) <| And.intro (@List.drop_zero.{0}) <| And.intro (@List.take_succ_cons.{0}) <| And.intro (@List.take_zero.{0}) <| And.intro (@cells_agg) <| And.intro (@cells_int) <| And.intro (@cells_str) <| And.intro (@cells_bool) <| And.intro (@cells_sl) <| And.intro (@cells_msl) <| And.intro (@cells_map) <| And.intro (@cells_ptr) <| And.intro (@cells_nilm) <| And.intro (@cells_nilp) <| And.intro (@fadT.eq_1) <| And.intro (@fadT.eq_2) <| And.intro (@Nat.zero_add) <| And.intro (@ev_r) <| And.intro (@ev_c) <| And.intro (@stB.eq_1) <| And.intro (@stB.eq_2) <| And.intro (@updo_s) <| And.intro (@updo_n) <| And.intro (@upd_ap) <| And.intro (@regs0_0) <| And.intro (@regs0_1) <| And.intro (@regs0_2) <| And.intro (@regs0_3) <| And.intro (@regs0_4) <| And.intro (@true_and) <| And.intro (@and_true) <| And.intro (@Option.map_some.{0,0}) <| And.intro (@Option.bind_some.{0,0}) <| And.intro (@un_not) <| And.intro (@lenT.eq_1) <| And.intro (@lenT.eq_2) <| And.intro (@lenT.eq_3) <| And.intro (@lenT.eq_4) <| And.intro (@lenT.eq_5) <| And.intro (@natOf_nat) <| And.intro (@val1) <| And.intro (@valA) <| And.intro (@endQ.eq_1) <| And.intro (@endQ.eq_2) <| And.intro (@resT.eq_1) <| And.intro (@resL.eq_1) <| And.intro (@resL.eq_2) <| And.intro (@resV.eq_1) <| And.intro (@resV.eq_2) <| And.intro (@tup1) <| And.intro (@tup2) <| And.intro (@tup3) <| And.intro (@dlt) <| And.intro (@dle) <| And.intro (@deq) <| And.intro (@dne) <| And.intro (@List.map_cons.{0,0}) <| And.intro (@List.map_nil.{0,0}) <| And.intro (@decide_true) <| And.intro (@decide_false) <| And.intro (@strEq_eq) <| And.intro (@Bool.not_true) <| And.intro (@Bool.not_false) <| And.intro (@beq_self_eq_true.{0}) <| And.intro (@bne_self_eq_false.{0}) <| And.intro (@List.getElem?_cons_zero.{0}) <| And.intro (@List.getElem?_cons_succ.{0}) <| And.intro (@List.getElem?_nil.{0}) <| And.intro (@List.length_map.{0,0}) <| And.intro (@ret_val) <| And.intro (@T.bool.injEq) <| And.intro (@T.int.injEq) <| And.intro (@T.str.injEq) <| And.intro (@T.tup.injEq) <| And.intro (@evop.eq_1) <| And.intro (@evop.eq_2) <| And.intro (@evop.eq_3) <| And.intro (@evop.eq_4) <| And.intro (@evop.eq_5) <| And.intro (@evop.eq_6) <| And.intro (@evop.eq_7) <| And.intro (@evop.eq_8) <| And.intro (@evop.eq_9) <| And.intro (@evop.eq_10) <| And.intro (@evop.eq_11) <| And.intro (@evop.eq_12) <| And.intro (@evop.eq_13) <| And.intro (@evop.eq_14) <| And.intro (@evop.eq_15) <| And.intro (@evop.eq_16) <| And.intro (@evop.eq_17) <| And.intro (@evop.eq_18) <| And.intro (@evop.eq_19) <| And.intro (@evop.eq_20) <| And.intro (@evop.eq_21) <| And.intro (@evop.eq_22) <| And.intro (@evop.eq_23) <| And.intro (@evop.eq_24) <| And.intro (@evop.eq_25) <| And.intro (@evop.eq_26) <| And.intro (@evop.eq_29) <| And.intro (@evop.eq_30) <| And.intro (@evop.eq_31) <| And.intro (@evop.eq_32) <| And.intro (@evop.eq_33) <| And.intro (@evop.eq_34) <| And.intro (@evop.eq_35) <| And.intro (@evop.eq_36) <| And.intro (@ev_lkp) <| And.intro (@ev_upm) <| And.intro (@lkpV_map) <| And.intro (@lkpB_M) <| And.intro (@lkpB_N) <| And.intro (@upmV_map) <| And.intro (@upmB_M) <| And.intro (@upmB_N) <| And.intro (@lkp_some) <| And.intro (@lkp_none) <| And.intro (@lkp_some2) <| And.intro (@lkp_none2) <| And.intro (@bi_add) <| And.intro (@bi_sub) <| And.intro (@bi_mul) <| And.intro (@bi_quo) <| And.intro (@bi_rem) <| And.intro (@bi_shl) <| And.intro (@bi_shr) <| And.intro (@bi_and) <| And.intro (@bi_or) <| And.intro (@bi_xor) <| And.intro (@bi_eql) <| And.intro (@bi_neq) <| And.intro (@bi_lss) <| And.intro (@bi_leq) <| And.intro (@bi_gtr) <| And.intro (@bi_geq) <| And.intro (@bs_eql) <| And.intro (@bs_neq) <| And.intro (@bs_lss) <| And.intro (@bs_leq) <| And.intro (@bs_gtr) <| And.intro (@bs_geq) <| (@bs_add)) := And.intro (@b_vf) <| And.intro (@evop.eq_37) <| And.intro (@evop.eq_38) <| And.intro (@evop.eq_39) <| And.intro (@evop.eq_40) <| And.intro (@evop.eq_41) <| And.intro (@ex_n) <| And.intro (@ex_r) <| And.intro (@ex_e) <| And.intro (@bnd.eq_1) <| And.intro (@bnd.eq_2) <| And.intro (@want_n) <| And.intro (@tr_imp) <| And.intro (@im_tr) <| And.intro (@imp_t) <| And.intro (@imp_f) <| And.intro (@step_n) <| And.intro (@List.nil_append.{0}) <| And.intro (@List.append_nil.{0}) <| And.intro (@List.cons_append.{0}) <| And.intro (@er_int) <| And.intro (@er_str) <| And.intro (@er_bool) <| And.intro (@er_sl) <| And.intro (@er_ptr) <| And.intro (@er_map) <| And.intro (@er_nilm) <| And.intro (@er_nilp) <| And.intro (@el_sl) <| And.intro (@partsT.eq_1) <| And.intro (@partsT.eq_2) <| And.intro (@fillT.eq_1) <| And.intro (@fillT.eq_2) <| And.intro (@fillE.eq_1) <| And.intro (@fillE.eq_2) <| And.intro (@fillM.eq_1) <| And.intro (@fillM.eq_2) <| And.intro (@List.replicate_zero.{0}) <| And.intro (@List.replicate_succ.{0}) <| And.intro (@List.set_cons_zero.{0}) <| And.intro (@List.set_cons_succ.{0}) <| And.intro (@List.all_cons.{0}) <| And.intro (@List.all_nil.{0}) <| And.intro (@Bool.and_true) <| And.intro (@Bool.true_and) <| And.intro (@ldc_iptr) <| And.intro (@ldc_ptr) <| And.intro (@ldcB_c) <| And.intro (@stc_ptr) <| And.intro (@stcB_c) <| And.intro (@fad_ptr) <| And.intro (@lit_lt) <| And.intro (@lit_gt) <| And.intro (@lit_le) <| And.intro (@lit_ge) <| And.intro (@lit_eq) <| And.intro (@lit_ne) <| And.intro (@b_nil) <| And.intro (@b_b) <| And.intro (@b_g) <| And.intro (@b_c) <| And.intro (@b_cg) <| And.intro (@step_s) <| And.intro (@grd_t) <| And.intro (@grd_f) <| And.intro (@grdc_t) <| And.intro (@grdc_f) <| And.intro (@c_skip) <| And.intro (@c_ops) <| And.intro (@norm_ap) <| And.intro (@c_seq) <| And.intro (@c_cond) <| And.intro (@c_block) <| And.intro (@c_exit) <| And.intro (@c_ret) <| And.intro (@c_loop) <| And.intro (@c_range) <| And.intro (@cont_ap) <| And.intro (@cond_t) <| And.intro (@cond_f) <| And.intro (@then_n) <| And.intro (@then_r) <| And.intro (@then_e) <| And.intro (@blk_n) <| And.intro (@blk_r) <| And.intro (@blk_e) <| And.intro (@Bool.false_eq_true) <| And.intro (@want_t) <| And.intro (@want_f) <| And.intro (@isT_b) <| And.intro (@isF_b) <| And.intro (@isT_u) <| And.intro (@isF_u) <| And.intro (@retg_val) <| And.intro (@retg_same) <| And.intro (@List.length_cons.{0}) <| And.intro (@List.length_nil.{0}) <| And.intro (@List.drop_succ_cons.{0}) <| And.intro (@List.drop_zero.{0}) <| And.intro (@List.take_succ_cons.{0}) <| And.intro (@List.take_zero.{0}) <| And.intro (@cells_agg) <| And.intro (@cells_int) <| And.intro (@cells_str) <| And.intro (@cells_bool) <| And.intro (@cells_sl) <| And.intro (@cells_msl) <| And.intro (@cells_map) <| And.intro (@cells_ptr) <| And.intro (@cells_nilm) <| And.intro (@cells_nilp) <| And.intro (@fadT.eq_1) <| And.intro (@fadT.eq_2) <| And.intro (@Nat.zero_add) <| And.intro (@ev_r) <| And.intro (@ev_c) <| And.intro (@stB.eq_1) <| And.intro (@stB.eq_2) <| And.intro (@updo_s) <| And.intro (@updo_n) <| And.intro (@upd_ap) <| And.intro (@regs0_0) <| And.intro (@regs0_1) <| And.intro (@regs0_2) <| And.intro (@regs0_3) <| And.intro (@regs0_4) <| And.intro (@true_and) <| And.intro (@and_true) <| And.intro (@Option.map_some.{0,0}) <| And.intro (@Option.bind_some.{0,0}) <| And.intro (@un_not) <| And.intro (@lenT.eq_1) <| And.intro (@lenT.eq_2) <| And.intro (@lenT.eq_3) <| And.intro (@lenT.eq_4) <| And.intro (@lenT.eq_5) <| And.intro (@natOf_nat) <| And.intro (@val1) <| And.intro (@valA) <| And.intro (@endQ.eq_1) <| And.intro (@endQ.eq_2) <| And.intro (@resT.eq_1) <| And.intro (@resL.eq_1) <| And.intro (@resL.eq_2) <| And.intro (@resV.eq_1) <| And.intro (@resV.eq_2) <| And.intro (@tup1) <| And.intro (@tup2) <| And.intro (@tup3) <| And.intro (@dlt) <| And.intro (@dle) <| And.intro (@deq) <| And.intro (@dne) <| And.intro (@List.map_cons.{0,0}) <| And.intro (@List.map_nil.{0,0}) <| And.intro (@decide_true) <| And.intro (@decide_false) <| And.intro (@strEq_eq) <| And.intro (@Bool.not_true) <| And.intro (@Bool.not_false) <| And.intro (@beq_self_eq_true.{0}) <| And.intro (@bne_self_eq_false.{0}) <| And.intro (@List.getElem?_cons_zero.{0}) <| And.intro (@List.getElem?_cons_succ.{0}) <| And.intro (@List.getElem?_nil.{0}) <| And.intro (@List.length_map.{0,0}) <| And.intro (@ret_val) <| And.intro (@T.bool.injEq) <| And.intro (@T.int.injEq) <| And.intro (@T.str.injEq) <| And.intro (@T.tup.injEq) <| And.intro (@evop.eq_1) <| And.intro (@evop.eq_2) <| And.intro (@evop.eq_3) <| And.intro (@evop.eq_4) <| And.intro (@evop.eq_5) <| And.intro (@evop.eq_6) <| And.intro (@evop.eq_7) <| And.intro (@evop.eq_8) <| And.intro (@evop.eq_9) <| And.intro (@evop.eq_10) <| And.intro (@evop.eq_11) <| And.intro (@evop.eq_12) <| And.intro (@evop.eq_13) <| And.intro (@evop.eq_14) <| And.intro (@evop.eq_15) <| And.intro (@evop.eq_16) <| And.intro (@evop.eq_17) <| And.intro (@evop.eq_18) <| And.intro (@evop.eq_19) <| And.intro (@evop.eq_20) <| And.intro (@evop.eq_21) <| And.intro (@evop.eq_22) <| And.intro (@evop.eq_23) <| And.intro (@evop.eq_24) <| And.intro (@evop.eq_25) <| And.intro (@evop.eq_26) <| And.intro (@evop.eq_29) <| And.intro (@evop.eq_30) <| And.intro (@evop.eq_31) <| And.intro (@evop.eq_32) <| And.intro (@evop.eq_33) <| And.intro (@evop.eq_34) <| And.intro (@evop.eq_35) <| And.intro (@evop.eq_36) <| And.intro (@ev_lkp) <| And.intro (@ev_upm) <| And.intro (@lkpV_map) <| And.intro (@lkpB_M) <| And.intro (@lkpB_N) <| And.intro (@upmV_map) <| And.intro (@upmB_M) <| And.intro (@upmB_N) <| And.intro (@lkp_some) <| And.intro (@lkp_none) <| And.intro (@lkp_some2) <| And.intro (@lkp_none2) <| And.intro (@bi_add) <| And.intro (@bi_sub) <| And.intro (@bi_mul) <| And.intro (@bi_quo) <| And.intro (@bi_rem) <| And.intro (@bi_shl) <| And.intro (@bi_shr) <| And.intro (@bi_and) <| And.intro (@bi_or) <| And.intro (@bi_xor) <| And.intro (@bi_eql) <| And.intro (@bi_neq) <| And.intro (@bi_lss) <| And.intro (@bi_leq) <| And.intro (@bi_gtr) <| And.intro (@bi_geq) <| And.intro (@bs_eql) <| And.intro (@bs_neq) <| And.intro (@bs_lss) <| And.intro (@bs_leq) <| And.intro (@bs_gtr) <| And.intro (@bs_geq) <| (@bs_add)
theorem S2 : type_of% (And.intro (@not_false_eq_true) <| And.intro (@ne_eq.{1}) <| And.intro (@Nat.lt_succ_self) <| And.intro (@g_tail) <| And.intro (@g_app) <| And.intro (@g_eq) <| And.intro (@g_ne) <| And.intro (@s_tail) <| And.intro (@s_app) <| And.intro (@l_app) <| And.intro (@l_set) <| And.intro (@e_set) <| And.intro (@List.nil_append.{0}) <| And.intro (@List.append_nil.{0}) <| And.intro (@List.cons_append.{0}) (@List.drop_nil.{0})) := And.intro (@not_false_eq_true) <| And.intro (@ne_eq.{1}) <| And.intro (@Nat.lt_succ_self) <| And.intro (@g_tail) <| And.intro (@g_app) <| And.intro (@g_eq) <| And.intro (@g_ne) <| And.intro (@s_tail) <| And.intro (@s_app) <| And.intro (@l_app) <| And.intro (@l_set) <| And.intro (@e_set) <| And.intro (@List.nil_append.{0}) <| And.intro (@List.append_nil.{0}) <| And.intro (@List.cons_append.{0}) (@List.drop_nil.{0})
theorem l_one (H : Heap) (x : B) : (H ++ [x]).length = H.length + 1 := by simp
theorem lt_s {b n : Nat} (h : b < n) : (b < n + 1) = True := by simp; omega
theorem S3 : type_of% (And.intro (@l_one) <| And.intro (@lt_s) (@Nat.add_assoc)) := And.intro (@l_one) <| And.intro (@lt_s) (@Nat.add_assoc)
end Go.Rmp
end

/-! text RmpY -/
section
/- WRITTEN SLICES: their cells as a list of elements. -/
namespace Go.Rmp
section
variable {α : Type} {enc : α → List T} {n : Nat}
def msC (enc : α → List T) (xs : List α) : List T := xs.flatMap enc
theorem msC_len (hn : ∀ x, (enc x).length = n) : ∀ xs : List α, (msC enc xs).length = xs.length * n
  | [] => by simp [msC]
  | x :: xs => by
    have := msC_len hn xs
    simp only [msC, List.flatMap_cons, List.length_append, hn, List.length_cons] at this ⊢
    rw [this, Nat.add_mul]; omega
theorem msC_drop (hn : ∀ x, (enc x).length = n) : ∀ (xs : List α) (i : Nat), (msC enc xs).drop (i * n) = msC enc (xs.drop i)
  | xs, 0 => by simp
  | [], i + 1 => by simp [msC]
  | x :: xs, i + 1 => by
    have := msC_drop hn xs i
    simp only [msC, List.flatMap_cons, List.drop_succ_cons] at this ⊢
    rw [show (i + 1) * n = (enc x).length + i * n by rw [hn, Nat.add_mul]; omega, List.drop_append, List.drop_eq_nil_of_le (by omega)]
    simp [this]
theorem msC_take (hn : ∀ x, (enc x).length = n) : ∀ (xs : List α) (i : Nat), (msC enc xs).take (i * n) = msC enc (xs.take i)
  | xs, 0 => by simp [msC]
  | [], i + 1 => by simp [msC]
  | x :: xs, i + 1 => by
    have := msC_take hn xs i
    simp only [msC, List.flatMap_cons, List.take_succ_cons] at this ⊢
    rw [show (i + 1) * n = (enc x).length + i * n by rw [hn, Nat.add_mul]; omega, List.take_append, List.take_of_length_le (by omega)]
    simp [this]
theorem msC_get (hn : ∀ x, (enc x).length = n) {xs : List α} {i : Nat} {x : α} (hx : xs[i]? = some x) (off m : Nat) (h : off + m ≤ n) : ldcB m (i * n + off) (some (.cells (msC enc xs))) = some (((enc x).drop off).take m) := by
  have hi := (List.getElem?_eq_some_iff.1 hx).1
  have h1 : i * n + n ≤ xs.length * n := by rw [← Nat.succ_mul]; exact Nat.mul_le_mul_right n hi
  have e : (msC enc xs).drop (i * n) = enc x ++ msC enc (xs.drop (i + 1)) := by
    rw [msC_drop hn, List.drop_eq_getElem_cons hi]
    have : xs[i] = x := (List.getElem?_eq_some_iff.1 hx).2
    rw [this]; rfl
  rw [ldcB_c, if_pos (by rw [msC_len hn]; omega), ← List.drop_drop, e, List.drop_append, List.take_append, hn]
  rw [show m - ((enc x).drop off).length = 0 by rw [List.length_drop, hn]; omega]
  simp
theorem msC_set (hn : ∀ x, (enc x).length = n) {xs : List α} {i : Nat} {x y : α} (hx : xs[i]? = some x) (H : Heap) (b : Nat) (vs : List T) (off : Nat) (h : off + vs.length ≤ n) (hy : enc y = (enc x).take off ++ vs ++ (enc x).drop (off + vs.length)) :
    stcB H b vs (i * n + off) (some (.cells (msC enc xs))) = some (H.set b (.cells (msC enc (xs.set i y)))) := by
  have hi := (List.getElem?_eq_some_iff.1 hx).1
  have hxi : xs[i] = x := (List.getElem?_eq_some_iff.1 hx).2
  have h1 : i * n + n ≤ xs.length * n := by rw [← Nat.succ_mul]; exact Nat.mul_le_mul_right n hi
  rw [stcB_c, if_pos (by rw [msC_len hn]; omega)]
  have e : (msC enc xs).drop (i * n) = enc x ++ msC enc (xs.drop (i + 1)) := by
    rw [msC_drop hn, List.drop_eq_getElem_cons hi, hxi]; rfl
  have t : (msC enc xs).take (i * n + off) = msC enc (xs.take i) ++ (enc x).take off := by
    rw [List.take_add, msC_take hn, e, List.take_append, hn, show off - n = 0 by omega]; simp
  have d : (msC enc xs).drop (i * n + off + vs.length) = (enc x).drop (off + vs.length) ++ msC enc (xs.drop (i + 1)) := by
    rw [Nat.add_assoc, ← List.drop_drop, e, List.drop_append, hn, show off + vs.length - n = 0 by omega]; simp
  rw [t, d]
  have : xs.set i y = xs.take i ++ y :: xs.drop (i + 1) := by rw [List.set_eq_take_append_cons_drop, if_pos hi]
  rw [this]
  simp only [msC, List.flatMap_append, List.flatMap_cons, hy, List.append_assoc]
theorem msC_rep (k : Nat) (z : α) : (List.replicate k (enc z)).flatten = msC enc (List.replicate k z) := by
  induction k with
  | zero => rfl
  | succ k ih => simp only [List.replicate_succ, List.flatten_cons, ih, msC, List.flatMap_cons]
end
theorem iad_m (n i b off len : Nat) : iadT n i (.msl b off len n) = if i < len then if n = 0 then none else some (.ptr b (off + i * n)) else none := by
  simp only [iadT, true_and, ne_eq]
  by_cases h : i < len <;> by_cases h' : n = 0 <;> simp [h, h']
def eU (n : Nat) : List T := [.int .u64 n]
def eI (n : Nat) : List T := [.int .i64 n]
theorem eU_len (x : Nat) : (eU x).length = 1 := rfl
theorem eI_len (x : Nat) : (eI x).length = 1 := rfl
theorem msU_get {xs : List Nat} {i x : Nat} (hx : xs[i]? = some x) : ldcB 1 (i * 1) (some (.cells (msC eU xs))) = some [.int .u64 x] := msC_get eU_len hx 0 1 (by decide)
theorem msU_set {xs : List Nat} {i x : Nat} (hx : xs[i]? = some x) (H : Heap) (b y : Nat) : stcB H b [.int .u64 y] (i * 1) (some (.cells (msC eU xs))) = some (H.set b (.cells (msC eU (xs.set i y)))) := msC_set (y := y) eU_len hx H b [.int .u64 y] 0 (by simp) rfl
/-! slices that grow and are not written -/
def Apd (n0 : Nat) (H : Heap) (k : SK) : Prop := k = .nil ∨ k = .full ∨ ∃ t e, k = .own t e ∧ n0 ≤ t ∧ H[t]? = some (.tok e)
/-- what an append leaves as it was -/
structure Stay (n0 : Nat) (H : Heap) (k : SK) (H' : Heap) : Prop where
  len : H.length ≤ H'.length
  get : ∀ b x, H[b]? = some x → (∀ e, k ≠ .own b e) → H'[b]? = some x
  ext : ∀ H0 : Heap, H0.length ≤ n0 → Ext H0 H → Ext H0 H'
theorem Stay.cells {n0 : Nat} {H H' : Heap} {k : SK} (h : Stay n0 H k H') (ha : Apd n0 H k) {b : Nat} {x : B} (hx : H[b]? = some x) (ht : ∀ e, x ≠ .tok e) : H'[b]? = some x := h.get b x hx fun e he => by
  rcases ha with h | h | ⟨t, e', h, _, h'⟩
  · rw [he] at h; cases h
  · rw [he] at h; cases h
  · rw [he] at h; cases h; rw [hx] at h'; cases h'; exact ht _ rfl
theorem app_ok {n0 : Nat} {H : Heap} {k : SK} {bytes : Nat} (es new : List (List T)) (hk : Apd n0 H k) (hn0 : n0 ≤ H.length) (hnew : new ≠ []) (hr : roomOk (es.length + new.length) bytes = true) :
    ∃ k' H', appT H bytes k es new = some (.sl k' (es ++ new.map (·.map T.erase)), H') ∧ Apd n0 H' k' ∧ Stay n0 H k H' := by
  unfold appT
  cases new with
  | nil => exact absurd rfl hnew
  | cons c new =>
    simp only [hr, if_true]
    rcases hk with rfl | rfl | ⟨t, e, rfl, ht, hg⟩
    · exact ⟨_, _, rfl, .inr (.inr ⟨_, _, rfl, hn0, g_tail rfl⟩), ⟨by simp, fun b x hx _ => by rw [g_app (glt hx)]; exact hx, fun H0 _ h => h.app _⟩⟩
    · exact ⟨_, _, rfl, .inr (.inr ⟨_, _, rfl, hn0, g_tail rfl⟩), ⟨by simp, fun b x hx _ => by rw [g_app (glt hx)]; exact hx, fun H0 _ h => h.app _⟩⟩
    · simp only [hg, if_true]
      refine ⟨_, _, rfl, .inr (.inr ⟨_, _, rfl, ht, g_eq (glt hg)⟩), ⟨by simp, fun b x hx hne => ?_, fun H0 h0 h => h.set (Nat.le_trans h0 ht) _⟩⟩
      have : t ≠ b := fun h => hne e (by rw [h])
      rw [g_ne this]; exact hx
theorem apd_nil (n0 : Nat) (H : Heap) : Apd n0 H .nil := .inl rfl
theorem Apd.ext {n0 : Nat} {H H' : Heap} {k : SK} (h : Apd n0 H k) (hx : Ext H H') : Apd n0 H' k := by
  rcases h with h | h | ⟨t, e, h, h1, h2⟩
  · exact .inl h
  · exact .inr (.inl h)
  · exact .inr (.inr ⟨t, e, h, h1, hx.get h2⟩)
theorem Apd.set {n0 : Nat} {H : Heap} {k : SK} (h : Apd n0 H k) {c : Nat} {x : B} (hx : H[c]? = some x) (ht : ∀ e, x ≠ .tok e) (y : B) : Apd n0 (H.set c y) k := by
  rcases h with h | h | ⟨t, e, h, h1, h2⟩
  · exact .inl h
  · exact .inr (.inl h)
  · refine .inr (.inr ⟨t, e, h, h1, ?_⟩)
    have : c ≠ t := fun he => by subst he; rw [hx] at h2; cases h2; exact ht _ rfl
    rw [g_ne this]; exact h2
theorem endR_r {n b : Nat} {res : List Rs} {Q : Out → Heap → Prop} {R : Regs} {H : Heap} (h : R n = .tup [.ptr b 0]) (hd : H[b]? = some .dfr)
    (hq : match resT R (H.set b .dead) res with | some v => Q (.val v) (H.set b .dead) | none => False) : endR n res Q (.ex .ret R) H :=
  ⟨[b], by rw [h]; rfl, by simp, by simp [hd], hq⟩
theorem endR_n {n b : Nat} {res : List Rs} {Q : Out → Heap → Prop} {R : Regs} {H : Heap} (h : R n = .tup [.ptr b 0]) (hd : H[b]? = some .dfr)
    (hq : match resT R (H.set b .dead) res with | some v => Q (.val v) (H.set b .dead) | none => False) : endR n res Q (.ex .normal R) H :=
  ⟨[b], by rw [h]; rfl, by simp, by simp [hd], hq⟩
theorem endR_0 {n : Nat} {res : List Rs} {Q : Out → Heap → Prop} {R : Regs} {H : Heap} (h : R n = .tup [])
    (hq : match resT R H res with | some v => Q (.val v) H | none => False) : endR n res Q (.ex .ret R) H :=
  ⟨[], by rw [h]; rfl, by simp, by simp, hq⟩
theorem push0 (b : Nat) : pushMark (.tup []) b = .tup [.ptr b 0] := rfl
theorem roomT {n m : Nat} (h : (n + n / 4 + 512) * m ≤ 281474976710656) : roomOk n m = true := by simp [roomOk, h]
theorem all_map {α : Type} {enc : α → List T} {n : Nat} (hn : ∀ x, (enc x).length = n) (l : List α) : (l.map enc).all (fun c => c.length == n) = true := by simp [hn]
/-! slices that grow and are written -/
def Mut {α : Type} (enc : α → List T) (n n0 : Nat) (H : Heap) (t : T) (l : List α) : Prop :=
  (l = [] ∧ t = .sl .nil []) ∨ ∃ b, t = .msl b 0 l.length n ∧ H[b]? = some (.cells (msC enc l)) ∧ n0 ≤ b
theorem mut_nil {α : Type} (enc : α → List T) (n n0 : Nat) (H : Heap) : Mut enc n n0 H (.sl .nil []) [] := .inl ⟨rfl, rfl⟩
theorem Mut.ext {α : Type} {enc : α → List T} {n n0 : Nat} {H H' : Heap} {t : T} {l : List α} (h : Mut enc n n0 H t l) (hx : Ext H H') : Mut enc n n0 H' t l := by
  rcases h with h | ⟨b, h1, h2, h3⟩
  · exact .inl h
  · exact .inr ⟨b, h1, hx.get h2, h3⟩
theorem Mut.len {α : Type} {enc : α → List T} {n n0 : Nat} {H : Heap} {t : T} {l : List α} (h : Mut enc n n0 H t l) : lenT H .sl t = some l.length := by
  rcases h with ⟨rfl, rfl⟩ | ⟨b, rfl, _, _⟩ <;> rfl
/-- what an append to a written slice leaves as it was -/
structure StayM (n0 : Nat) (H : Heap) (t : T) (H' : Heap) : Prop where
  len : H.length ≤ H'.length
  get : ∀ b x, H[b]? = some x → (∀ off len n, t ≠ .msl b off len n) → H'[b]? = some x
  ext : ∀ H0 : Heap, H0.length ≤ n0 → Ext H0 H → Ext H0 H'
theorem appM_ok {α : Type} {enc : α → List T} {n n0 : Nat} (hn : ∀ x, (enc x).length = n) {H : Heap} {t : T} {l : List α} {bytes : Nat} (new : List α) (h : Mut enc n n0 H t l) (hn0 : n0 ≤ H.length) (hnew : new ≠ []) (hr : roomOk (l.length + new.length) bytes = true) :
    ∃ t' H', appM H n bytes t (new.map enc) = some (t', H') ∧ Mut enc n n0 H' t' (l ++ new) ∧ StayM n0 H t H' := by
  have hfl : (new.map enc).flatten = msC enc new := by simp [msC, List.flatMap]
  have happ : ∀ l : List α, msC enc l ++ msC enc new = msC enc (l ++ new) := fun l => by simp [msC]
  unfold appM
  cases new with
  | nil => exact absurd rfl hnew
  | cons c new =>
    rcases h with ⟨rfl, rfl⟩ | ⟨b, rfl, hb, hb0⟩
    · simp only [List.map_cons, List.length_cons, List.length_nil, List.length_map, Nat.zero_add] at hr hfl ⊢
      simp only [hr, and_true, if_true]
      refine ⟨_, _, rfl, .inr ⟨H.length, by simp, ?_, hn0⟩, ⟨by simp, fun b x hx _ => by rw [g_app (glt hx)]; exact hx, fun H0 _ h => h.app _⟩⟩
      rw [g_tail rfl, hfl]; rfl
    · have hc : l.length * n = (msC enc l).length := (msC_len hn l).symm
      simp only [List.map_cons, List.length_cons, List.length_map] at hr hfl ⊢
      simp only [hb, hc, hr, and_self, if_true]
      refine ⟨_, _, rfl, .inr ⟨H.length, by simp, ?_, hn0⟩, ⟨by simp, fun b' x hx hne => ?_, fun H0 h0 h => (h.set (Nat.le_trans h0 hb0) _).app _⟩⟩
      · rw [g_tail (by simp), hfl, happ]
      · have hbb : b ≠ b' := fun e => hne 0 l.length n (by rw [e])
        rw [g_app (by rw [List.length_set]; exact glt hx), g_ne hbb]; exact hx
theorem frzE_ms {α : Type} {enc : α → List T} {n : Nat} (hn : ∀ x, (enc x).length = n) (l : List α) : frzE (msC enc l) 0 l.length n = l.map enc := by
  unfold frzE
  refine List.ext_getElem? fun i => ?_
  by_cases hi : i < l.length
  · have := msC_get hn (List.getElem?_eq_getElem hi) 0 n (by omega)
    rw [ldcB_c] at this
    split at this
    · simp only [Option.some.injEq, Nat.add_zero, List.drop_zero] at this
      simp only [List.getElem?_map, List.getElem?_range hi, Option.map_some, Nat.zero_add, this, List.getElem?_eq_getElem hi]
      rw [List.take_of_length_le (by rw [hn]; omega)]
    · cases this
  · rw [List.getElem?_eq_none (by simp; omega), List.getElem?_eq_none (by simp; omega)]
/-- a written slice that is told, and then only read -/
theorem W.frz1 {α : Type} {enc : α → List T} {n : Nat} (hn : ∀ x, (enc x).length = n) {E : Env} {f : Nat} {az : List T} {H : Heap} {l : List α} {Q : Out → Heap → Prop}
    (h : W E (.call f az) H (fun o H' => ∃ b, o = .val (.msl b 0 l.length n) ∧ H'[b]? = some (.cells (msC enc l)) ∧ Q (.val (.sl .arg (l.map enc))) (H'.set b .dead))) : W E (.call f az) H Q := by
  refine .frz _ h fun o H' ⟨b, ho, hb, hq⟩ => ⟨_, b, _, ho, rfl, hb, ?_⟩
  have hc : 0 + l.length * n ≤ (msC enc l).length := by rw [msC_len hn]; omega
  simp only [frzV, Go.Rmp.frz1, hc, and_self, if_true, frzE_ms hn]
  exact hq
end Go.Rmp
end

/-! text RmpAA -/
section
/- THE LIBRARY's Insert, of one element: once for all kinds of elements. -/
namespace Go.Rmp
set_option maxRecDepth 10000
abbrev o1 (d : Nat) (b : Bo) : O := ⟨some d, .b b, none, []⟩
def insIR (n bytes : Nat) (z : List T) (fr : Nat) : Fn := ⟨95, 3, [.t 6],
  C.seq (.ops [o1 6 (.mov (.c (.sl .nil [])))]) <|
  C.seq (.ops [o1 10 (.mov (.r 0)), o1 11 (.mov (.r 1)), o1 12 (.sll n (.r 10) (some (.r 11)) none none)]) <|
  C.seq (.ops [o1 13 (.mov (.r 2)), o1 14 (.len .sl (.r 13)), o1 7 (.mov (.r 14))]) <|
  C.seq (C.seq (.ops [o1 15 (.mov (.r 7)), o1 16 (.bin .eql (.r 15) (.c (.int .i64 0)))]) <|
  .cond (.r 16)
    (C.seq (.ops [o1 17 (.mov (.r 0)), o1 6 (.mov (.r 17))]) <|
    .ret)
    (.skip)) <|
  C.seq (.ops [o1 18 (.mov (.r 0)), o1 19 (.len .sl (.r 18)), o1 8 (.mov (.r 19))]) <|
  C.seq (C.seq (.ops [o1 20 (.mov (.r 1)), o1 21 (.mov (.r 8)), o1 22 (.bin .eql (.r 20) (.r 21))]) <|
  .cond (.r 22)
    (C.seq (.ops [o1 23 (.mov (.r 0)), o1 24 (.mov (.r 2)), o1 25 (.app n bytes true (.r 23) (.r 24)), o1 6 (.mov (.r 25))]) <|
    .ret)
    (.skip)) <|
  C.seq (C.seq (.ops [o1 26 (.mov (.r 8)), o1 27 (.mov (.r 7)), o1 28 (.bin .add (.r 26) (.r 27)), o1 29 (.mov (.r 0)), o1 30 (.cap (.r 29)), o1 31 (.bin .gtr (.r 28) (.r 30))]) <|
  .cond (.r 31)
    (C.seq (.ops [o1 32 (.mov (.r 0)), o1 33 (.mov (.r 1)), o1 34 (.sll n (.r 32) none (some (.r 33)) none), o1 35 (.mov (.r 8)), o1 36 (.mov (.r 7)), o1 37 (.bin .add (.r 35) (.r 36)), o1 38 (.mov (.r 1)), o1 39 (.bin .sub (.r 37) (.r 38)), o1 40 (.apz n bytes z (.r 34) (.r 39)), o1 9 (.mov (.r 40))]) <|
    C.seq (.ops [o1 41 (.mov (.r 9)), o1 42 (.mov (.r 1)), o1 43 (.sll n (.r 41) (some (.r 42)) none none), o1 44 (.mov (.r 2)), o1 45 (.cpy n (.r 43) (.r 44))]) <|
    C.seq (.ops [o1 46 (.mov (.r 9)), o1 47 (.mov (.r 1)), o1 48 (.mov (.r 7)), o1 49 (.bin .add (.r 47) (.r 48)), o1 50 (.sll n (.r 46) (some (.r 49)) none none), o1 51 (.mov (.r 0)), o1 52 (.mov (.r 1)), o1 53 (.sll n (.r 51) (some (.r 52)) none none), o1 54 (.cpy n (.r 50) (.r 53))]) <|
    C.seq (.ops [o1 55 (.mov (.r 9)), o1 6 (.mov (.r 55))]) <|
    .ret)
    (.skip)) <|
  C.seq (.ops [o1 56 (.mov (.r 0)), o1 57 (.mov (.r 8)), o1 58 (.mov (.r 7)), o1 59 (.bin .add (.r 57) (.r 58)), o1 60 (.sll n (.r 56) none (some (.r 59)) none), o1 0 (.mov (.r 60))]) <|
  C.seq (C.seq (.ops [o1 61 (.mov (.r 2)), o1 62 (.mov (.r 0)), o1 63 (.mov (.r 1)), o1 64 (.mov (.r 7)), o1 65 (.bin .add (.r 63) (.r 64)), o1 66 (.sll n (.r 62) (some (.r 65)) none none), o1 67 (.ovl n (.r 61) (.r 66)), o1 68 (.un .not (.r 67))]) <|
  .cond (.r 68)
    (C.seq (.ops [o1 69 (.mov (.r 0)), o1 70 (.mov (.r 1)), o1 71 (.mov (.r 7)), o1 72 (.bin .add (.r 70) (.r 71)), o1 73 (.sll n (.r 69) (some (.r 72)) none none), o1 74 (.mov (.r 0)), o1 75 (.mov (.r 1)), o1 76 (.sll n (.r 74) (some (.r 75)) none none), o1 77 (.cpy n (.r 73) (.r 76))]) <|
    C.seq (.ops [o1 78 (.mov (.r 0)), o1 79 (.mov (.r 1)), o1 80 (.sll n (.r 78) (some (.r 79)) none none), o1 81 (.mov (.r 2)), o1 82 (.cpy n (.r 80) (.r 81))]) <|
    C.seq (.ops [o1 83 (.mov (.r 0)), o1 6 (.mov (.r 83))]) <|
    .ret)
    (.skip)) <|
  C.seq (.ops [o1 84 (.mov (.r 0)), o1 85 (.mov (.r 8)), o1 86 (.sll n (.r 84) (some (.r 85)) none none), o1 87 (.mov (.r 2)), o1 88 (.cpy n (.r 86) (.r 87))]) <|
  C.seq (.ops [o1 89 (.mov (.r 0)), o1 90 (.mov (.r 1)), o1 91 (.sll n (.r 89) (some (.r 90)) none none), o1 92 (.mov (.r 7)), ⟨some 93, .call fr [(.r 91), (.r 92)], none, []⟩]) <|
  C.seq (.ops [o1 94 (.mov (.r 0)), o1 6 (.mov (.r 94))]) <|
  .ret⟩
section
variable {α : Type} {enc : α → List T} {n : Nat}
theorem elemsK_ms (hn : ∀ x, (enc x).length = n) {H : Heap} {b : Nat} {xs : List α} (hb : H[b]? = some (.cells (msC enc xs))) (j k l c : Nat) (hjk : j + k ≤ xs.length) :
    elemsK H n k (.msl b (j * n) l n) = some (((xs.drop j).take k).map enc) ∧ elemsK H n k (.mslc b (j * n) l n c) = some (((xs.drop j).take k).map enc) := by
  have hm : j * n + k * n ≤ (msC enc xs).length := by rw [msC_len hn, ← Nat.add_mul]; exact Nat.mul_le_mul_right n hjk
  have e : (List.range k).map (fun i => ((msC enc xs).drop (j * n + i * n)).take n) = ((xs.drop j).take k).map enc := by
    have h1 := frzE_ms hn ((xs.drop j).take k)
    have hl : ((xs.drop j).take k).length = k := by simp; omega
    rw [hl] at h1
    rw [← h1]
    unfold frzE
    refine List.map_congr_left fun i hi => ?_
    have hi := List.mem_range.1 hi
    rw [Nat.zero_add, ← msC_take hn, ← msC_drop hn, List.drop_take, List.drop_drop, List.take_take]
    congr 1
    have : i * n + n ≤ k * n := by rw [← Nat.succ_mul]; exact Nat.mul_le_mul_right n hi
    omega
  simp -implicitDefEqProofs only [elemsK, hb, hm, and_self, if_true, e]
theorem cpy_ms (hn : ∀ x, (enc x).length = n) (hn0 : n ≠ 0) {H : Heap} {b : Nat} {xs ys : List α} {y : T} {ly len : Nat} (hb : H[b]? = some (.cells (msC enc xs))) (j c : Nat) (hj : j ≤ xs.length) (hly : lenM y = some ly) (hy : elemsK H n (min ly len) y = some (ys.map enc)) (hyl : ys.length = min ly len) :
    cpyT H n (.msl b (j * n) len n) y = some (.int .i64 (min ly len : Nat), H.set b (.cells (msC enc (xs.take j ++ ys ++ xs.drop (j + ys.length))))) ∧
    cpyT H n (.mslc b (j * n) len n c) y = some (.int .i64 (min ly len : Nat), H.set b (.cells (msC enc (xs.take j ++ ys ++ xs.drop (j + ys.length))))) := by
  have h1 : j * n ≤ (msC enc xs).length := by rw [msC_len hn]; exact Nat.mul_le_mul_right n hj
  have e : (msC enc xs).take (j * n) ++ (ys.map enc).flatten ++ (msC enc xs).drop (j * n + (min ly len) * n) = msC enc (xs.take j ++ ys ++ xs.drop (j + ys.length)) := by
    rw [← hyl, ← Nat.add_mul, msC_take hn, msC_drop hn]
    simp [msC, List.flatMap]
  simp -implicitDefEqProofs only [cpyT, hly, hb, hy, h1, hn0, ne_eq, not_false_eq_true, and_self, if_true, e]
theorem apz_ms (hn : ∀ x, (enc x).length = n) (hn0 : n ≠ 0) {H : Heap} {b bytes : Nat} {xs : List α} (zv : α) (hb : H[b]? = some (.cells (msC enc xs))) (i k c : Nat) (hi : i ≤ xs.length) (hk : 0 < k) (hc : c < i + k) (hr : roomOk (i + k) bytes = true) :
    apzT H n bytes (enc zv) (.mslc b 0 i n c) k = some (.msl H.length 0 (i + k) n, H ++ [.cells (msC enc (xs.take i ++ List.replicate k zv))]) := by
  have h1 := (elemsK_ms hn hb 0 i i c (by omega)).2
  rw [Nat.zero_mul] at h1
  have e : ((xs.take i).map enc).flatten ++ (List.replicate k (enc zv)).flatten = msC enc (xs.take i ++ List.replicate k zv) := by
    rw [msC_rep]; simp [msC, List.flatMap]
  simp -implicitDefEqProofs only [List.drop_zero] at h1
  simp -implicitDefEqProofs only [apzT, h1, hn0, ne_eq, not_false_eq_true, hk, hc, hn, hr, and_self, if_true, e]
theorem elems_one (hn : ∀ x, (enc x).length = n) {H : Heap} {bv : Nat} {v : α} (hv : H[bv]? = some (.cells (enc v))) : elemsOf H n (.msl bv 0 1 n) = some [enc v] := by
  have h1 : 0 + 1 * n ≤ (enc v).length := by rw [hn]; omega
  simp -implicitDefEqProofs only [elemsOf, hv, h1, and_self, if_true]
  have : (List.range 1).map (fun i => ((enc v).drop (0 + i * n)).take n) = [enc v] := by
    simp [List.range_succ, List.take_of_length_le (Nat.le_of_eq (hn v))]
  rw [this]
/-- what is left as it was by an insertion -/
structure StayI (n0 : Nat) (H : Heap) (t : T) (H' : Heap) : Prop where
  len : H.length ≤ H'.length
  get : ∀ b x, H[b]? = some x → (∀ off len n, t ≠ .msl b off len n) → H'[b]? = some x
  ext : ∀ H0 : Heap, H0.length ≤ n0 → Ext H0 H → Ext H0 H'
def InsQ (enc : α → List T) (n n0 : Nat) (H : Heap) (t : T) (ys : List α) : Out → Heap → Prop := fun o H' => ∃ b', o = .val (.msl b' 0 ys.length n) ∧ H'[b']? = some (.cells (msC enc ys)) ∧ n0 ≤ b' ∧ StayI n0 H t H'
theorem ins_nil {E : Env} {f bytes fr : Nat} (hn : ∀ x, (enc x).length = n) (hn0 : n ≠ 0) (zv : α) (hf : E.fn f = some (insIR n bytes (enc zv) fr)) (n0 bv : Nat) (v : α) (H : Heap) (hH : n0 ≤ H.length) (hv : H[bv]? = some (.cells (enc v))) (hr : roomOk 1 bytes = true) :
    W E (.call f [.sl .nil [], .int .i64 0, .msl bv 0 1 n]) H (InsQ enc n n0 H (.sl .nil []) [v]) := by
  refine W.fnI hf rfl rfl ?_
  have h1 := elems_one hn hv
  obtain ⟨t', H', ha, hm, hst⟩ := appM_ok (enc := enc) hn (bytes := bytes) [v] (mut_nil enc n n0 H) hH (by simp) (by simpa using hr)
  simp -implicitDefEqProofs only [List.map_cons, List.map_nil] at ha
  have n0' : natOf (.int .i64 0) = some 0 := rfl
  have z0 : ((0 : Nat) : Int) = 0 := rfl
  simp -implicitDefEqProofs only [insIR, o1, reduceIte, Int.reduceLT, Int.reduceLE, Int.reduceBEq, Int.reduceBNe, Int.reduceEq, Nat.reduceAdd, Nat.reduceLeDiff, Nat.reduceLT, Nat.reduceEqDiff, S1, z0, n0', Nat.le_refl, and_self, SK.cut, h1, fgt, ha]
  rcases hm with ⟨h0, _⟩ | ⟨b', rfl, hb', hbn⟩
  · simp at h0
  · exact ⟨b', rfl, hb', hbn, ⟨hst.len, hst.get, hst.ext⟩⟩
theorem ins_msl {E : Env} {f bytes fr : Nat} (hn : ∀ x, (enc x).length = n) (hn0 : n ≠ 0) (zv : α) (hf : E.fn f = some (insIR n bytes (enc zv) fr)) (n0 bv b i : Nat) (v : α) (xs : List α) (H : Heap) (hH : n0 ≤ H.length) (hv : H[bv]? = some (.cells (enc v))) (hb : H[b]? = some (.cells (msC enc xs))) (hbn : n0 ≤ b) (hne : bv ≠ b)
    (hi : i ≤ xs.length) (hl : xs.length < 4611686018427387903) (hr : roomOk (xs.length + 1) bytes = true) :
    W E (.call f [.msl b 0 xs.length n, .int .i64 i, .msl bv 0 1 n]) H (InsQ enc n n0 H (.msl b 0 xs.length n) (xs.take i ++ v :: xs.drop i)) := by
  have hyl : (xs.take i ++ v :: xs.drop i).length = xs.length + 1 := by simp; omega
  refine W.revl (b := b) (off := 0) (len := xs.length) (n := n) 0 (fun o H' => ∃ t b', o = .val t ∧ fgt t = .msl b' 0 (xs.length + 1) n ∧ H'[b']? = some (.cells (msC enc (xs.take i ++ v :: xs.drop i))) ∧ n0 ≤ b' ∧ StayI n0 H (.msl b 0 xs.length n) H') rfl (fun c hc => ?_) ?_
  rotate_left
  · rintro t H' ⟨t', b', ht, hfg, h1, h2, h3⟩
    cases ht
    exact ⟨b', by rw [hfg, hyl], h1, h2, h3⟩
  refine W.fnI hf rfl rfl ?_
  have h1 := elems_one hn hv
  have w1 : IntKind.i64.wrap ((xs.length : Int) + ((1 : Nat) : Int)) = ((xs.length + 1 : Nat) : Int) := by rw [wrap64 (by omega)]; omega
  have w2 : IntKind.i64.wrap ((i : Int) + ((1 : Nat) : Int)) = ((i + 1 : Nat) : Int) := by rw [wrap64 (by omega)]; omega
  have lb := glt hb
  have lv := glt hv
  by_cases hil : i = xs.length
  · subst hil
    obtain ⟨t', H', ha, hm, hst⟩ := appM_ok (enc := enc) (n0 := n0) (t := .msl b 0 xs.length n) hn (bytes := bytes) [v] (.inr ⟨b, rfl, hb, hbn⟩) hH (by simp) (by simpa using hr)
    simp -implicitDefEqProofs only [List.map_cons, List.map_nil] at ha
    simp -implicitDefEqProofs only [insIR, o1, reduceIte, Int.reduceLT, Int.reduceLE, Int.reduceBEq, Int.reduceBNe, Int.reduceEq, Nat.reduceAdd, Nat.reduceLeDiff, Nat.reduceLT, Nat.reduceEqDiff, S1, natOf_nat, Nat.le_refl, hc, and_self, h1, fgt, ha]
    rcases hm with ⟨h0, _⟩ | ⟨b', rfl, hb', hbn'⟩
    · simp at h0
    · refine ⟨_, b', rfl, by simp [fgt], ?_, hbn', ⟨hst.len, hst.get, hst.ext⟩⟩
      rw [hb']; simp
  · have hlt : i < xs.length := by omega
    have hne' : ¬ ((i : Int) = (xs.length : Int)) := by omega
    have ic : (i < c ∨ i = 0) = True := by simp; omega
    have i1 : (i + 1 < c ∨ i + 1 = 0) = (i + 1 < c) := by simp
    have mi : min 1 (xs.length + 1 - i) = 1 := by omega
    have hevk := elemsK_ms hn (xs := [v]) (b := bv) (H := H)
    by_cases hcap : c < xs.length + 1
    · have hcl : c = xs.length := by omega
      subst hcl
      have w3 : IntKind.i64.wrap (((xs.length + 1 : Nat) : Int) - (i : Int)) = ((xs.length + 1 - i : Nat) : Int) := by rw [wrap64 (by omega)]; omega
      have hsum : i + (xs.length + 1 - i) = xs.length + 1 := by omega
      have ha := apz_ms (bytes := bytes) hn hn0 zv hb i (xs.length + 1 - i) xs.length hi (by omega) (by omega) (by rw [hsum]; exact hr)
      rw [hsum] at ha
      have c0 : (0 < xs.length ∨ True) = True := by simp
      have e1 : ¬ (i = xs.length + 1) := by omega
      have e2 : ¬ (i + 1 = xs.length + 1) := by omega
      have hle : i ≤ xs.length + 1 := by omega
      have hle2 : i + 1 ≤ xs.length + 1 := by omega
      have hbt : (H ++ [B.cells (msC enc (xs.take i ++ List.replicate (xs.length + 1 - i) zv))])[H.length]? = some (.cells (msC enc (xs.take i ++ List.replicate (xs.length + 1 - i) zv))) := g_tail rfl
      have hvt : (H ++ [B.cells (msC enc (xs.take i ++ List.replicate (xs.length + 1 - i) zv))])[bv]? = some (.cells (msC enc [v])) := by rw [g_app lv, hv]; simp [msC]
      have hk1 := (elemsK_ms hn hvt 0 1 1 0 (by simp)).1
      simp -implicitDefEqProofs only [Nat.zero_mul, List.drop_zero] at hk1
      have hcp1 := (cpy_ms hn hn0 (ys := [v]) (y := .msl bv 0 1 n) (ly := 1) (len := xs.length + 1 - i) hbt i 0 (by simp; omega) rfl (by rw [mi]; simpa using hk1) (by simp; omega)).1
      rw [mi] at hcp1
      have hx2 : (xs.take i ++ List.replicate (xs.length + 1 - i) zv).take i ++ [v] ++ (xs.take i ++ List.replicate (xs.length + 1 - i) zv).drop (i + [v].length) = xs.take i ++ v :: List.replicate (xs.length - i) zv := by
        have t1 : (xs.take i).length = i := by simp; omega
        have t2 : i + 1 - i = 1 := by omega
        have t3 : xs.length + 1 - i - 1 = xs.length - i := by omega
        rw [List.take_append_of_le_length (by omega), List.take_of_length_le (by omega), List.drop_append, List.drop_eq_nil_of_le (by simp; omega), t1]
        simp [t2, t3]
      rw [hx2, hset_tail] at hcp1
      have hbt2 : (H ++ [B.cells (msC enc (xs.take i ++ v :: List.replicate (xs.length - i) zv))])[H.length]? = some (.cells (msC enc (xs.take i ++ v :: List.replicate (xs.length - i) zv))) := g_tail rfl
      have hb2 : (H ++ [B.cells (msC enc (xs.take i ++ v :: List.replicate (xs.length - i) zv))])[b]? = some (.cells (msC enc xs)) := by rw [g_app lb, hb]
      have hk2 := (elemsK_ms hn hb2 i (xs.length - i) (xs.length - i) (xs.length - i) (by omega)).2
      have hdl : ((xs.drop i).take (xs.length - i)) = xs.drop i := List.take_of_length_le (by simp)
      rw [hdl] at hk2
      have mi2 : min (xs.length - i) (xs.length + 1 - (i + 1)) = xs.length - i := by omega
      have hcp2 := (cpy_ms hn hn0 (ys := xs.drop i) (y := .mslc b (i * n) (xs.length - i) n (xs.length - i)) (ly := xs.length - i) (len := xs.length + 1 - (i + 1)) hbt2 (i + 1) 0 (by simp; omega) rfl (by rw [mi2]; exact hk2) (by simp)).1
      have hx3 : (xs.take i ++ v :: List.replicate (xs.length - i) zv).take (i + 1) ++ xs.drop i ++ (xs.take i ++ v :: List.replicate (xs.length - i) zv).drop (i + 1 + (xs.drop i).length) = xs.take i ++ v :: xs.drop i := by
        have t1 : (xs.take i).length = i := by simp; omega
        have t2 : i + 1 - i = 1 := by omega
        have d1 : (xs.take i ++ v :: List.replicate (xs.length - i) zv).drop (i + 1 + (xs.drop i).length) = [] := List.drop_eq_nil_of_le (by rw [List.length_append, t1]; simp; omega)
        have d2 : (xs.take i).take (i + 1) = xs.take i := List.take_of_length_le (by omega)
        rw [d1, List.take_append, d2, t1, t2]
        simp
      rw [hx3, hset_tail] at hcp2
      simp -implicitDefEqProofs only [insIR, o1, reduceIte, Int.reduceLT, Int.reduceLE, Int.reduceBEq, Int.reduceBNe, Int.reduceEq, Nat.reduceAdd, Nat.reduceLeDiff, Nat.reduceLT, Nat.reduceEqDiff, S1, natOf_nat, Nat.le_refl, hc, and_self, hi, ic, hne', hil, w1, w2, w3, hcap, Nat.zero_le, Nat.zero_mul, Nat.sub_zero, c0, ha, hle, hle2, e1, e2, hcp1, hcp2, or_true, if_true]
      exact ⟨_, H.length, rfl, rfl, g_tail rfl, hH, ⟨by simp, fun b' x hx _ => by rw [g_app (glt hx)]; exact hx, fun H0 _ h => h.app _⟩⟩
    · have hcap' : xs.length + 1 ≤ c := by omega
      have hcap2 : ¬ c < xs.length + 1 := hcap
      have e1 : ¬ (i = xs.length + 1) := by omega
      have hle : i ≤ xs.length + 1 := by omega
      have hle2 : i + 1 ≤ xs.length + 1 := by omega
      have c0 : (0 < c ∨ True) = True := by simp
      have c1 : i + 1 < c := by omega
      have c2 : i < c := by omega
      have hlen0 : 0 < (msC enc xs).length := by rw [msC_len hn]; exact Nat.mul_pos (by omega) (by omega)
      have hov : ovlT H n (.msl bv 0 1 n) (.mslc b ((i + 1) * n) (xs.length + 1 - (i + 1)) n (c - (i + 1))) = some (.bool false, H) := by
        simp -implicitDefEqProofs only [ovlT, hv, hb, ne_eq, hne, not_false_eq_true, hlen0, and_self, if_true]
      have hk2 := (elemsK_ms hn hb i (xs.length - i) (xs.length + 1 - i) (c - i) (by omega)).2
      have hdl : ((xs.drop i).take (xs.length - i)) = xs.drop i := List.take_of_length_le (by simp)
      rw [hdl] at hk2
      have mi2 : min (xs.length + 1 - i) (xs.length + 1 - (i + 1)) = xs.length - i := by omega
      have hcp1 := (cpy_ms hn hn0 (ys := xs.drop i) (y := .mslc b (i * n) (xs.length + 1 - i) n (c - i)) (ly := xs.length + 1 - i) (len := xs.length + 1 - (i + 1)) hb (i + 1) (c - (i + 1)) (by omega) rfl (by rw [mi2]; exact hk2) (by rw [mi2]; simp)).2
      have hx1 : xs.take (i + 1) ++ xs.drop i ++ xs.drop (i + 1 + (xs.drop i).length) = xs.take (i + 1) ++ xs.drop i := by
        have d1 : xs.drop (i + 1 + (xs.drop i).length) = [] := List.drop_eq_nil_of_le (by rw [List.length_drop]; omega)
        rw [d1, List.append_nil]
      rw [hx1] at hcp1
      have hb2 : (H.set b (.cells (msC enc (xs.take (i + 1) ++ xs.drop i))))[b]? = some (.cells (msC enc (xs.take (i + 1) ++ xs.drop i))) := g_eq lb
      have hvt : (H.set b (.cells (msC enc (xs.take (i + 1) ++ xs.drop i))))[bv]? = some (.cells (msC enc [v])) := by rw [g_ne (Ne.symm hne), hv]; simp [msC]
      have hk1 := (elemsK_ms hn hvt 0 1 1 0 (by simp)).1
      simp -implicitDefEqProofs only [Nat.zero_mul, List.drop_zero] at hk1
      have hcp2 := (cpy_ms hn hn0 (ys := [v]) (y := .msl bv 0 1 n) (ly := 1) (len := xs.length + 1 - i) hb2 i (c - i) (by simp; omega) rfl (by rw [mi]; simpa using hk1) (by simp; omega)).2
      rw [mi] at hcp2
      have hx2 : (xs.take (i + 1) ++ xs.drop i).take i ++ [v] ++ (xs.take (i + 1) ++ xs.drop i).drop (i + [v].length) = xs.take i ++ v :: xs.drop i := by
        have t1 : (xs.take (i + 1)).length = i + 1 := by simp; omega
        rw [List.take_append_of_le_length (by omega), List.take_take, List.drop_append, List.drop_eq_nil_of_le (by simp; omega), t1]
        have t2 : min i (i + 1) = i := by omega
        simp [t2]
      rw [hx2, List.set_set] at hcp2
      simp -implicitDefEqProofs only [insIR, o1, reduceIte, Int.reduceLT, Int.reduceLE, Int.reduceBEq, Int.reduceBNe, Int.reduceEq, Nat.reduceAdd, Nat.reduceLeDiff, Nat.reduceLT, Nat.reduceEqDiff, S1, natOf_nat, Nat.le_refl, hc, and_self, hi, ic, hne', hil, w1, w2, hcap', hcap2, Nat.zero_le, Nat.zero_mul, Nat.sub_zero, c0, c1, c2, true_or, hov, hle, hle2, e1, hcp1, hcp2, or_true, if_true]
      refine ⟨_, b, rfl, rfl, g_eq lb, hbn, ⟨by simp, fun b' x hx hne2 => ?_, fun H0 h0 h => h.set (Nat.le_trans h0 hbn) _⟩⟩
      have : b ≠ b' := fun e => hne2 0 xs.length n (by rw [e])
      rw [g_ne this]; exact hx
end
end Go.Rmp
end

/-! text ShardIr -/
section
/- THE IR OF THIS SEAT's FUNCTIONS, as our own program printed it (wip/gen). -/
namespace Go.Proofs.Ytpbilghnfldmiaa.Ir
open Go.Rmp
set_option maxRecDepth 100000
abbrev op (d : Nat) (b : Bo) : O := ⟨some d, .b b, none, []⟩
abbrev ef (b : Bo) : O := ⟨none, .b b, none, []⟩
abbrev cl (d f : Nat) (az : List X) : O := ⟨some d, .call f az, none, []⟩
abbrev sq (a b : C) : C := .seq a b

-- rampart/rampartlaw05.ShardAsks
def an3 : An := ⟨[], []⟩
def ir3 : Go.Rmp.Fn := ⟨32, 2, [.t 4],
  sq (.ops [op 4 (.mov (.c (.bool false)))]) <|
  sq (.ops [op 10 (.mov (.r 0)), op 11 (.mov (.r 1)), cl 12 8 [(.r 10), (.r 11)], op 9 (.mov (.r 12)), op 13 (.ext 0 (.r 9)), op 14 (.ext 1 (.r 9)), op 5 (.mov (.r 13)), op 6 (.mov (.r 14))]) <|
  sq (.ops [op 16 (.mov (.r 0)), op 17 (.mov (.r 1)), cl 18 9 [(.r 16), (.r 17)], op 15 (.mov (.r 18)), op 19 (.ext 0 (.r 15)), op 20 (.ext 1 (.r 15)), op 7 (.mov (.r 19)), op 8 (.mov (.r 20))]) <|
  sq (.ops [cl 21 10 [], op 22 (.mov (.r 21)), ⟨(some 23), .b (.mov (.r 5)), (some (22, true)), []⟩, ⟨(some 24), .b (.mov (.r 7)), (some (22, true)), []⟩, ⟨(some 25), .b (.bin .eql (.r 23) (.r 24)), (some (22, true)), []⟩, op 26 (.pick (.r 22) (.r 25) (.c (.bool false))), op 27 (.mov (.r 26)), ⟨(some 28), .b (.mov (.r 6)), (some (27, true)), []⟩, ⟨(some 29), .b (.mov (.r 8)), (some (27, true)), []⟩, ⟨(some 30), .b (.bin .eql (.r 28) (.r 29)), (some (27, true)), []⟩, op 31 (.pick (.r 27) (.r 30) (.c (.bool false))), op 4 (.mov (.r 31))]) <|
  .ret⟩

-- rampart/rampartlaw05.ShardDeals
def an4 : An := ⟨[(12, 1), (13, 1)], [(25, [(0, true), (1, true), (2, true), (3, true), (4, true), (5, true), (6, true), (7, true), (8, true), (9, true), (10, true), (11, true), (12, true), (13, true), (14, true), (15, true), (16, true), (17, true), (18, true), (19, true), (20, true)]), (31, [(0, true), (1, true), (2, true), (3, true), (4, true), (5, true), (6, true), (7, true), (8, true), (9, true), (10, true), (11, true), (12, true), (13, true), (14, true)])]⟩
def ir4 : Go.Rmp.Fn := ⟨197, 2, [.t 4],
  sq (.ops [op 4 (.mov (.c (.bool false)))]) <|
  sq (.ops [op 17 (.mov (.r 1)), cl 18 11 [(.r 17), (.c (.int .i64 63))], op 19 (.bin .add (.c (.int .i64 1)) (.r 18)), op 1 (.mov (.r 19))]) <|
  sq (.ops [op 21 (.mov (.r 0)), op 22 (.mov (.r 1)), cl 23 12 [(.r 21), (.r 22)], op 20 (.mov (.r 23)), op 24 (.ext 0 (.r 20)), op 25 (.ext 1 (.r 20)), op 5 (.mov (.r 24)), op 6 (.mov (.r 25))]) <|
  sq (sq (.ops [cl 26 10 [], op 27 (.un .not (.r 26)), op 28 (.mov (.r 27)), ⟨(some 29), .b (.mov (.r 6)), (some (28, false)), []⟩, ⟨(some 30), .b (.bin .neq (.r 29) (.c (.int .i64 0))), (some (28, false)), []⟩, op 31 (.pick (.r 28) (.c (.bool true)) (.r 30))]) <|
  .cond (.r 31)
    (sq (.ops [op 4 (.mov (.c (.bool false)))]) <|
    .ret)
    (.skip)) <|
  sq (.ops [op 7 (.mov (.c (.int .i64 (-1))))]) <|
  sq (sq (.ops [op 8 (.mov (.c (.int .i64 0)))]) <|
  .block 0 (
    .loop (
      sq (sq (.ops [op 32 (.mov (.r 8)), op 33 (.mov (.r 5)), op 34 (.len .sl (.r 33)), op 35 (.bin .lss (.r 32) (.r 34))]) <|
      .cond (.r 35)
        (.skip)
        (.exit 0)) <|
      sq (.block 1 (
        sq (sq (.ops [op 38 (.mov (.r 5)), op 39 (.mov (.r 8)), op 40 (.iad 2 (.r 38) (.r 39)), op 41 (.fad 0 (.r 40)), op 42 (.ld 1 false (.r 41)), op 43 (.mov (.r 7)), op 44 (.bin .leq (.r 42) (.r 43)), op 45 (.mov (.r 44)), ⟨(some 46), .b (.mov (.r 5)), (some (45, false)), []⟩, ⟨(some 47), .b (.mov (.r 8)), (some (45, false)), []⟩, ⟨(some 48), .b (.iad 2 (.r 46) (.r 47)), (some (45, false)), []⟩, ⟨(some 49), .b (.fad 0 (.r 48)), (some (45, false)), []⟩, ⟨(some 50), .b (.ld 1 false (.r 49)), (some (45, false)), []⟩, ⟨(some 51), .b (.mov (.r 1)), (some (45, false)), []⟩, ⟨(some 52), .b (.bin .geq (.r 50) (.r 51)), (some (45, false)), []⟩, op 53 (.pick (.r 45) (.c (.bool true)) (.r 52)), op 54 (.mov (.r 53)), ⟨(some 55), .b (.mov (.r 5)), (some (54, false)), []⟩, ⟨(some 56), .b (.mov (.r 8)), (some (54, false)), []⟩, ⟨(some 57), .b (.iad 2 (.r 55) (.r 56)), (some (54, false)), []⟩, ⟨(some 58), .b (.fad 1 (.r 57)), (some (54, false)), []⟩, ⟨(some 59), .b (.ld 1 false (.r 58)), (some (54, false)), []⟩, ⟨(some 60), .b (.len .sl (.r 59)), (some (54, false)), []⟩, ⟨(some 61), .b (.bin .eql (.r 60) (.c (.int .i64 0))), (some (54, false)), []⟩, op 62 (.pick (.r 54) (.c (.bool true)) (.r 61))]) <|
        .cond (.r 62)
          (sq (.ops [op 4 (.mov (.c (.bool false)))]) <|
          .ret)
          (.skip)) <|
        .ops [op 63 (.mov (.r 5)), op 64 (.mov (.r 8)), op 65 (.iad 2 (.r 63) (.r 64)), op 66 (.fad 0 (.r 65)), op 67 (.ld 1 false (.r 66)), op 7 (.mov (.r 67))])) <|
      .ops [op 36 (.mov (.r 8)), op 37 (.bin .add (.r 36) (.c (.int .i64 1))), op 8 (.mov (.r 37))]))) <|
  sq (.ops [op 68 (.mov (.r 1)), op 69 (.mks true 8 [.int .i64 0] (.r 68) (.r 68)), op 9 (.mov (.r 69))]) <|
  sq (.ops [op 70 (.mov (.r 1)), op 71 (.mks true 8 [.int .i64 0] (.r 70) (.r 70)), op 10 (.mov (.r 71))]) <|
  sq (sq (.ops [op 11 (.mov (.c (.int .i64 0)))]) <|
  .block 2 (
    .loop (
      sq (sq (.ops [op 72 (.mov (.r 11)), op 73 (.mov (.r 5)), op 74 (.len .sl (.r 73)), op 75 (.bin .lss (.r 72) (.r 74))]) <|
      .cond (.r 75)
        (.skip)
        (.exit 2)) <|
      sq (.block 3 (
        .ops [op 78 (.mov (.r 10)), op 79 (.mov (.r 5)), op 80 (.mov (.r 11)), op 81 (.iad 2 (.r 79) (.r 80)), op 82 (.fad 0 (.r 81)), op 83 (.ld 1 false (.r 82)), op 84 (.mov (.r 11)), op 85 (.bin .add (.r 84) (.c (.int .i64 1))), op 86 (.iad 1 (.r 78) (.r 83)), ef (.st 1 (.r 86) (.r 85))])) <|
      .ops [op 76 (.mov (.r 11)), op 77 (.bin .add (.r 76) (.c (.int .i64 1))), op 11 (.mov (.r 77))]))) <|
  sq (sq (.ops [op 12 (.mov (.c (.int .i64 0)))]) <|
  .block 4 (
    .loop (
      sq (sq (.ops [op 87 (.mov (.r 12)), op 88 (.mov (.r 0)), op 89 (.len .sl (.r 88)), op 90 (.bin .lss (.r 87) (.r 89))]) <|
      .cond (.r 90)
        (.skip)
        (.exit 4)) <|
      sq (.block 5 (
        sq (.ops [op 94 (.mov (.r 0)), op 95 (.mov (.r 12)), op 96 (.iad 1 (.r 94) (.r 95)), op 97 (.ld 1 false (.r 96)), op 98 (.mov (.r 1)), cl 99 8 [(.r 97), (.r 98)], op 93 (.mov (.r 99)), op 100 (.ext 0 (.r 93)), op 101 (.ext 1 (.r 93)), op 13 (.mov (.r 100)), op 14 (.mov (.r 101))]) <|
        sq (sq (.ops [op 102 (.mov (.r 14)), op 103 (.bin .neq (.r 102) (.c (.int .i64 0))), op 104 (.mov (.r 103)), ⟨(some 105), .b (.mov (.r 13)), (some (104, false)), []⟩, ⟨(some 106), .b (.bin .lss (.r 105) (.c (.int .i64 0))), (some (104, false)), []⟩, op 107 (.pick (.r 104) (.c (.bool true)) (.r 106)), op 108 (.mov (.r 107)), ⟨(some 109), .b (.mov (.r 13)), (some (108, false)), []⟩, ⟨(some 110), .b (.mov (.r 1)), (some (108, false)), []⟩, ⟨(some 111), .b (.bin .geq (.r 109) (.r 110)), (some (108, false)), []⟩, op 112 (.pick (.r 108) (.c (.bool true)) (.r 111)), op 113 (.mov (.r 112)), ⟨(some 114), .b (.mov (.r 10)), (some (113, false)), []⟩, ⟨(some 115), .b (.mov (.r 13)), (some (113, false)), []⟩, ⟨(some 116), .b (.iad 1 (.r 114) (.r 115)), (some (113, false)), []⟩, ⟨(some 117), .b (.ld 1 false (.r 116)), (some (113, false)), []⟩, ⟨(some 118), .b (.bin .eql (.r 117) (.c (.int .i64 0))), (some (113, false)), []⟩, op 119 (.pick (.r 113) (.c (.bool true)) (.r 118))]) <|
        .cond (.r 119)
          (sq (.ops [op 4 (.mov (.c (.bool false)))]) <|
          .ret)
          (.skip)) <|
        sq (.ops [op 120 (.mov (.r 5)), op 121 (.mov (.r 10)), op 122 (.mov (.r 13)), op 123 (.iad 1 (.r 121) (.r 122)), op 124 (.ld 1 false (.r 123)), op 125 (.bin .sub (.r 124) (.c (.int .i64 1))), op 126 (.iad 2 (.r 120) (.r 125)), op 127 (.fad 1 (.r 126)), op 128 (.ld 1 false (.r 127)), op 15 (.mov (.r 128))]) <|
        sq (sq (.ops [op 129 (.mov (.r 9)), op 130 (.mov (.r 13)), op 131 (.iad 1 (.r 129) (.r 130)), op 132 (.ld 1 false (.r 131)), op 133 (.mov (.r 15)), op 134 (.len .sl (.r 133)), op 135 (.bin .geq (.r 132) (.r 134)), op 136 (.mov (.r 135)), ⟨(some 137), .b (.mov (.r 15)), (some (136, false)), []⟩, ⟨(some 138), .b (.mov (.r 9)), (some (136, false)), []⟩, ⟨(some 139), .b (.mov (.r 13)), (some (136, false)), []⟩, ⟨(some 140), .b (.iad 1 (.r 138) (.r 139)), (some (136, false)), []⟩, ⟨(some 141), .b (.ld 1 false (.r 140)), (some (136, false)), []⟩, ⟨(some 142), .b (.iad 1 (.r 137) (.r 141)), (some (136, false)), []⟩, ⟨(some 143), .b (.ld 1 false (.r 142)), (some (136, false)), []⟩, ⟨(some 144), .b (.mov (.r 0)), (some (136, false)), []⟩, ⟨(some 145), .b (.mov (.r 12)), (some (136, false)), []⟩, ⟨(some 146), .b (.iad 1 (.r 144) (.r 145)), (some (136, false)), []⟩, ⟨(some 147), .b (.ld 1 false (.r 146)), (some (136, false)), []⟩, ⟨(some 148), .b (.bin .neq (.r 143) (.r 147)), (some (136, false)), []⟩, op 149 (.pick (.r 136) (.c (.bool true)) (.r 148))]) <|
        .cond (.r 149)
          (sq (.ops [op 4 (.mov (.c (.bool false)))]) <|
          .ret)
          (.skip)) <|
        .ops [op 150 (.mov (.r 9)), op 151 (.mov (.r 13)), op 152 (.iad 1 (.r 150) (.r 151)), op 153 (.ld 1 false (.r 152)), op 154 (.bin .add (.r 153) (.c (.int .i64 1))), op 155 (.iad 1 (.r 150) (.r 151)), ef (.st 1 (.r 155) (.r 154))])) <|
      .ops [op 91 (.mov (.r 12)), op 92 (.bin .add (.r 91) (.c (.int .i64 1))), op 12 (.mov (.r 92))]))) <|
  sq (sq (.ops [op 16 (.mov (.c (.int .i64 0)))]) <|
  .block 6 (
    .loop (
      sq (sq (.ops [op 156 (.mov (.r 16)), op 157 (.mov (.r 5)), op 158 (.len .sl (.r 157)), op 159 (.bin .lss (.r 156) (.r 158))]) <|
      .cond (.r 159)
        (.skip)
        (.exit 6)) <|
      sq (.block 7 (
        sq (.ops [op 162 (.mov (.r 9)), op 163 (.mov (.r 5)), op 164 (.mov (.r 16)), op 165 (.iad 2 (.r 163) (.r 164)), op 166 (.fad 0 (.r 165)), op 167 (.ld 1 false (.r 166)), op 168 (.iad 1 (.r 162) (.r 167)), op 169 (.ld 1 false (.r 168)), op 170 (.mov (.r 5)), op 171 (.mov (.r 16)), op 172 (.iad 2 (.r 170) (.r 171)), op 173 (.fad 1 (.r 172)), op 174 (.ld 1 false (.r 173)), op 175 (.len .sl (.r 174)), op 176 (.bin .neq (.r 169) (.r 175))]) <|
        .cond (.r 176)
          (sq (.ops [op 4 (.mov (.c (.bool false)))]) <|
          .ret)
          (.skip))) <|
      .ops [op 160 (.mov (.r 16)), op 161 (.bin .add (.r 160) (.c (.int .i64 1))), op 16 (.mov (.r 161))]))) <|
  sq (.ops [op 177 (.mov (.r 1)), op 178 (.bin .gtr (.r 177) (.c (.int .i64 1))), op 179 (.mov (.r 178)), ⟨(some 180), .b (.mov (.r 0)), (some (179, false)), []⟩, ⟨(some 181), .b (.len .sl (.r 180)), (some (179, false)), []⟩, ⟨(some 182), .b (.bin .eql (.r 181) (.c (.int .i64 0))), (some (179, false)), []⟩, op 183 (.pick (.r 179) (.c (.bool true)) (.r 182)), op 184 (.mov (.r 183)), ⟨(some 185), .b (.mov (.r 5)), (some (184, false)), []⟩, ⟨(some 186), .b (.len .sl (.r 185)), (some (184, false)), []⟩, ⟨(some 187), .b (.bin .eql (.r 186) (.c (.int .i64 1))), (some (184, false)), []⟩, ⟨(some 188), .b (.mov (.r 187)), (some (184, false)), []⟩, ⟨(some 189), .b (.mov (.r 5)), (some (188, true)), []⟩, ⟨(some 190), .b (.iad 2 (.r 189) (.c (.int .i64 0))), (some (188, true)), []⟩, ⟨(some 191), .b (.fad 1 (.r 190)), (some (188, true)), []⟩, ⟨(some 192), .b (.ld 1 false (.r 191)), (some (188, true)), []⟩, ⟨(some 193), .b (.mov (.r 0)), (some (188, true)), []⟩, ⟨(some 194), .call 13 [(.r 192), (.r 193)], (some (188, true)), []⟩, ⟨(some 195), .b (.pick (.r 188) (.r 194) (.c (.bool false))), (some (184, false)), []⟩, op 196 (.pick (.r 184) (.c (.bool true)) (.r 195)), op 4 (.mov (.r 196))]) <|
  .ret⟩

-- rampart/rampartlaw05.ShardGroups
def an5 : An := ⟨[], [(10, [(0, true), (1, true), (2, true), (3, true), (4, true), (5, true), (6, true), (7, true), (8, true), (9, true), (10, true), (11, true), (12, true), (13, true), (14, true), (15, true), (16, true), (17, true), (18, true), (19, true), (20, true), (21, true), (22, false), (23, true), (24, true)]), (15, [(0, true), (1, true), (2, true), (3, true), (4, true), (5, true), (6, true), (7, true), (8, true), (9, true), (10, true), (11, true), (12, true), (13, true), (14, true), (15, true), (16, true), (17, true), (18, true), (19, true), (20, true), (21, true), (22, false), (23, true), (24, true)])]⟩
def ir5 : Go.Rmp.Fn := ⟨129, 3, [.t 6],
  sq (.ops [op 6 (.mov (.c (.bool false)))]) <|
  sq (.ops [op 18 (.mov (.r 0)), op 19 (.mov (.r 2)), cl 20 12 [(.r 18), (.r 19)], op 17 (.mov (.r 20)), op 21 (.ext 0 (.r 17)), op 22 (.ext 1 (.r 17)), op 7 (.mov (.r 21)), op 8 (.mov (.r 22))]) <|
  sq (.ops [op 24 (.mov (.r 0)), op 25 (.mov (.r 2)), cl 26 14 [(.r 24), (.r 25)], op 23 (.mov (.r 26)), op 27 (.ext 0 (.r 23)), op 28 (.ext 1 (.r 23)), op 9 (.mov (.r 27)), op 10 (.mov (.r 28))]) <|
  sq (.ops [op 30 (.mov (.r 1)), op 31 (.mov (.r 2)), cl 32 15 [(.r 30), (.r 31)], op 29 (.mov (.r 32)), op 33 (.ext 0 (.r 29)), op 34 (.ext 1 (.r 29)), op 11 (.mov (.r 33)), op 12 (.mov (.r 34))]) <|
  sq (.ops [op 36 (.mov (.r 1)), op 37 (.mov (.r 2)), cl 38 16 [(.r 36), (.r 37)], op 35 (.mov (.r 38)), op 39 (.ext 0 (.r 35)), op 40 (.ext 1 (.r 35)), op 13 (.mov (.r 39)), op 14 (.mov (.r 40))]) <|
  sq (sq (.ops [cl 41 10 [], op 42 (.un .not (.r 41)), op 43 (.mov (.r 42)), ⟨(some 44), .b (.mov (.r 8)), (some (43, false)), []⟩, ⟨(some 45), .b (.mov (.r 10)), (some (43, false)), []⟩, ⟨(some 46), .b (.bin .neq (.r 44) (.r 45)), (some (43, false)), []⟩, op 47 (.pick (.r 43) (.c (.bool true)) (.r 46)), op 48 (.mov (.r 47)), ⟨(some 49), .b (.mov (.r 12)), (some (48, false)), []⟩, ⟨(some 50), .b (.mov (.r 14)), (some (48, false)), []⟩, ⟨(some 51), .b (.bin .neq (.r 49) (.r 50)), (some (48, false)), []⟩, op 52 (.pick (.r 48) (.c (.bool true)) (.r 51)), op 53 (.mov (.r 52)), ⟨(some 54), .b (.mov (.r 7)), (some (53, false)), []⟩, ⟨(some 55), .b (.len .sl (.r 54)), (some (53, false)), []⟩, ⟨(some 56), .b (.mov (.r 9)), (some (53, false)), []⟩, ⟨(some 57), .b (.len .sl (.r 56)), (some (53, false)), []⟩, ⟨(some 58), .b (.bin .neq (.r 55) (.r 57)), (some (53, false)), []⟩, op 59 (.pick (.r 53) (.c (.bool true)) (.r 58)), op 60 (.mov (.r 59)), ⟨(some 61), .b (.mov (.r 11)), (some (60, false)), []⟩, ⟨(some 62), .b (.len .sl (.r 61)), (some (60, false)), []⟩, ⟨(some 63), .b (.mov (.r 13)), (some (60, false)), []⟩, ⟨(some 64), .b (.len .sl (.r 63)), (some (60, false)), []⟩, ⟨(some 65), .b (.bin .neq (.r 62) (.r 64)), (some (60, false)), []⟩, op 66 (.pick (.r 60) (.c (.bool true)) (.r 65))]) <|
  .cond (.r 66)
    (sq (.ops [op 6 (.mov (.c (.bool false)))]) <|
    .ret)
    (.skip)) <|
  sq (sq (.ops [op 15 (.mov (.c (.int .i64 0)))]) <|
  .block 0 (
    .loop (
      sq (sq (.ops [op 67 (.mov (.r 15)), op 68 (.mov (.r 7)), op 69 (.len .sl (.r 68)), op 70 (.bin .lss (.r 67) (.r 69))]) <|
      .cond (.r 70)
        (.skip)
        (.exit 0)) <|
      sq (.block 1 (
        sq (.ops [op 73 (.mov (.r 7)), op 74 (.mov (.r 15)), op 75 (.iad 2 (.r 73) (.r 74)), op 76 (.fad 0 (.r 75)), op 77 (.ld 1 false (.r 76)), op 78 (.mov (.r 9)), op 79 (.mov (.r 15)), op 80 (.iad 2 (.r 78) (.r 79)), op 81 (.fad 0 (.r 80)), op 82 (.ld 1 false (.r 81)), op 83 (.bin .neq (.r 77) (.r 82)), op 84 (.mov (.r 83)), ⟨(some 85), .b (.mov (.r 7)), (some (84, false)), []⟩, ⟨(some 86), .b (.mov (.r 15)), (some (84, false)), []⟩, ⟨(some 87), .b (.iad 2 (.r 85) (.r 86)), (some (84, false)), []⟩, ⟨(some 88), .b (.fad 1 (.r 87)), (some (84, false)), []⟩, ⟨(some 89), .b (.ld 1 false (.r 88)), (some (84, false)), []⟩, ⟨(some 90), .b (.mov (.r 9)), (some (84, false)), []⟩, ⟨(some 91), .b (.mov (.r 15)), (some (84, false)), []⟩, ⟨(some 92), .b (.iad 2 (.r 90) (.r 91)), (some (84, false)), []⟩, ⟨(some 93), .b (.fad 1 (.r 92)), (some (84, false)), []⟩, ⟨(some 94), .b (.ld 1 false (.r 93)), (some (84, false)), []⟩, ⟨(some 95), .call 13 [(.r 89), (.r 94)], (some (84, false)), []⟩, ⟨(some 96), .b (.un .not (.r 95)), (some (84, false)), []⟩, op 97 (.pick (.r 84) (.c (.bool true)) (.r 96))]) <|
        .cond (.r 97)
          (sq (.ops [op 6 (.mov (.c (.bool false)))]) <|
          .ret)
          (.skip))) <|
      .ops [op 71 (.mov (.r 15)), op 72 (.bin .add (.r 71) (.c (.int .i64 1))), op 15 (.mov (.r 72))]))) <|
  sq (sq (.ops [op 16 (.mov (.c (.int .i64 0)))]) <|
  .block 2 (
    .loop (
      sq (sq (.ops [op 98 (.mov (.r 16)), op 99 (.mov (.r 11)), op 100 (.len .sl (.r 99)), op 101 (.bin .lss (.r 98) (.r 100))]) <|
      .cond (.r 101)
        (.skip)
        (.exit 2)) <|
      sq (.block 3 (
        sq (.ops [op 104 (.mov (.r 11)), op 105 (.mov (.r 16)), op 106 (.iad 2 (.r 104) (.r 105)), op 107 (.fad 0 (.r 106)), op 108 (.ld 1 false (.r 107)), op 109 (.mov (.r 13)), op 110 (.mov (.r 16)), op 111 (.iad 2 (.r 109) (.r 110)), op 112 (.fad 0 (.r 111)), op 113 (.ld 1 false (.r 112)), op 114 (.bin .neq (.r 108) (.r 113)), op 115 (.mov (.r 114)), ⟨(some 116), .b (.mov (.r 11)), (some (115, false)), []⟩, ⟨(some 117), .b (.mov (.r 16)), (some (115, false)), []⟩, ⟨(some 118), .b (.iad 2 (.r 116) (.r 117)), (some (115, false)), []⟩, ⟨(some 119), .b (.fad 1 (.r 118)), (some (115, false)), []⟩, ⟨(some 120), .b (.ld 1 false (.r 119)), (some (115, false)), []⟩, ⟨(some 121), .b (.mov (.r 13)), (some (115, false)), []⟩, ⟨(some 122), .b (.mov (.r 16)), (some (115, false)), []⟩, ⟨(some 123), .b (.iad 2 (.r 121) (.r 122)), (some (115, false)), []⟩, ⟨(some 124), .b (.fad 1 (.r 123)), (some (115, false)), []⟩, ⟨(some 125), .b (.ld 1 false (.r 124)), (some (115, false)), []⟩, ⟨(some 126), .call 17 [(.r 120), (.r 125)], (some (115, false)), []⟩, ⟨(some 127), .b (.un .not (.r 126)), (some (115, false)), []⟩, op 128 (.pick (.r 115) (.c (.bool true)) (.r 127))]) <|
        .cond (.r 128)
          (sq (.ops [op 6 (.mov (.c (.bool false)))]) <|
          .ret)
          (.skip))) <|
      .ops [op 102 (.mov (.r 16)), op 103 (.bin .add (.r 102) (.c (.int .i64 1))), op 16 (.mov (.r 103))]))) <|
  sq (.ops [op 6 (.mov (.c (.bool true)))]) <|
  .ret⟩

-- rampart/rampartlaw05.ShardPairs
def an6 : An := ⟨[(10, 0)], [(14, [(0, true), (1, true), (2, true), (3, true), (4, true), (5, true), (6, true), (7, true), (8, true), (9, true), (10, true), (11, true), (12, true), (13, true), (14, true), (15, true), (16, true), (17, true), (18, true), (19, true), (20, true), (21, true), (22, true), (23, true), (24, true), (25, true), (26, true), (27, true), (28, true), (29, true), (30, true), (31, true), (32, true), (33, true), (34, true), (35, true), (36, true), (37, true), (38, true), (39, true), (40, true), (41, true)]), (26, [(0, true), (1, true), (2, true), (3, true), (4, true), (5, true), (6, true), (7, true), (8, true), (9, true), (10, true), (11, true), (12, true), (13, true), (14, true), (15, true), (16, true), (17, true), (18, true), (19, true)]), (27, [(0, true), (1, true), (2, true), (3, true), (4, true), (5, true), (6, true), (7, true), (8, true), (9, true), (10, true), (11, true), (12, true), (13, true), (14, true), (15, true), (16, true)])]⟩
def ir6 : Go.Rmp.Fn := ⟨194, 2, [.t 4],
  sq (.ops [op 4 (.mov (.c (.bool false)))]) <|
  sq (.ops [op 5 (.mov (.c (.sl .nil [])))]) <|
  sq (sq (.ops [op 6 (.mov (.c (.int .i64 0)))]) <|
  .block 0 (
    .loop (
      sq (sq (.ops [op 18 (.mov (.r 6)), op 19 (.mov (.r 0)), op 20 (.len .sl (.r 19)), op 21 (.bin .lss (.r 18) (.r 20))]) <|
      .cond (.r 21)
        (.skip)
        (.exit 0)) <|
      sq (.block 1 (
        .ops [op 24 (.mov (.r 5)), op 25 (.mov (.r 0)), op 26 (.mov (.r 6)), op 27 (.iad 2 (.r 25) (.r 26)), op 28 (.fad 0 (.r 27)), op 29 (.ld 1 false (.r 28)), op 30 (.bsl 1 [.str ⟨#[]⟩] [(0, (.r 29))]), op 31 (.app 1 16 false (.r 24) (.r 30)), op 5 (.mov (.r 31))])) <|
      .ops [op 22 (.mov (.r 6)), op 23 (.bin .add (.r 22) (.c (.int .i64 1))), op 6 (.mov (.r 23))]))) <|
  sq (.ops [op 33 (.mov (.r 5)), op 34 (.mov (.r 1)), cl 35 12 [(.r 33), (.r 34)], op 32 (.mov (.r 35)), op 36 (.ext 0 (.r 32)), op 37 (.ext 1 (.r 32)), op 7 (.mov (.r 36)), op 8 (.mov (.r 37))]) <|
  sq (.ops [op 39 (.mov (.r 0)), op 40 (.mov (.r 1)), cl 41 15 [(.r 39), (.r 40)], op 38 (.mov (.r 41)), op 42 (.ext 0 (.r 38)), op 43 (.ext 1 (.r 38)), op 9 (.mov (.r 42)), op 10 (.mov (.r 43))]) <|
  sq (sq (.ops [cl 44 10 [], op 45 (.un .not (.r 44)), op 46 (.mov (.r 45)), ⟨(some 47), .b (.mov (.r 8)), (some (46, false)), []⟩, ⟨(some 48), .b (.mov (.r 10)), (some (46, false)), []⟩, ⟨(some 49), .b (.bin .neq (.r 47) (.r 48)), (some (46, false)), []⟩, op 50 (.pick (.r 46) (.c (.bool true)) (.r 49)), op 51 (.mov (.r 50)), ⟨(some 52), .b (.mov (.r 7)), (some (51, false)), []⟩, ⟨(some 53), .b (.len .sl (.r 52)), (some (51, false)), []⟩, ⟨(some 54), .b (.mov (.r 9)), (some (51, false)), []⟩, ⟨(some 55), .b (.len .sl (.r 54)), (some (51, false)), []⟩, ⟨(some 56), .b (.bin .neq (.r 53) (.r 55)), (some (51, false)), []⟩, op 57 (.pick (.r 51) (.c (.bool true)) (.r 56)), op 58 (.mov (.r 57)), ⟨(some 59), .b (.mov (.r 8)), (some (58, false)), []⟩, ⟨(some 60), .b (.bin .neq (.r 59) (.c (.int .i64 0))), (some (58, false)), []⟩, ⟨(some 61), .b (.mov (.r 1)), (some (58, false)), []⟩, ⟨(some 62), .b (.bin .lss (.r 61) (.c (.int .i64 1))), (some (58, false)), []⟩, ⟨(some 63), .b (.mov (.r 62)), (some (58, false)), []⟩, ⟨(some 64), .b (.mov (.r 1)), (some (63, false)), []⟩, ⟨(some 65), .b (.bin .gtr (.r 64) (.c (.int .i64 64))), (some (63, false)), []⟩, ⟨(some 66), .b (.pick (.r 63) (.c (.bool true)) (.r 65)), (some (58, false)), []⟩, ⟨(some 67), .b (.beq true (.r 60) (.r 66)), (some (58, false)), []⟩, op 68 (.pick (.r 58) (.c (.bool true)) (.r 67))]) <|
  .cond (.r 68)
    (sq (.ops [op 4 (.mov (.c (.bool false)))]) <|
    .ret)
    (.skip)) <|
  sq (.ops [op 69 (.mks true 8 [.int .i64 0] (.c (.int .i64 65)) (.c (.int .i64 65))), op 11 (.mov (.r 69))]) <|
  sq (sq (.ops [op 12 (.mov (.c (.int .i64 0)))]) <|
  .block 2 (
    .loop (
      sq (sq (.ops [op 70 (.mov (.r 12)), op 71 (.mov (.r 7)), op 72 (.len .sl (.r 71)), op 73 (.bin .lss (.r 70) (.r 72))]) <|
      .cond (.r 73)
        (.skip)
        (.exit 2)) <|
      sq (.block 3 (
        sq (.ops [op 76 (.mov (.r 7)), op 77 (.mov (.r 12)), op 78 (.iad 2 (.r 76) (.r 77)), op 79 (.fad 0 (.r 78)), op 80 (.ld 1 false (.r 79)), op 81 (.mov (.r 9)), op 82 (.mov (.r 12)), op 83 (.iad 2 (.r 81) (.r 82)), op 84 (.fad 0 (.r 83)), op 85 (.ld 1 false (.r 84)), op 86 (.bin .neq (.r 80) (.r 85)), op 87 (.mov (.r 86)), ⟨(some 88), .b (.mov (.r 7)), (some (87, false)), []⟩, ⟨(some 89), .b (.mov (.r 12)), (some (87, false)), []⟩, ⟨(some 90), .b (.iad 2 (.r 88) (.r 89)), (some (87, false)), []⟩, ⟨(some 91), .b (.fad 1 (.r 90)), (some (87, false)), []⟩, ⟨(some 92), .b (.ld 1 false (.r 91)), (some (87, false)), []⟩, ⟨(some 93), .b (.len .sl (.r 92)), (some (87, false)), []⟩, ⟨(some 94), .b (.mov (.r 9)), (some (87, false)), []⟩, ⟨(some 95), .b (.mov (.r 12)), (some (87, false)), []⟩, ⟨(some 96), .b (.iad 2 (.r 94) (.r 95)), (some (87, false)), []⟩, ⟨(some 97), .b (.fad 1 (.r 96)), (some (87, false)), []⟩, ⟨(some 98), .b (.ld 1 false (.r 97)), (some (87, false)), []⟩, ⟨(some 99), .b (.len .sl (.r 98)), (some (87, false)), []⟩, ⟨(some 100), .b (.bin .neq (.r 93) (.r 99)), (some (87, false)), []⟩, op 101 (.pick (.r 87) (.c (.bool true)) (.r 100)), op 102 (.mov (.r 101)), ⟨(some 103), .b (.mov (.r 7)), (some (102, false)), []⟩, ⟨(some 104), .b (.mov (.r 12)), (some (102, false)), []⟩, ⟨(some 105), .b (.iad 2 (.r 103) (.r 104)), (some (102, false)), []⟩, ⟨(some 106), .b (.fad 0 (.r 105)), (some (102, false)), []⟩, ⟨(some 107), .b (.ld 1 false (.r 106)), (some (102, false)), []⟩, ⟨(some 108), .b (.bin .lss (.r 107) (.c (.int .i64 0))), (some (102, false)), []⟩, op 109 (.pick (.r 102) (.c (.bool true)) (.r 108)), op 110 (.mov (.r 109)), ⟨(some 111), .b (.mov (.r 7)), (some (110, false)), []⟩, ⟨(some 112), .b (.mov (.r 12)), (some (110, false)), []⟩, ⟨(some 113), .b (.iad 2 (.r 111) (.r 112)), (some (110, false)), []⟩, ⟨(some 114), .b (.fad 0 (.r 113)), (some (110, false)), []⟩, ⟨(some 115), .b (.ld 1 false (.r 114)), (some (110, false)), []⟩, ⟨(some 116), .b (.bin .gtr (.r 115) (.c (.int .i64 63))), (some (110, false)), []⟩, op 117 (.pick (.r 110) (.c (.bool true)) (.r 116))]) <|
        .cond (.r 117)
          (sq (.ops [op 4 (.mov (.c (.bool false)))]) <|
          .ret)
          (.skip))) <|
      .ops [op 74 (.mov (.r 12)), op 75 (.bin .add (.r 74) (.c (.int .i64 1))), op 12 (.mov (.r 75))]))) <|
  sq (sq (.ops [op 13 (.mov (.c (.int .i64 0)))]) <|
  .block 4 (
    .loop (
      sq (sq (.ops [op 118 (.mov (.r 13)), op 119 (.mov (.r 0)), op 120 (.len .sl (.r 119)), op 121 (.bin .lss (.r 118) (.r 120)), op 122 (.mov (.r 121)), ⟨(some 123), .b (.mov (.r 8)), (some (122, true)), []⟩, ⟨(some 124), .b (.bin .eql (.r 123) (.c (.int .i64 0))), (some (122, true)), []⟩, op 125 (.pick (.r 122) (.r 124) (.c (.bool false)))]) <|
      .cond (.r 125)
        (.skip)
        (.exit 4)) <|
      sq (.block 5 (
        sq (.ops [op 129 (.mov (.r 0)), op 130 (.mov (.r 13)), op 131 (.iad 2 (.r 129) (.r 130)), op 132 (.fad 0 (.r 131)), op 133 (.ld 1 false (.r 132)), op 134 (.mov (.r 1)), cl 135 8 [(.r 133), (.r 134)], op 128 (.mov (.r 135)), op 136 (.ext 0 (.r 128)), op 137 (.ext 1 (.r 128)), op 14 (.mov (.r 136)), op 15 (.mov (.r 137))]) <|
        sq (sq (.ops [op 138 (.mov (.r 14)), op 139 (.bin .lss (.r 138) (.c (.int .i64 0))), op 140 (.mov (.r 139)), ⟨(some 141), .b (.mov (.r 14)), (some (140, false)), []⟩, ⟨(some 142), .b (.bin .gtr (.r 141) (.c (.int .i64 63))), (some (140, false)), []⟩, op 143 (.pick (.r 140) (.c (.bool true)) (.r 142))]) <|
        .cond (.r 143)
          (sq (.ops [op 4 (.mov (.c (.bool false)))]) <|
          .ret)
          (.skip)) <|
        sq (.ops [op 16 (.mov (.c (.bool false)))]) <|
        sq (sq (.ops [op 17 (.mov (.c (.int .i64 0)))]) <|
        .block 6 (
          .loop (
            sq (sq (.ops [op 144 (.mov (.r 17)), op 145 (.mov (.r 9)), op 146 (.len .sl (.r 145)), op 147 (.bin .lss (.r 144) (.r 146))]) <|
            .cond (.r 147)
              (.skip)
              (.exit 6)) <|
            sq (.block 7 (
              sq (.ops [op 150 (.mov (.r 9)), op 151 (.mov (.r 17)), op 152 (.iad 2 (.r 150) (.r 151)), op 153 (.fad 0 (.r 152)), op 154 (.ld 1 false (.r 153)), op 155 (.mov (.r 14)), op 156 (.bin .eql (.r 154) (.r 155)), op 157 (.mov (.r 156)), ⟨(some 158), .b (.mov (.r 11)), (some (157, true)), []⟩, ⟨(some 159), .b (.mov (.r 14)), (some (157, true)), []⟩, ⟨(some 160), .b (.iad 1 (.r 158) (.r 159)), (some (157, true)), []⟩, ⟨(some 161), .b (.ld 1 false (.r 160)), (some (157, true)), []⟩, ⟨(some 162), .b (.mov (.r 9)), (some (157, true)), []⟩, ⟨(some 163), .b (.mov (.r 17)), (some (157, true)), []⟩, ⟨(some 164), .b (.iad 2 (.r 162) (.r 163)), (some (157, true)), []⟩, ⟨(some 165), .b (.fad 1 (.r 164)), (some (157, true)), []⟩, ⟨(some 166), .b (.ld 1 false (.r 165)), (some (157, true)), []⟩, ⟨(some 167), .b (.len .sl (.r 166)), (some (157, true)), []⟩, ⟨(some 168), .b (.bin .lss (.r 161) (.r 167)), (some (157, true)), []⟩, op 169 (.pick (.r 157) (.r 168) (.c (.bool false)))]) <|
              .cond (.r 169)
                (.ops [op 170 (.mov (.r 9)), op 171 (.mov (.r 17)), op 172 (.iad 2 (.r 170) (.r 171)), op 173 (.fad 1 (.r 172)), op 174 (.ld 1 false (.r 173)), op 175 (.mov (.r 11)), op 176 (.mov (.r 14)), op 177 (.iad 1 (.r 175) (.r 176)), op 178 (.ld 1 false (.r 177)), op 179 (.iad 2 (.r 174) (.r 178)), op 180 (.ld 2 true (.r 179)), op 181 (.mov (.r 0)), op 182 (.mov (.r 13)), op 183 (.iad 2 (.r 181) (.r 182)), op 184 (.ld 2 true (.r 183)), op 185 (.eqs false [.str, .str] (.r 180) (.r 184)), op 16 (.mov (.r 185))])
                (.skip))) <|
            .ops [op 148 (.mov (.r 17)), op 149 (.bin .add (.r 148) (.c (.int .i64 1))), op 17 (.mov (.r 149))]))) <|
        sq (sq (.ops [op 186 (.mov (.r 16)), op 187 (.un .not (.r 186))]) <|
        .cond (.r 187)
          (sq (.ops [op 4 (.mov (.c (.bool false)))]) <|
          .ret)
          (.skip)) <|
        .ops [op 188 (.mov (.r 11)), op 189 (.mov (.r 14)), op 190 (.iad 1 (.r 188) (.r 189)), op 191 (.ld 1 false (.r 190)), op 192 (.bin .add (.r 191) (.c (.int .i64 1))), op 193 (.iad 1 (.r 188) (.r 189)), ef (.st 1 (.r 193) (.r 192))])) <|
      .ops [op 126 (.mov (.r 13)), op 127 (.bin .add (.r 126) (.c (.int .i64 1))), op 13 (.mov (.r 127))]))) <|
  sq (.ops [op 4 (.mov (.c (.bool true)))]) <|
  .ret⟩

-- rampart/rampartlaw05.ShardKeeps
def an7 : An := ⟨[], [(25, [(0, true), (1, true), (2, true), (3, true), (4, true), (5, true), (6, true), (7, true), (8, true), (9, true), (10, false), (11, true), (12, true), (13, true), (14, true), (15, true), (16, true), (17, true), (18, true), (19, true), (20, true), (21, true), (22, true), (23, false), (24, true), (25, true)]), (30, [(0, true), (1, true), (2, true), (3, true), (4, true), (5, true), (6, true), (7, true), (8, true), (9, true), (10, false), (11, true), (12, true), (13, true), (14, true), (15, true), (16, true), (17, true), (18, true), (19, true), (20, true), (21, true), (22, true), (23, false), (24, true), (25, true)]), (37, [(0, true), (1, true), (2, true), (3, true), (4, true), (5, true), (6, true), (7, true), (8, true), (9, true), (10, true), (11, true), (12, false), (13, false)]), (41, [(0, true), (1, true), (2, true), (3, true), (4, true), (5, true), (6, true), (7, true), (8, true), (9, true), (10, true), (11, true), (12, false), (13, false)])]⟩
def ir7 : Go.Rmp.Fn := ⟨287, 3, [.t 6],
  sq (.ops [op 6 (.mov (.c (.bool false)))]) <|
  sq (.ops [op 29 (.mov (.r 2)), cl 30 11 [(.r 29), (.c (.int .i64 63))], op 31 (.bin .add (.c (.int .i64 1)) (.r 30)), op 2 (.mov (.r 31))]) <|
  sq (.ops [op 32 (.mov (.r 0)), op 33 (.app 1 16 false (.c (.sl .nil [])) (.r 32)), op 34 (.bsl 2 [.str ⟨#[]⟩] [(0, (.c (.str ⟨#[115, 112, 97, 114, 101]⟩))), (1, (.c (.str ⟨#[114, 111, 111, 109]⟩)))]), op 35 (.app 1 16 false (.r 33) (.r 34)), op 7 (.mov (.r 35))]) <|
  sq (.ops [op 36 (.mov (.r 1)), op 37 (.app 2 32 false (.c (.sl .nil [])) (.r 36)), op 38 (.build [.str ⟨#[]⟩, .str ⟨#[]⟩] [(0, 1, (.c (.str ⟨#[115, 112, 97, 114, 101]⟩)))]), op 39 (.build [.str ⟨#[]⟩, .str ⟨#[]⟩] [(0, 1, (.c (.str ⟨#[114, 111, 111, 109]⟩)))]), op 40 (.bsl 2 [.str ⟨#[]⟩, .str ⟨#[]⟩] [(0, (.r 38)), (1, (.r 39))]), op 41 (.app 2 32 false (.r 37) (.r 40)), op 8 (.mov (.r 41))]) <|
  sq (.ops [op 43 (.mov (.r 7)), op 44 (.mov (.r 0)), op 45 (.len .sl (.r 44)), op 46 (.sll 1 (.r 43) none (some (.r 45)) none), op 47 (.mov (.r 2)), cl 48 12 [(.r 46), (.r 47)], op 42 (.mov (.r 48)), op 49 (.ext 0 (.r 42)), op 50 (.ext 1 (.r 42)), op 9 (.mov (.r 49)), op 10 (.mov (.r 50))]) <|
  sq (.ops [op 52 (.mov (.r 7)), op 53 (.mov (.r 0)), op 54 (.len .sl (.r 53)), op 55 (.sll 1 (.r 52) none (some (.r 54)) none), op 56 (.mov (.r 2)), cl 57 12 [(.r 55), (.r 56)], op 51 (.mov (.r 57)), op 58 (.ext 0 (.r 51)), op 59 (.ext 1 (.r 51)), op 11 (.mov (.r 58)), op 12 (.mov (.r 59))]) <|
  sq (.ops [op 61 (.mov (.r 8)), op 62 (.mov (.r 1)), op 63 (.len .sl (.r 62)), op 64 (.sll 2 (.r 61) none (some (.r 63)) none), op 65 (.mov (.r 2)), cl 66 15 [(.r 64), (.r 65)], op 60 (.mov (.r 66)), op 67 (.ext 0 (.r 60)), op 68 (.ext 1 (.r 60)), op 13 (.mov (.r 67)), op 14 (.mov (.r 68))]) <|
  sq (.ops [op 70 (.mov (.r 8)), op 71 (.mov (.r 1)), op 72 (.len .sl (.r 71)), op 73 (.sll 2 (.r 70) none (some (.r 72)) none), op 74 (.mov (.r 2)), cl 75 15 [(.r 73), (.r 74)], op 69 (.mov (.r 75)), op 76 (.ext 0 (.r 69)), op 77 (.ext 1 (.r 69)), op 15 (.mov (.r 76)), op 16 (.mov (.r 77))]) <|
  sq (sq (.ops [cl 78 10 [], op 79 (.un .not (.r 78)), op 80 (.mov (.r 79)), ⟨(some 81), .b (.mov (.r 7)), (some (80, false)), []⟩, ⟨(some 82), .b (.mov (.r 0)), (some (80, false)), []⟩, ⟨(some 83), .b (.len .sl (.r 82)), (some (80, false)), []⟩, ⟨(some 84), .b (.sll 1 (.r 81) none (some (.r 83)) none), (some (80, false)), []⟩, ⟨(some 85), .b (.mov (.r 0)), (some (80, false)), []⟩, ⟨(some 86), .call 13 [(.r 84), (.r 85)], (some (80, false)), []⟩, ⟨(some 87), .b (.un .not (.r 86)), (some (80, false)), []⟩, op 88 (.pick (.r 80) (.c (.bool true)) (.r 87)), op 89 (.mov (.r 88)), ⟨(some 90), .b (.mov (.r 8)), (some (89, false)), []⟩, ⟨(some 91), .b (.mov (.r 1)), (some (89, false)), []⟩, ⟨(some 92), .b (.len .sl (.r 91)), (some (89, false)), []⟩, ⟨(some 93), .b (.sll 2 (.r 90) none (some (.r 92)) none), (some (89, false)), []⟩, ⟨(some 94), .b (.mov (.r 1)), (some (89, false)), []⟩, ⟨(some 95), .call 17 [(.r 93), (.r 94)], (some (89, false)), []⟩, ⟨(some 96), .b (.un .not (.r 95)), (some (89, false)), []⟩, op 97 (.pick (.r 89) (.c (.bool true)) (.r 96)), op 98 (.mov (.r 97)), ⟨(some 99), .b (.mov (.r 7)), (some (98, false)), []⟩, ⟨(some 100), .b (.mov (.r 0)), (some (98, false)), []⟩, ⟨(some 101), .b (.len .sl (.r 100)), (some (98, false)), []⟩, ⟨(some 102), .b (.iad 1 (.r 99) (.r 101)), (some (98, false)), []⟩, ⟨(some 103), .b (.ld 1 false (.r 102)), (some (98, false)), []⟩, ⟨(some 104), .b (.bin .neq (.r 103) (.c (.str ⟨#[115, 112, 97, 114, 101]⟩))), (some (98, false)), []⟩, op 105 (.pick (.r 98) (.c (.bool true)) (.r 104)), op 106 (.mov (.r 105)), ⟨(some 107), .b (.mov (.r 8)), (some (106, false)), []⟩, ⟨(some 108), .b (.mov (.r 1)), (some (106, false)), []⟩, ⟨(some 109), .b (.len .sl (.r 108)), (some (106, false)), []⟩, ⟨(some 110), .b (.iad 2 (.r 107) (.r 109)), (some (106, false)), []⟩, ⟨(some 111), .b (.fad 0 (.r 110)), (some (106, false)), []⟩, ⟨(some 112), .b (.ld 1 false (.r 111)), (some (106, false)), []⟩, ⟨(some 113), .b (.bin .neq (.r 112) (.c (.str ⟨#[115, 112, 97, 114, 101]⟩))), (some (106, false)), []⟩, op 114 (.pick (.r 106) (.c (.bool true)) (.r 113)), op 115 (.mov (.r 114)), ⟨(some 116), .b (.mov (.r 8)), (some (115, false)), []⟩, ⟨(some 117), .b (.mov (.r 1)), (some (115, false)), []⟩, ⟨(some 118), .b (.len .sl (.r 117)), (some (115, false)), []⟩, ⟨(some 119), .b (.bin .add (.r 118) (.c (.int .i64 1))), (some (115, false)), []⟩, ⟨(some 120), .b (.iad 2 (.r 116) (.r 119)), (some (115, false)), []⟩, ⟨(some 121), .b (.fad 0 (.r 120)), (some (115, false)), []⟩, ⟨(some 122), .b (.ld 1 false (.r 121)), (some (115, false)), []⟩, ⟨(some 123), .b (.bin .neq (.r 122) (.c (.str ⟨#[114, 111, 111, 109]⟩))), (some (115, false)), []⟩, op 124 (.pick (.r 115) (.c (.bool true)) (.r 123)), op 125 (.mov (.r 124)), ⟨(some 126), .b (.mov (.r 9)), (some (125, false)), []⟩, ⟨(some 127), .b (.len .sl (.r 126)), (some (125, false)), []⟩, ⟨(some 128), .b (.mov (.r 11)), (some (125, false)), []⟩, ⟨(some 129), .b (.len .sl (.r 128)), (some (125, false)), []⟩, ⟨(some 130), .b (.bin .neq (.r 127) (.r 129)), (some (125, false)), []⟩, op 131 (.pick (.r 125) (.c (.bool true)) (.r 130)), op 132 (.mov (.r 131)), ⟨(some 133), .b (.mov (.r 13)), (some (132, false)), []⟩, ⟨(some 134), .b (.len .sl (.r 133)), (some (132, false)), []⟩, ⟨(some 135), .b (.mov (.r 15)), (some (132, false)), []⟩, ⟨(some 136), .b (.len .sl (.r 135)), (some (132, false)), []⟩, ⟨(some 137), .b (.bin .neq (.r 134) (.r 136)), (some (132, false)), []⟩, op 138 (.pick (.r 132) (.c (.bool true)) (.r 137))]) <|
  .cond (.r 138)
    (sq (.ops [op 6 (.mov (.c (.bool false)))]) <|
    .ret)
    (.skip)) <|
  sq (sq (.ops [op 17 (.mov (.c (.int .i64 0)))]) <|
  .block 0 (
    .loop (
      sq (sq (.ops [op 139 (.mov (.r 17)), op 140 (.mov (.r 0)), op 141 (.len .sl (.r 140)), op 142 (.bin .lss (.r 139) (.r 141))]) <|
      .cond (.r 142)
        (.skip)
        (.exit 0)) <|
      sq (.block 1 (
        .ops [op 145 (.mov (.r 7)), op 146 (.mov (.r 17)), op 147 (.iad 1 (.r 145) (.r 146)), ef (.st 1 (.r 147) (.c (.str ⟨#[63]⟩)))])) <|
      .ops [op 143 (.mov (.r 17)), op 144 (.bin .add (.r 143) (.c (.int .i64 1))), op 17 (.mov (.r 144))]))) <|
  sq (sq (.ops [op 18 (.mov (.c (.int .i64 0)))]) <|
  .block 2 (
    .loop (
      sq (sq (.ops [op 148 (.mov (.r 18)), op 149 (.mov (.r 1)), op 150 (.len .sl (.r 149)), op 151 (.bin .lss (.r 148) (.r 150))]) <|
      .cond (.r 151)
        (.skip)
        (.exit 2)) <|
      sq (.block 3 (
        .ops [op 154 (.mov (.r 8)), op 155 (.mov (.r 18)), op 156 (.build [.str ⟨#[]⟩, .str ⟨#[]⟩] [(0, 1, (.c (.str ⟨#[63]⟩)))]), op 157 (.iad 2 (.r 154) (.r 155)), ef (.st 2 (.r 157) (.r 156))])) <|
      .ops [op 152 (.mov (.r 18)), op 153 (.bin .add (.r 152) (.c (.int .i64 1))), op 18 (.mov (.r 153))]))) <|
  sq (.ops [op 159 (.mov (.r 0)), op 160 (.mov (.r 2)), cl 161 12 [(.r 159), (.r 160)], op 158 (.mov (.r 161)), op 162 (.ext 0 (.r 158)), op 163 (.ext 1 (.r 158)), op 19 (.mov (.r 162)), op 20 (.mov (.r 163))]) <|
  sq (.ops [op 165 (.mov (.r 1)), op 166 (.mov (.r 2)), cl 167 15 [(.r 165), (.r 166)], op 164 (.mov (.r 167)), op 168 (.ext 0 (.r 164)), op 169 (.ext 1 (.r 164)), op 21 (.mov (.r 168)), op 22 (.mov (.r 169))]) <|
  sq (sq (.ops [op 170 (.mov (.r 19)), op 171 (.len .sl (.r 170)), op 172 (.mov (.r 9)), op 173 (.len .sl (.r 172)), op 174 (.bin .neq (.r 171) (.r 173)), op 175 (.mov (.r 174)), ⟨(some 176), .b (.mov (.r 21)), (some (175, false)), []⟩, ⟨(some 177), .b (.len .sl (.r 176)), (some (175, false)), []⟩, ⟨(some 178), .b (.mov (.r 13)), (some (175, false)), []⟩, ⟨(some 179), .b (.len .sl (.r 178)), (some (175, false)), []⟩, ⟨(some 180), .b (.bin .neq (.r 177) (.r 179)), (some (175, false)), []⟩, op 181 (.pick (.r 175) (.c (.bool true)) (.r 180))]) <|
  .cond (.r 181)
    (sq (.ops [op 6 (.mov (.c (.bool false)))]) <|
    .ret)
    (.skip)) <|
  sq (sq (.ops [op 23 (.mov (.c (.int .i64 0)))]) <|
  .block 4 (
    .loop (
      sq (sq (.ops [op 182 (.mov (.r 23)), op 183 (.mov (.r 9)), op 184 (.len .sl (.r 183)), op 185 (.bin .lss (.r 182) (.r 184))]) <|
      .cond (.r 185)
        (.skip)
        (.exit 4)) <|
      sq (.block 5 (
        sq (.ops [op 188 (.mov (.r 9)), op 189 (.mov (.r 23)), op 190 (.iad 2 (.r 188) (.r 189)), op 191 (.fad 1 (.r 190)), op 192 (.ld 1 false (.r 191)), op 193 (.mov (.r 19)), op 194 (.mov (.r 23)), op 195 (.iad 2 (.r 193) (.r 194)), op 196 (.fad 1 (.r 195)), op 197 (.ld 1 false (.r 196)), cl 198 13 [(.r 192), (.r 197)], op 199 (.un .not (.r 198)), op 200 (.mov (.r 199)), ⟨(some 201), .b (.mov (.r 11)), (some (200, false)), []⟩, ⟨(some 202), .b (.mov (.r 23)), (some (200, false)), []⟩, ⟨(some 203), .b (.iad 2 (.r 201) (.r 202)), (some (200, false)), []⟩, ⟨(some 204), .b (.fad 1 (.r 203)), (some (200, false)), []⟩, ⟨(some 205), .b (.ld 1 false (.r 204)), (some (200, false)), []⟩, ⟨(some 206), .b (.mov (.r 19)), (some (200, false)), []⟩, ⟨(some 207), .b (.mov (.r 23)), (some (200, false)), []⟩, ⟨(some 208), .b (.iad 2 (.r 206) (.r 207)), (some (200, false)), []⟩, ⟨(some 209), .b (.fad 1 (.r 208)), (some (200, false)), []⟩, ⟨(some 210), .b (.ld 1 false (.r 209)), (some (200, false)), []⟩, ⟨(some 211), .call 13 [(.r 205), (.r 210)], (some (200, false)), []⟩, ⟨(some 212), .b (.un .not (.r 211)), (some (200, false)), []⟩, op 213 (.pick (.r 200) (.c (.bool true)) (.r 212))]) <|
        .cond (.r 213)
          (sq (.ops [op 6 (.mov (.c (.bool false)))]) <|
          .ret)
          (.skip))) <|
      .ops [op 186 (.mov (.r 23)), op 187 (.bin .add (.r 186) (.c (.int .i64 1))), op 23 (.mov (.r 187))]))) <|
  sq (sq (.ops [op 24 (.mov (.c (.int .i64 0)))]) <|
  .block 6 (
    .loop (
      sq (sq (.ops [op 214 (.mov (.r 24)), op 215 (.mov (.r 13)), op 216 (.len .sl (.r 215)), op 217 (.bin .lss (.r 214) (.r 216))]) <|
      .cond (.r 217)
        (.skip)
        (.exit 6)) <|
      sq (.block 7 (
        sq (.ops [op 220 (.mov (.r 13)), op 221 (.mov (.r 24)), op 222 (.iad 2 (.r 220) (.r 221)), op 223 (.fad 1 (.r 222)), op 224 (.ld 1 false (.r 223)), op 225 (.mov (.r 21)), op 226 (.mov (.r 24)), op 227 (.iad 2 (.r 225) (.r 226)), op 228 (.fad 1 (.r 227)), op 229 (.ld 1 false (.r 228)), cl 230 17 [(.r 224), (.r 229)], op 231 (.un .not (.r 230)), op 232 (.mov (.r 231)), ⟨(some 233), .b (.mov (.r 15)), (some (232, false)), []⟩, ⟨(some 234), .b (.mov (.r 24)), (some (232, false)), []⟩, ⟨(some 235), .b (.iad 2 (.r 233) (.r 234)), (some (232, false)), []⟩, ⟨(some 236), .b (.fad 1 (.r 235)), (some (232, false)), []⟩, ⟨(some 237), .b (.ld 1 false (.r 236)), (some (232, false)), []⟩, ⟨(some 238), .b (.mov (.r 21)), (some (232, false)), []⟩, ⟨(some 239), .b (.mov (.r 24)), (some (232, false)), []⟩, ⟨(some 240), .b (.iad 2 (.r 238) (.r 239)), (some (232, false)), []⟩, ⟨(some 241), .b (.fad 1 (.r 240)), (some (232, false)), []⟩, ⟨(some 242), .b (.ld 1 false (.r 241)), (some (232, false)), []⟩, ⟨(some 243), .call 17 [(.r 237), (.r 242)], (some (232, false)), []⟩, ⟨(some 244), .b (.un .not (.r 243)), (some (232, false)), []⟩, op 245 (.pick (.r 232) (.c (.bool true)) (.r 244))]) <|
        .cond (.r 245)
          (sq (.ops [op 6 (.mov (.c (.bool false)))]) <|
          .ret)
          (.skip))) <|
      .ops [op 218 (.mov (.r 24)), op 219 (.bin .add (.r 218) (.c (.int .i64 1))), op 24 (.mov (.r 219))]))) <|
  sq (.ops [op 25 (.mov (.c (.sl .nil [])))]) <|
  sq (.ops [op 26 (.mov (.c (.sl .nil [])))]) <|
  sq (sq (.ops [op 27 (.mov (.c (.int .i64 0)))]) <|
  .block 8 (
    .loop (
      sq (sq (.ops [op 246 (.mov (.r 27)), op 247 (.mov (.r 9)), op 248 (.len .sl (.r 247)), op 249 (.bin .lss (.r 246) (.r 248))]) <|
      .cond (.r 249)
        (.skip)
        (.exit 8)) <|
      sq (.block 9 (
        .ops [op 252 (.mov (.r 25)), op 253 (.mov (.r 9)), op 254 (.mov (.r 27)), op 255 (.iad 2 (.r 253) (.r 254)), op 256 (.fad 1 (.r 255)), op 257 (.ld 1 false (.r 256)), op 258 (.mov (.r 11)), op 259 (.mov (.r 27)), op 260 (.iad 2 (.r 258) (.r 259)), op 261 (.fad 1 (.r 260)), op 262 (.ld 1 false (.r 261)), op 263 (.bsl 2 [.sl .nil []] [(0, (.r 257)), (1, (.r 262))]), op 264 (.app 1 24 false (.r 252) (.r 263)), op 25 (.mov (.r 264))])) <|
      .ops [op 250 (.mov (.r 27)), op 251 (.bin .add (.r 250) (.c (.int .i64 1))), op 27 (.mov (.r 251))]))) <|
  sq (sq (.ops [op 28 (.mov (.c (.int .i64 0)))]) <|
  .block 10 (
    .loop (
      sq (sq (.ops [op 265 (.mov (.r 28)), op 266 (.mov (.r 13)), op 267 (.len .sl (.r 266)), op 268 (.bin .lss (.r 265) (.r 267))]) <|
      .cond (.r 268)
        (.skip)
        (.exit 10)) <|
      sq (.block 11 (
        .ops [op 271 (.mov (.r 26)), op 272 (.mov (.r 13)), op 273 (.mov (.r 28)), op 274 (.iad 2 (.r 272) (.r 273)), op 275 (.fad 1 (.r 274)), op 276 (.ld 1 false (.r 275)), op 277 (.mov (.r 15)), op 278 (.mov (.r 28)), op 279 (.iad 2 (.r 277) (.r 278)), op 280 (.fad 1 (.r 279)), op 281 (.ld 1 false (.r 280)), op 282 (.bsl 2 [.sl .nil []] [(0, (.r 276)), (1, (.r 281))]), op 283 (.app 1 24 false (.r 271) (.r 282)), op 26 (.mov (.r 283))])) <|
      .ops [op 269 (.mov (.r 28)), op 270 (.bin .add (.r 269) (.c (.int .i64 1))), op 28 (.mov (.r 270))]))) <|
  sq (.ops [op 284 (.mov (.r 25)), op 285 (.mov (.r 26)), cl 286 18 [(.r 284), (.r 285)], op 6 (.mov (.r 286))]) <|
  .ret⟩

-- rampart/shard.Of
def an8 : An := ⟨[], []⟩
def ir8 : Go.Rmp.Fn := ⟨12, 2, [.t 4, .t 5],
  sq (.ops [op 4 (.mov (.c (.int .i64 0))), op 5 (.mov (.c (.int .i64 0)))]) <|
  sq (sq (.ops [op 6 (.mov (.r 1)), cl 7 19 [(.r 6)], op 8 (.un .not (.r 7))]) <|
  .cond (.r 8)
    (sq (.ops [op 4 (.mov (.c (.int .i64 0))), op 5 (.mov (.c (.int .i64 1)))]) <|
    .ret)
    (.skip)) <|
  sq (.ops [op 9 (.mov (.r 0)), op 10 (.mov (.r 1)), cl 11 20 [(.r 9), (.r 10)], op 4 (.mov (.r 11)), op 5 (.mov (.c (.int .i64 0)))]) <|
  .ret⟩

-- rampart/rampartref05.Of
def an9 : An := ⟨[], []⟩
def ir9 : Go.Rmp.Fn := ⟨18, 2, [.t 4, .t 5],
  sq (.ops [op 4 (.mov (.c (.int .i64 0))), op 5 (.mov (.c (.int .i64 0)))]) <|
  sq (sq (.ops [op 6 (.mov (.r 1)), op 7 (.bin .lss (.r 6) (.c (.int .i64 1))), op 8 (.mov (.r 7)), ⟨(some 9), .b (.mov (.r 1)), (some (8, false)), []⟩, ⟨(some 10), .b (.bin .gtr (.r 9) (.c (.int .i64 64))), (some (8, false)), []⟩, op 11 (.pick (.r 8) (.c (.bool true)) (.r 10))]) <|
  .cond (.r 11)
    (sq (.ops [op 4 (.mov (.c (.int .i64 0))), op 5 (.mov (.c (.int .i64 1)))]) <|
    .ret)
    (.skip)) <|
  sq (.ops [op 12 (.mov (.r 0)), cl 13 21 [(.r 12)], op 14 (.mov (.r 1)), op 15 (.cvi .u64 (.r 14)), op 16 (.bin .rem (.r 13) (.r 15)), op 17 (.cvi .i64 (.r 16)), op 4 (.mov (.r 17)), op 5 (.mov (.c (.int .i64 0)))]) <|
  .ret⟩

-- rampart/rampartlaw05.known
def an10 : An := ⟨[], []⟩
def ir10 : Go.Rmp.Fn := ⟨59, 0, [.t 0],
  sq (.ops [op 0 (.mov (.c (.bool false)))]) <|
  sq (.ops [op 6 (.bsl 4 [.str ⟨#[]⟩] [(0, (.c (.str ⟨#[98]⟩))), (1, (.c (.str ⟨#[97]⟩))), (2, (.c (.str ⟨#[]⟩))), (3, (.c (.str ⟨#[98]⟩)))]), cl 7 12 [(.r 6), (.c (.int .i64 4))], op 5 (.mov (.r 7)), op 8 (.ext 0 (.r 5)), op 9 (.ext 1 (.r 5)), op 1 (.mov (.r 8)), op 2 (.mov (.r 9))]) <|
  sq (.ops [cl 11 8 [(.c (.str ⟨#[98]⟩)), (.c (.int .i64 64))], op 10 (.mov (.r 11)), op 12 (.ext 0 (.r 10)), op 13 (.ext 1 (.r 10)), op 3 (.mov (.r 12)), op 4 (.mov (.r 13))]) <|
  sq (.ops [op 14 (.mov (.r 2)), op 15 (.bin .eql (.r 14) (.c (.int .i64 0))), op 16 (.mov (.r 15)), ⟨(some 17), .b (.mov (.r 4)), (some (16, true)), []⟩, ⟨(some 18), .b (.bin .eql (.r 17) (.c (.int .i64 0))), (some (16, true)), []⟩, op 19 (.pick (.r 16) (.r 18) (.c (.bool false))), op 20 (.mov (.r 19)), ⟨(some 21), .b (.mov (.r 3)), (some (20, true)), []⟩, ⟨(some 22), .b (.bin .eql (.r 21) (.c (.int .i64 37))), (some (20, true)), []⟩, op 23 (.pick (.r 20) (.r 22) (.c (.bool false))), op 24 (.mov (.r 23)), ⟨(some 25), .b (.mov (.r 1)), (some (24, true)), []⟩, ⟨(some 26), .b (.len .sl (.r 25)), (some (24, true)), []⟩, ⟨(some 27), .b (.bin .eql (.r 26) (.c (.int .i64 2))), (some (24, true)), []⟩, op 28 (.pick (.r 24) (.r 27) (.c (.bool false))), op 29 (.mov (.r 28)), ⟨(some 30), .b (.mov (.r 1)), (some (29, true)), []⟩, ⟨(some 31), .b (.iad 2 (.r 30) (.c (.int .i64 0))), (some (29, true)), []⟩, ⟨(some 32), .b (.fad 0 (.r 31)), (some (29, true)), []⟩, ⟨(some 33), .b (.ld 1 false (.r 32)), (some (29, true)), []⟩, ⟨(some 34), .b (.bin .eql (.r 33) (.c (.int .i64 0))), (some (29, true)), []⟩, op 35 (.pick (.r 29) (.r 34) (.c (.bool false))), op 36 (.mov (.r 35)), ⟨(some 37), .b (.mov (.r 1)), (some (36, true)), []⟩, ⟨(some 38), .b (.iad 2 (.r 37) (.c (.int .i64 0))), (some (36, true)), []⟩, ⟨(some 39), .b (.fad 1 (.r 38)), (some (36, true)), []⟩, ⟨(some 40), .b (.ld 1 false (.r 39)), (some (36, true)), []⟩, ⟨(some 41), .b (.bsl 1 [.str ⟨#[]⟩] [(0, (.c (.str ⟨#[97]⟩)))]), (some (36, true)), []⟩, ⟨(some 42), .call 13 [(.r 40), (.r 41)], (some (36, true)), []⟩, op 43 (.pick (.r 36) (.r 42) (.c (.bool false))), op 44 (.mov (.r 43)), ⟨(some 45), .b (.mov (.r 1)), (some (44, true)), []⟩, ⟨(some 46), .b (.iad 2 (.r 45) (.c (.int .i64 1))), (some (44, true)), []⟩, ⟨(some 47), .b (.fad 0 (.r 46)), (some (44, true)), []⟩, ⟨(some 48), .b (.ld 1 false (.r 47)), (some (44, true)), []⟩, ⟨(some 49), .b (.bin .eql (.r 48) (.c (.int .i64 1))), (some (44, true)), []⟩, op 50 (.pick (.r 44) (.r 49) (.c (.bool false))), op 51 (.mov (.r 50)), ⟨(some 52), .b (.mov (.r 1)), (some (51, true)), []⟩, ⟨(some 53), .b (.iad 2 (.r 52) (.c (.int .i64 1))), (some (51, true)), []⟩, ⟨(some 54), .b (.fad 1 (.r 53)), (some (51, true)), []⟩, ⟨(some 55), .b (.ld 1 false (.r 54)), (some (51, true)), []⟩, ⟨(some 56), .b (.bsl 3 [.str ⟨#[]⟩] [(0, (.c (.str ⟨#[98]⟩))), (1, (.c (.str ⟨#[]⟩))), (2, (.c (.str ⟨#[98]⟩)))]), (some (51, true)), []⟩, ⟨(some 57), .call 13 [(.r 55), (.r 56)], (some (51, true)), []⟩, op 58 (.pick (.r 51) (.r 57) (.c (.bool false))), op 0 (.mov (.r 58))]) <|
  .ret⟩

-- rampart/rampartlaw05.rest
def an11 : An := ⟨[], []⟩
def ir11 : Go.Rmp.Fn := ⟨17, 2, [.t 4],
  sq (.ops [op 4 (.mov (.c (.int .i64 0)))]) <|
  sq (.ops [op 6 (.mov (.r 0)), op 7 (.mov (.r 1)), op 8 (.bin .add (.r 7) (.c (.int .i64 1))), op 9 (.bin .rem (.r 6) (.r 8)), op 5 (.mov (.r 9))]) <|
  sq (sq (.ops [op 10 (.mov (.r 5)), op 11 (.bin .lss (.r 10) (.c (.int .i64 0)))]) <|
  .cond (.r 11)
    (.ops [op 12 (.mov (.r 5)), op 13 (.mov (.r 1)), op 14 (.bin .add (.r 12) (.r 13)), op 15 (.bin .add (.r 14) (.c (.int .i64 1))), op 5 (.mov (.r 15))])
    (.skip)) <|
  sq (.ops [op 16 (.mov (.r 5)), op 4 (.mov (.r 16))]) <|
  .ret⟩

-- rampart/shard.Group
def an12 : An := ⟨[(10, 4)], []⟩
def ir12 : Go.Rmp.Fn := ⟨52, 2, [.t 4, .t 5],
  sq (.ops [op 4 (.mov (.c (.sl .nil []))), op 5 (.mov (.c (.int .i64 0)))]) <|
  sq (sq (.ops [op 12 (.mov (.r 1)), cl 13 19 [(.r 12)], op 14 (.un .not (.r 13))]) <|
  .cond (.r 14)
    (sq (.ops [op 4 (.mov (.c (.sl .nil []))), op 5 (.mov (.c (.int .i64 1)))]) <|
    .ret)
    (.skip)) <|
  sq (.ops [op 6 (.mov (.c (.sl .nil [])))]) <|
  sq (sq (.ops [op 15 (.mov (.r 0)), op 16 (.len .sl (.r 15)), op 17 (.mov (.c (.int .i64 0)))]) <|
  .block 0 (
    .loop (
      sq (.ops [op 18 (.bin .lss (.r 17) (.r 16))]) <|
      sq (.cond (.r 18)
        (.skip)
        (.exit 0)) <|
      sq (.block 1 (
        sq (.ops [op 19 (.iad 1 (.r 15) (.r 17)), op 20 (.ld 1 false (.r 19)), op 8 (.mov (.r 20))]) <|
        sq (.ops [op 21 (.mov (.r 8)), op 22 (.mov (.r 1)), cl 23 20 [(.r 21), (.r 22)], op 9 (.mov (.r 23))]) <|
        sq (.ops [op 25 (.mov (.r 6)), op 26 (.mov (.r 9)), cl 27 22 [(.r 25), (.r 26), (.c (.fn 23 []))], op 24 (.mov (.r 27)), op 28 (.ext 0 (.r 24)), op 29 (.ext 1 (.r 24)), op 10 (.mov (.r 28)), op 11 (.mov (.r 29))]) <|
        sq (sq (.ops [op 30 (.mov (.r 11)), op 31 (.un .not (.r 30))]) <|
        .cond (.r 31)
          (.ops [op 32 (.mov (.r 6)), op 33 (.mov (.r 10)), op 34 (.mov (.r 9)), op 35 (.build [.int .i64 0, .sl .nil []] [(0, 1, (.r 34))]), op 36 (.bsm 1 [.int .i64 0, .sl .nil []] [(0, (.r 35))]), cl 37 25 [(.r 32), (.r 33), (.r 36)], op 6 (.mov (.r 37))])
          (.skip)) <|
        .ops [op 38 (.mov (.r 6)), op 39 (.mov (.r 10)), op 40 (.mov (.r 6)), op 41 (.mov (.r 10)), op 42 (.iad 2 (.r 40) (.r 41)), op 43 (.fad 1 (.r 42)), op 44 (.ld 1 false (.r 43)), op 45 (.mov (.r 8)), op 46 (.bsl 1 [.str ⟨#[]⟩] [(0, (.r 45))]), op 47 (.app 1 16 false (.r 44) (.r 46)), op 48 (.iad 2 (.r 38) (.r 39)), op 49 (.fad 1 (.r 48)), ef (.st 1 (.r 49) (.r 47))])) <|
      .ops [op 50 (.bin .add (.r 17) (.c (.int .i64 1))), op 17 (.mov (.r 50))]))) <|
  sq (.ops [op 51 (.mov (.r 6)), op 4 (.mov (.r 51)), op 5 (.mov (.c (.int .i64 0)))]) <|
  .ret⟩

-- rampart/rampartlaw05.same
def an13 : An := ⟨[], [(6, [(0, true), (1, true), (2, true), (3, true), (4, true), (5, true), (6, true), (7, true), (8, true)])]⟩
def ir13 : Go.Rmp.Fn := ⟨26, 2, [.t 4],
  sq (.ops [op 4 (.mov (.c (.bool false)))]) <|
  sq (sq (.ops [op 6 (.mov (.r 0)), op 7 (.len .sl (.r 6)), op 8 (.mov (.r 1)), op 9 (.len .sl (.r 8)), op 10 (.bin .neq (.r 7) (.r 9))]) <|
  .cond (.r 10)
    (sq (.ops [op 4 (.mov (.c (.bool false)))]) <|
    .ret)
    (.skip)) <|
  sq (sq (.ops [op 5 (.mov (.c (.int .i64 0)))]) <|
  .block 0 (
    .loop (
      sq (sq (.ops [op 11 (.mov (.r 5)), op 12 (.mov (.r 0)), op 13 (.len .sl (.r 12)), op 14 (.bin .lss (.r 11) (.r 13))]) <|
      .cond (.r 14)
        (.skip)
        (.exit 0)) <|
      sq (.block 1 (
        sq (.ops [op 17 (.mov (.r 0)), op 18 (.mov (.r 5)), op 19 (.iad 1 (.r 17) (.r 18)), op 20 (.ld 1 false (.r 19)), op 21 (.mov (.r 1)), op 22 (.mov (.r 5)), op 23 (.iad 1 (.r 21) (.r 22)), op 24 (.ld 1 false (.r 23)), op 25 (.bin .neq (.r 20) (.r 24))]) <|
        .cond (.r 25)
          (sq (.ops [op 4 (.mov (.c (.bool false)))]) <|
          .ret)
          (.skip))) <|
      .ops [op 15 (.mov (.r 5)), op 16 (.bin .add (.r 15) (.c (.int .i64 1))), op 5 (.mov (.r 16))]))) <|
  sq (.ops [op 4 (.mov (.c (.bool true)))]) <|
  .ret⟩

-- rampart/rampartref05.Group
def an14 : An := ⟨[], []⟩
def ir14 : Go.Rmp.Fn := ⟨58, 2, [.t 4, .t 5],
  sq (.ops [op 4 (.mov (.c (.sl .nil []))), op 5 (.mov (.c (.int .i64 0)))]) <|
  sq (sq (.ops [op 12 (.mov (.r 1)), op 13 (.bin .lss (.r 12) (.c (.int .i64 1))), op 14 (.mov (.r 13)), ⟨(some 15), .b (.mov (.r 1)), (some (14, false)), []⟩, ⟨(some 16), .b (.bin .gtr (.r 15) (.c (.int .i64 64))), (some (14, false)), []⟩, op 17 (.pick (.r 14) (.c (.bool true)) (.r 16))]) <|
  .cond (.r 17)
    (sq (.ops [op 4 (.mov (.c (.sl .nil []))), op 5 (.mov (.c (.int .i64 1)))]) <|
    .ret)
    (.skip)) <|
  sq (.ops [op 6 (.mov (.c (.sl .nil [])))]) <|
  sq (sq (.ops [op 7 (.mov (.c (.int .i64 0)))]) <|
  .block 0 (
    .loop (
      sq (sq (.ops [op 18 (.mov (.r 7)), op 19 (.mov (.r 1)), op 20 (.bin .lss (.r 18) (.r 19))]) <|
      .cond (.r 20)
        (.skip)
        (.exit 0)) <|
      sq (.block 1 (
        sq (.ops [op 8 (.mov (.c (.sl .nil [])))]) <|
        sq (sq (.ops [op 9 (.mov (.c (.int .i64 0)))]) <|
        .block 2 (
          .loop (
            sq (sq (.ops [op 23 (.mov (.r 9)), op 24 (.mov (.r 0)), op 25 (.len .sl (.r 24)), op 26 (.bin .lss (.r 23) (.r 25))]) <|
            .cond (.r 26)
              (.skip)
              (.exit 2)) <|
            sq (.block 3 (
              sq (.ops [op 30 (.mov (.r 0)), op 31 (.mov (.r 9)), op 32 (.iad 1 (.r 30) (.r 31)), op 33 (.ld 1 false (.r 32)), op 34 (.mov (.r 1)), cl 35 9 [(.r 33), (.r 34)], op 29 (.mov (.r 35)), op 36 (.ext 0 (.r 29)), op 37 (.ext 1 (.r 29)), op 10 (.mov (.r 36)), op 11 (.mov (.r 37))]) <|
              sq (.ops [op 38 (.mov (.r 10)), op 39 (.mov (.r 7)), op 40 (.bin .eql (.r 38) (.r 39))]) <|
              .cond (.r 40)
                (.ops [op 41 (.mov (.r 8)), op 42 (.mov (.r 0)), op 43 (.mov (.r 9)), op 44 (.iad 1 (.r 42) (.r 43)), op 45 (.ld 1 false (.r 44)), op 46 (.bsl 1 [.str ⟨#[]⟩] [(0, (.r 45))]), op 47 (.app 1 16 false (.r 41) (.r 46)), op 8 (.mov (.r 47))])
                (.skip))) <|
            .ops [op 27 (.mov (.r 9)), op 28 (.bin .add (.r 27) (.c (.int .i64 1))), op 9 (.mov (.r 28))]))) <|
        sq (.ops [op 48 (.mov (.r 8)), op 49 (.len .sl (.r 48)), op 50 (.bin .gtr (.r 49) (.c (.int .i64 0)))]) <|
        .cond (.r 50)
          (.ops [op 51 (.mov (.r 6)), op 52 (.mov (.r 7)), op 53 (.mov (.r 8)), op 54 (.build [.int .i64 0, .sl .nil []] [(0, 1, (.r 52)), (1, 1, (.r 53))]), op 55 (.bsl 1 [.int .i64 0, .sl .nil []] [(0, (.r 54))]), op 56 (.app 2 32 false (.r 51) (.r 55)), op 6 (.mov (.r 56))])
          (.skip))) <|
      .ops [op 21 (.mov (.r 7)), op 22 (.bin .add (.r 21) (.c (.int .i64 1))), op 7 (.mov (.r 22))]))) <|
  sq (.ops [op 57 (.mov (.r 6)), op 4 (.mov (.r 57)), op 5 (.mov (.c (.int .i64 0)))]) <|
  .ret⟩

-- rampart/shard.GroupPairs
def an15 : An := ⟨[(10, 4)], [(11, [(0, true), (1, true), (2, true), (3, true), (4, true), (5, true), (6, true), (7, true), (8, true), (9, false), (10, true), (11, true), (12, false)])]⟩
def ir15 : Go.Rmp.Fn := ⟨53, 2, [.t 4, .t 5],
  sq (.ops [op 4 (.mov (.c (.sl .nil []))), op 5 (.mov (.c (.int .i64 0)))]) <|
  sq (sq (.ops [op 12 (.mov (.r 1)), cl 13 19 [(.r 12)], op 14 (.un .not (.r 13))]) <|
  .cond (.r 14)
    (sq (.ops [op 4 (.mov (.c (.sl .nil []))), op 5 (.mov (.c (.int .i64 1)))]) <|
    .ret)
    (.skip)) <|
  sq (.ops [op 6 (.mov (.c (.sl .nil [])))]) <|
  sq (sq (.ops [op 15 (.mov (.r 0)), op 16 (.len .sl (.r 15)), op 17 (.mov (.c (.int .i64 0)))]) <|
  .block 0 (
    .loop (
      sq (.ops [op 18 (.bin .lss (.r 17) (.r 16))]) <|
      sq (.cond (.r 18)
        (.skip)
        (.exit 0)) <|
      sq (.block 1 (
        sq (.ops [op 19 (.iad 2 (.r 15) (.r 17)), op 20 (.ld 2 true (.r 19)), op 8 (.alloc [.str ⟨#[]⟩, .str ⟨#[]⟩]), ef (.st 2 (.r 8) (.r 20))]) <|
        sq (.ops [op 21 (.fad 0 (.r 8)), op 22 (.ld 1 false (.r 21)), op 23 (.mov (.r 1)), cl 24 20 [(.r 22), (.r 23)], op 9 (.mov (.r 24))]) <|
        sq (.ops [op 26 (.mov (.r 6)), op 27 (.mov (.r 9)), cl 28 26 [(.r 26), (.r 27), (.c (.fn 27 []))], op 25 (.mov (.r 28)), op 29 (.ext 0 (.r 25)), op 30 (.ext 1 (.r 25)), op 10 (.mov (.r 29)), op 11 (.mov (.r 30))]) <|
        sq (sq (.ops [op 31 (.mov (.r 11)), op 32 (.un .not (.r 31))]) <|
        .cond (.r 32)
          (.ops [op 33 (.mov (.r 6)), op 34 (.mov (.r 10)), op 35 (.mov (.r 9)), op 36 (.build [.int .i64 0, .sl .nil []] [(0, 1, (.r 35))]), op 37 (.bsm 1 [.int .i64 0, .sl .nil []] [(0, (.r 36))]), cl 38 28 [(.r 33), (.r 34), (.r 37)], op 6 (.mov (.r 38))])
          (.skip)) <|
        .ops [op 39 (.mov (.r 6)), op 40 (.mov (.r 10)), op 41 (.mov (.r 6)), op 42 (.mov (.r 10)), op 43 (.iad 2 (.r 41) (.r 42)), op 44 (.fad 1 (.r 43)), op 45 (.ld 1 false (.r 44)), op 46 (.ld 2 true (.r 8)), op 47 (.bsl 1 [.str ⟨#[]⟩, .str ⟨#[]⟩] [(0, (.r 46))]), op 48 (.app 2 32 false (.r 45) (.r 47)), op 49 (.iad 2 (.r 39) (.r 40)), op 50 (.fad 1 (.r 49)), ef (.st 1 (.r 50) (.r 48))])) <|
      .ops [op 51 (.bin .add (.r 17) (.c (.int .i64 1))), op 17 (.mov (.r 51))]))) <|
  sq (.ops [op 52 (.mov (.r 6)), op 4 (.mov (.r 52)), op 5 (.mov (.c (.int .i64 0)))]) <|
  .ret⟩

-- rampart/rampartref05.GroupPairs
def an16 : An := ⟨[], []⟩
def ir16 : Go.Rmp.Fn := ⟨59, 2, [.t 4, .t 5],
  sq (.ops [op 4 (.mov (.c (.sl .nil []))), op 5 (.mov (.c (.int .i64 0)))]) <|
  sq (sq (.ops [op 12 (.mov (.r 1)), op 13 (.bin .lss (.r 12) (.c (.int .i64 1))), op 14 (.mov (.r 13)), ⟨(some 15), .b (.mov (.r 1)), (some (14, false)), []⟩, ⟨(some 16), .b (.bin .gtr (.r 15) (.c (.int .i64 64))), (some (14, false)), []⟩, op 17 (.pick (.r 14) (.c (.bool true)) (.r 16))]) <|
  .cond (.r 17)
    (sq (.ops [op 4 (.mov (.c (.sl .nil []))), op 5 (.mov (.c (.int .i64 1)))]) <|
    .ret)
    (.skip)) <|
  sq (.ops [op 6 (.mov (.c (.sl .nil [])))]) <|
  sq (sq (.ops [op 7 (.mov (.c (.int .i64 0)))]) <|
  .block 0 (
    .loop (
      sq (sq (.ops [op 18 (.mov (.r 7)), op 19 (.mov (.r 1)), op 20 (.bin .lss (.r 18) (.r 19))]) <|
      .cond (.r 20)
        (.skip)
        (.exit 0)) <|
      sq (.block 1 (
        sq (.ops [op 8 (.mov (.c (.sl .nil [])))]) <|
        sq (sq (.ops [op 9 (.mov (.c (.int .i64 0)))]) <|
        .block 2 (
          .loop (
            sq (sq (.ops [op 23 (.mov (.r 9)), op 24 (.mov (.r 0)), op 25 (.len .sl (.r 24)), op 26 (.bin .lss (.r 23) (.r 25))]) <|
            .cond (.r 26)
              (.skip)
              (.exit 2)) <|
            sq (.block 3 (
              sq (.ops [op 30 (.mov (.r 0)), op 31 (.mov (.r 9)), op 32 (.iad 2 (.r 30) (.r 31)), op 33 (.fad 0 (.r 32)), op 34 (.ld 1 false (.r 33)), op 35 (.mov (.r 1)), cl 36 9 [(.r 34), (.r 35)], op 29 (.mov (.r 36)), op 37 (.ext 0 (.r 29)), op 38 (.ext 1 (.r 29)), op 10 (.mov (.r 37)), op 11 (.mov (.r 38))]) <|
              sq (.ops [op 39 (.mov (.r 10)), op 40 (.mov (.r 7)), op 41 (.bin .eql (.r 39) (.r 40))]) <|
              .cond (.r 41)
                (.ops [op 42 (.mov (.r 8)), op 43 (.mov (.r 0)), op 44 (.mov (.r 9)), op 45 (.iad 2 (.r 43) (.r 44)), op 46 (.ld 2 true (.r 45)), op 47 (.bsl 1 [.str ⟨#[]⟩, .str ⟨#[]⟩] [(0, (.r 46))]), op 48 (.app 2 32 false (.r 42) (.r 47)), op 8 (.mov (.r 48))])
                (.skip))) <|
            .ops [op 27 (.mov (.r 9)), op 28 (.bin .add (.r 27) (.c (.int .i64 1))), op 9 (.mov (.r 28))]))) <|
        sq (.ops [op 49 (.mov (.r 8)), op 50 (.len .sl (.r 49)), op 51 (.bin .gtr (.r 50) (.c (.int .i64 0)))]) <|
        .cond (.r 51)
          (.ops [op 52 (.mov (.r 6)), op 53 (.mov (.r 7)), op 54 (.mov (.r 8)), op 55 (.build [.int .i64 0, .sl .nil []] [(0, 1, (.r 53)), (1, 1, (.r 54))]), op 56 (.bsl 1 [.int .i64 0, .sl .nil []] [(0, (.r 55))]), op 57 (.app 2 32 false (.r 52) (.r 56)), op 6 (.mov (.r 57))])
          (.skip))) <|
      .ops [op 21 (.mov (.r 7)), op 22 (.bin .add (.r 21) (.c (.int .i64 1))), op 7 (.mov (.r 22))]))) <|
  sq (.ops [op 58 (.mov (.r 6)), op 4 (.mov (.r 58)), op 5 (.mov (.c (.int .i64 0)))]) <|
  .ret⟩

-- rampart/rampartlaw05.samePairs
def an17 : An := ⟨[], [(6, [(0, true), (1, true), (2, true), (3, true), (4, true), (5, true), (6, true), (7, true), (8, true)])]⟩
def ir17 : Go.Rmp.Fn := ⟨26, 2, [.t 4],
  sq (.ops [op 4 (.mov (.c (.bool false)))]) <|
  sq (sq (.ops [op 6 (.mov (.r 0)), op 7 (.len .sl (.r 6)), op 8 (.mov (.r 1)), op 9 (.len .sl (.r 8)), op 10 (.bin .neq (.r 7) (.r 9))]) <|
  .cond (.r 10)
    (sq (.ops [op 4 (.mov (.c (.bool false)))]) <|
    .ret)
    (.skip)) <|
  sq (sq (.ops [op 5 (.mov (.c (.int .i64 0)))]) <|
  .block 0 (
    .loop (
      sq (sq (.ops [op 11 (.mov (.r 5)), op 12 (.mov (.r 0)), op 13 (.len .sl (.r 12)), op 14 (.bin .lss (.r 11) (.r 13))]) <|
      .cond (.r 14)
        (.skip)
        (.exit 0)) <|
      sq (.block 1 (
        sq (.ops [op 17 (.mov (.r 0)), op 18 (.mov (.r 5)), op 19 (.iad 2 (.r 17) (.r 18)), op 20 (.ld 2 true (.r 19)), op 21 (.mov (.r 1)), op 22 (.mov (.r 5)), op 23 (.iad 2 (.r 21) (.r 22)), op 24 (.ld 2 true (.r 23)), op 25 (.eqs true [.str, .str] (.r 20) (.r 24))]) <|
        .cond (.r 25)
          (sq (.ops [op 4 (.mov (.c (.bool false)))]) <|
          .ret)
          (.skip))) <|
      .ops [op 15 (.mov (.r 5)), op 16 (.bin .add (.r 15) (.c (.int .i64 1))), op 5 (.mov (.r 16))]))) <|
  sq (.ops [op 4 (.mov (.c (.bool true)))]) <|
  .ret⟩

-- rampart/rampartlaw05.marked
def an18 : An := ⟨[], [(9, [(0, true), (1, true), (2, true), (3, true), (4, true), (5, true), (6, false), (7, true), (8, false)]), (16, [(0, true), (1, true), (2, true), (3, true), (4, true), (5, true), (6, false), (7, true), (8, true), (9, false)]), (41, [(0, true), (1, true), (2, true), (3, true), (4, true), (5, true), (6, true), (7, true), (8, false), (9, true), (10, true), (11, true), (12, true), (13, true), (14, true), (15, true), (16, true), (17, true), (18, true), (19, true), (20, true), (21, true), (22, true), (23, true), (24, true), (25, true), (26, true), (27, false), (28, true), (29, true), (30, true)]), (49, [(0, true), (1, true), (2, true), (3, true), (4, true), (5, true), (6, true), (7, true), (8, true), (9, false), (10, true), (11, true), (12, true), (13, true), (14, true), (15, true), (16, true), (17, true), (18, true), (19, true), (20, true), (21, true), (22, true), (23, true), (24, true), (25, true), (26, true), (27, true), (28, true), (29, false), (30, true), (31, true), (32, true)])]⟩
def ir18 : Go.Rmp.Fn := ⟨209, 2, [.t 4],
  sq (.ops [op 4 (.mov (.c (.bool false)))]) <|
  sq (.ops [op 5 (.mov (.c (.sl .nil [])))]) <|
  sq (.ops [op 6 (.mov (.c (.sl .nil [])))]) <|
  sq (sq (.ops [op 7 (.mov (.c (.int .i64 0)))]) <|
  .block 0 (
    .loop (
      sq (sq (.ops [op 21 (.mov (.r 7)), op 22 (.mov (.r 0)), op 23 (.len .sl (.r 22)), op 24 (.bin .lss (.r 21) (.r 23))]) <|
      .cond (.r 24)
        (.skip)
        (.exit 0)) <|
      sq (.block 1 (
        sq (.ops [op 8 (.mov (.c (.int .i64 0)))]) <|
        .block 2 (
          .loop (
            sq (sq (.ops [op 27 (.mov (.r 8)), op 28 (.mov (.r 0)), op 29 (.mov (.r 7)), op 30 (.iad 1 (.r 28) (.r 29)), op 31 (.ld 1 false (.r 30)), op 32 (.len .sl (.r 31)), op 33 (.bin .lss (.r 27) (.r 32))]) <|
            .cond (.r 33)
              (.skip)
              (.exit 2)) <|
            sq (.block 3 (
              .ops [op 36 (.mov (.r 0)), op 37 (.mov (.r 7)), op 38 (.iad 1 (.r 36) (.r 37)), op 39 (.ld 1 false (.r 38)), op 40 (.mov (.r 8)), op 41 (.mov (.r 7)), ⟨(some 42), .call 29 [(.r 41)], none, [⟨39, .ld 1 false (.r 38), none⟩]⟩, op 43 (.iad 1 (.r 39) (.r 40)), ef (.st 1 (.r 43) (.r 42))])) <|
            .ops [op 34 (.mov (.r 8)), op 35 (.bin .add (.r 34) (.c (.int .i64 1))), op 8 (.mov (.r 35))])))) <|
      .ops [op 25 (.mov (.r 7)), op 26 (.bin .add (.r 25) (.c (.int .i64 1))), op 7 (.mov (.r 26))]))) <|
  sq (sq (.ops [op 9 (.mov (.c (.int .i64 0)))]) <|
  .block 4 (
    .loop (
      sq (sq (.ops [op 44 (.mov (.r 9)), op 45 (.mov (.r 1)), op 46 (.len .sl (.r 45)), op 47 (.bin .lss (.r 44) (.r 46))]) <|
      .cond (.r 47)
        (.skip)
        (.exit 4)) <|
      sq (.block 5 (
        sq (.ops [op 10 (.mov (.c (.int .i64 0)))]) <|
        .block 6 (
          .loop (
            sq (sq (.ops [op 50 (.mov (.r 10)), op 51 (.mov (.r 1)), op 52 (.mov (.r 9)), op 53 (.iad 1 (.r 51) (.r 52)), op 54 (.ld 1 false (.r 53)), op 55 (.len .sl (.r 54)), op 56 (.bin .lss (.r 50) (.r 55))]) <|
            .cond (.r 56)
              (.skip)
              (.exit 6)) <|
            sq (.block 7 (
              .ops [op 59 (.mov (.r 1)), op 60 (.mov (.r 9)), op 61 (.iad 1 (.r 59) (.r 60)), op 62 (.ld 1 false (.r 61)), op 63 (.mov (.r 10)), op 64 (.mov (.r 9)), ⟨(some 65), .call 29 [(.r 64)], none, [⟨62, .ld 1 false (.r 61), none⟩]⟩, op 66 (.build [.str ⟨#[]⟩, .str ⟨#[]⟩] [(0, 1, (.r 65))]), op 67 (.iad 2 (.r 62) (.r 63)), ef (.st 2 (.r 67) (.r 66))])) <|
            .ops [op 57 (.mov (.r 10)), op 58 (.bin .add (.r 57) (.c (.int .i64 1))), op 10 (.mov (.r 58))])))) <|
      .ops [op 48 (.mov (.r 9)), op 49 (.bin .add (.r 48) (.c (.int .i64 1))), op 9 (.mov (.r 49))]))) <|
  sq (sq (.ops [op 11 (.mov (.c (.int .i64 0)))]) <|
  .block 8 (
    .loop (
      sq (sq (.ops [op 68 (.mov (.r 11)), op 69 (.mov (.r 0)), op 70 (.len .sl (.r 69)), op 71 (.bin .lss (.r 68) (.r 70))]) <|
      .cond (.r 71)
        (.skip)
        (.exit 8)) <|
      sq (.block 9 (
        sq (.ops [op 74 (.mov (.r 0)), op 75 (.mov (.r 11)), op 76 (.iad 1 (.r 74) (.r 75)), op 77 (.ld 1 false (.r 76)), op 12 (.mov (.r 77))]) <|
        sq (sq (.ops [op 13 (.mov (.c (.int .i64 0)))]) <|
        .block 10 (
          .loop (
            sq (sq (.ops [op 78 (.mov (.r 13)), op 79 (.bin .lss (.r 78) (.c (.int .i64 30)))]) <|
            .cond (.r 79)
              (.skip)
              (.exit 10)) <|
            sq (.block 11 (
              .ops [op 82 (.mov (.r 12)), op 83 (.mov (.r 11)), cl 84 29 [(.r 83)], op 85 (.bsl 1 [.str ⟨#[]⟩] [(0, (.r 84))]), op 86 (.app 1 16 false (.r 82) (.r 85)), op 12 (.mov (.r 86))])) <|
            .ops [op 80 (.mov (.r 13)), op 81 (.bin .add (.r 80) (.c (.int .i64 1))), op 13 (.mov (.r 81))]))) <|
        .ops [op 87 (.mov (.r 5)), op 88 (.mov (.r 12)), op 89 (.bsl 1 [.sl .nil []] [(0, (.r 88))]), op 90 (.app 1 24 false (.r 87) (.r 89)), op 5 (.mov (.r 90))])) <|
      .ops [op 72 (.mov (.r 11)), op 73 (.bin .add (.r 72) (.c (.int .i64 1))), op 11 (.mov (.r 73))]))) <|
  sq (sq (.ops [op 14 (.mov (.c (.int .i64 0)))]) <|
  .block 12 (
    .loop (
      sq (sq (.ops [op 91 (.mov (.r 14)), op 92 (.mov (.r 1)), op 93 (.len .sl (.r 92)), op 94 (.bin .lss (.r 91) (.r 93))]) <|
      .cond (.r 94)
        (.skip)
        (.exit 12)) <|
      sq (.block 13 (
        sq (.ops [op 97 (.mov (.r 1)), op 98 (.mov (.r 14)), op 99 (.iad 1 (.r 97) (.r 98)), op 100 (.ld 1 false (.r 99)), op 15 (.mov (.r 100))]) <|
        sq (sq (.ops [op 16 (.mov (.c (.int .i64 0)))]) <|
        .block 14 (
          .loop (
            sq (sq (.ops [op 101 (.mov (.r 16)), op 102 (.bin .lss (.r 101) (.c (.int .i64 30)))]) <|
            .cond (.r 102)
              (.skip)
              (.exit 14)) <|
            sq (.block 15 (
              .ops [op 105 (.mov (.r 15)), op 106 (.mov (.r 14)), cl 107 29 [(.r 106)], op 108 (.build [.str ⟨#[]⟩, .str ⟨#[]⟩] [(0, 1, (.r 107))]), op 109 (.bsl 1 [.str ⟨#[]⟩, .str ⟨#[]⟩] [(0, (.r 108))]), op 110 (.app 2 32 false (.r 105) (.r 109)), op 15 (.mov (.r 110))])) <|
            .ops [op 103 (.mov (.r 16)), op 104 (.bin .add (.r 103) (.c (.int .i64 1))), op 16 (.mov (.r 104))]))) <|
        .ops [op 111 (.mov (.r 6)), op 112 (.mov (.r 15)), op 113 (.bsl 1 [.sl .nil []] [(0, (.r 112))]), op 114 (.app 1 24 false (.r 111) (.r 113)), op 6 (.mov (.r 114))])) <|
      .ops [op 95 (.mov (.r 14)), op 96 (.bin .add (.r 95) (.c (.int .i64 1))), op 14 (.mov (.r 96))]))) <|
  sq (sq (.ops [op 17 (.mov (.c (.int .i64 0)))]) <|
  .block 16 (
    .loop (
      sq (sq (.ops [op 115 (.mov (.r 17)), op 116 (.mov (.r 5)), op 117 (.len .sl (.r 116)), op 118 (.bin .lss (.r 115) (.r 117))]) <|
      .cond (.r 118)
        (.skip)
        (.exit 16)) <|
      sq (.block 17 (
        sq (.ops [op 18 (.mov (.c (.int .i64 0)))]) <|
        .block 18 (
          .loop (
            sq (sq (.ops [op 121 (.mov (.r 18)), op 122 (.mov (.r 5)), op 123 (.mov (.r 17)), op 124 (.iad 1 (.r 122) (.r 123)), op 125 (.ld 1 false (.r 124)), op 126 (.len .sl (.r 125)), op 127 (.bin .lss (.r 121) (.r 126))]) <|
            .cond (.r 127)
              (.skip)
              (.exit 18)) <|
            sq (.block 19 (
              sq (.ops [op 130 (.mov (.r 5)), op 131 (.mov (.r 17)), op 132 (.iad 1 (.r 130) (.r 131)), op 133 (.ld 1 false (.r 132)), op 134 (.mov (.r 18)), op 135 (.iad 1 (.r 133) (.r 134)), op 136 (.ld 1 false (.r 135)), op 137 (.mov (.r 17)), ⟨(some 138), .call 29 [(.r 137)], none, [⟨133, .ld 1 false (.r 132), none⟩, ⟨136, .ld 1 false (.r 135), none⟩]⟩, op 139 (.bin .neq (.r 136) (.r 138)), op 140 (.mov (.r 139)), ⟨(some 141), .b (.mov (.r 18)), (some (140, false)), []⟩, ⟨(some 142), .b (.mov (.r 0)), (some (140, false)), []⟩, ⟨(some 143), .b (.mov (.r 17)), (some (140, false)), []⟩, ⟨(some 144), .b (.iad 1 (.r 142) (.r 143)), (some (140, false)), []⟩, ⟨(some 145), .b (.ld 1 false (.r 144)), (some (140, false)), []⟩, ⟨(some 146), .b (.len .sl (.r 145)), (some (140, false)), []⟩, ⟨(some 147), .b (.bin .lss (.r 141) (.r 146)), (some (140, false)), []⟩, ⟨(some 148), .b (.mov (.r 147)), (some (140, false)), []⟩, ⟨(some 149), .b (.mov (.r 0)), (some (148, true)), []⟩, ⟨(some 150), .b (.mov (.r 17)), (some (148, true)), []⟩, ⟨(some 151), .b (.iad 1 (.r 149) (.r 150)), (some (148, true)), []⟩, ⟨(some 152), .b (.ld 1 false (.r 151)), (some (148, true)), []⟩, ⟨(some 153), .b (.mov (.r 18)), (some (148, true)), []⟩, ⟨(some 154), .b (.iad 1 (.r 152) (.r 153)), (some (148, true)), []⟩, ⟨(some 155), .b (.ld 1 false (.r 154)), (some (148, true)), []⟩, ⟨(some 156), .b (.mov (.r 17)), (some (148, true)), []⟩, ⟨(some 157), .call 29 [(.r 156)], (some (148, true)), [⟨152, .ld 1 false (.r 151), (some (148, true))⟩, ⟨155, .ld 1 false (.r 154), (some (148, true))⟩]⟩, ⟨(some 158), .b (.bin .neq (.r 155) (.r 157)), (some (148, true)), []⟩, ⟨(some 159), .b (.pick (.r 148) (.r 158) (.c (.bool false))), (some (140, false)), []⟩, op 160 (.pick (.r 140) (.c (.bool true)) (.r 159))]) <|
              .cond (.r 160)
                (sq (.ops [op 4 (.mov (.c (.bool false)))]) <|
                .ret)
                (.skip))) <|
            .ops [op 128 (.mov (.r 18)), op 129 (.bin .add (.r 128) (.c (.int .i64 1))), op 18 (.mov (.r 129))])))) <|
      .ops [op 119 (.mov (.r 17)), op 120 (.bin .add (.r 119) (.c (.int .i64 1))), op 17 (.mov (.r 120))]))) <|
  sq (sq (.ops [op 19 (.mov (.c (.int .i64 0)))]) <|
  .block 20 (
    .loop (
      sq (sq (.ops [op 161 (.mov (.r 19)), op 162 (.mov (.r 6)), op 163 (.len .sl (.r 162)), op 164 (.bin .lss (.r 161) (.r 163))]) <|
      .cond (.r 164)
        (.skip)
        (.exit 20)) <|
      sq (.block 21 (
        sq (.ops [op 20 (.mov (.c (.int .i64 0)))]) <|
        .block 22 (
          .loop (
            sq (sq (.ops [op 167 (.mov (.r 20)), op 168 (.mov (.r 6)), op 169 (.mov (.r 19)), op 170 (.iad 1 (.r 168) (.r 169)), op 171 (.ld 1 false (.r 170)), op 172 (.len .sl (.r 171)), op 173 (.bin .lss (.r 167) (.r 172))]) <|
            .cond (.r 173)
              (.skip)
              (.exit 22)) <|
            sq (.block 23 (
              sq (.ops [op 176 (.mov (.r 6)), op 177 (.mov (.r 19)), op 178 (.iad 1 (.r 176) (.r 177)), op 179 (.ld 1 false (.r 178)), op 180 (.mov (.r 20)), op 181 (.iad 2 (.r 179) (.r 180)), op 182 (.fad 0 (.r 181)), op 183 (.ld 1 false (.r 182)), op 184 (.mov (.r 19)), ⟨(some 185), .call 29 [(.r 184)], none, [⟨179, .ld 1 false (.r 178), none⟩, ⟨183, .ld 1 false (.r 182), none⟩]⟩, op 186 (.bin .neq (.r 183) (.r 185)), op 187 (.mov (.r 186)), ⟨(some 188), .b (.mov (.r 20)), (some (187, false)), []⟩, ⟨(some 189), .b (.mov (.r 1)), (some (187, false)), []⟩, ⟨(some 190), .b (.mov (.r 19)), (some (187, false)), []⟩, ⟨(some 191), .b (.iad 1 (.r 189) (.r 190)), (some (187, false)), []⟩, ⟨(some 192), .b (.ld 1 false (.r 191)), (some (187, false)), []⟩, ⟨(some 193), .b (.len .sl (.r 192)), (some (187, false)), []⟩, ⟨(some 194), .b (.bin .lss (.r 188) (.r 193)), (some (187, false)), []⟩, ⟨(some 195), .b (.mov (.r 194)), (some (187, false)), []⟩, ⟨(some 196), .b (.mov (.r 1)), (some (195, true)), []⟩, ⟨(some 197), .b (.mov (.r 19)), (some (195, true)), []⟩, ⟨(some 198), .b (.iad 1 (.r 196) (.r 197)), (some (195, true)), []⟩, ⟨(some 199), .b (.ld 1 false (.r 198)), (some (195, true)), []⟩, ⟨(some 200), .b (.mov (.r 20)), (some (195, true)), []⟩, ⟨(some 201), .b (.iad 2 (.r 199) (.r 200)), (some (195, true)), []⟩, ⟨(some 202), .b (.fad 0 (.r 201)), (some (195, true)), []⟩, ⟨(some 203), .b (.ld 1 false (.r 202)), (some (195, true)), []⟩, ⟨(some 204), .b (.mov (.r 19)), (some (195, true)), []⟩, ⟨(some 205), .call 29 [(.r 204)], (some (195, true)), [⟨199, .ld 1 false (.r 198), (some (195, true))⟩, ⟨203, .ld 1 false (.r 202), (some (195, true))⟩]⟩, ⟨(some 206), .b (.bin .neq (.r 203) (.r 205)), (some (195, true)), []⟩, ⟨(some 207), .b (.pick (.r 195) (.r 206) (.c (.bool false))), (some (187, false)), []⟩, op 208 (.pick (.r 187) (.c (.bool true)) (.r 207))]) <|
              .cond (.r 208)
                (sq (.ops [op 4 (.mov (.c (.bool false)))]) <|
                .ret)
                (.skip))) <|
            .ops [op 174 (.mov (.r 20)), op 175 (.bin .add (.r 174) (.c (.int .i64 1))), op 20 (.mov (.r 175))])))) <|
      .ops [op 165 (.mov (.r 19)), op 166 (.bin .add (.r 165) (.c (.int .i64 1))), op 19 (.mov (.r 166))]))) <|
  sq (.ops [op 4 (.mov (.c (.bool true)))]) <|
  .ret⟩

-- rampart/shard.may
def an19 : An := ⟨[], []⟩
def ir19 : Go.Rmp.Fn := ⟨9, 1, [.t 2],
  sq (.ops [op 2 (.mov (.c (.bool false)))]) <|
  sq (.ops [op 3 (.mov (.r 0)), op 4 (.bin .geq (.r 3) (.c (.int .i64 1))), op 5 (.mov (.r 4)), ⟨(some 6), .b (.mov (.r 0)), (some (5, true)), []⟩, ⟨(some 7), .b (.bin .leq (.r 6) (.c (.int .i64 64))), (some (5, true)), []⟩, op 8 (.pick (.r 5) (.r 7) (.c (.bool false))), op 2 (.mov (.r 8))]) <|
  .ret⟩

-- rampart/shard.of
def an20 : An := ⟨[], []⟩
def ir20 : Go.Rmp.Fn := ⟨11, 2, [.t 4],
  sq (.ops [op 4 (.mov (.c (.int .i64 0)))]) <|
  sq (.ops [op 5 (.mov (.r 0)), cl 6 30 [(.r 5)], op 7 (.mov (.r 1)), op 8 (.cvi .u64 (.r 7)), op 9 (.bin .rem (.r 6) (.r 8)), op 10 (.cvi .i64 (.r 9)), op 4 (.mov (.r 10))]) <|
  .ret⟩

-- rampart/rampartref01.Hash
def an21 : An := ⟨[], []⟩
def ir21 : Go.Rmp.Fn := ⟨5, 1, [.t 2],
  sq (.ops [op 2 (.mov (.c (.int .u64 0)))]) <|
  sq (.ops [op 3 (.mov (.r 0)), cl 4 31 [(.c (.int .u64 14695981039346656037)), (.r 3)], op 2 (.mov (.r 4))]) <|
  .ret⟩

-- slices.BinarySearchFunc[[]rampart/shard.Part,rampart/shard.Part,int]
def an22 : An := ⟨[], []⟩
def ir22 : Go.Rmp.Fn := ⟨49, 3, [.t 6, .t 7],
  sq (.ops [op 6 (.mov (.c (.int .i64 0))), op 7 (.mov (.c (.bool false)))]) <|
  sq (.ops [op 12 (.mov (.r 0)), op 13 (.len .sl (.r 12)), op 8 (.mov (.r 13))]) <|
  sq (.ops [op 14 (.mov (.r 8)), op 9 (.mov (.c (.int .i64 0))), op 10 (.mov (.r 14))]) <|
  sq (.block 0 (
    .loop (
      sq (sq (.ops [op 15 (.mov (.r 9)), op 16 (.mov (.r 10)), op 17 (.bin .lss (.r 15) (.r 16))]) <|
      .cond (.r 17)
        (.skip)
        (.exit 0)) <|
      .block 1 (
        sq (.ops [op 18 (.mov (.r 9)), op 19 (.mov (.r 10)), op 20 (.bin .add (.r 18) (.r 19)), op 21 (.cvi .u64 (.r 20)), op 22 (.bin .shr (.r 21) (.c (.int .u64 1))), op 23 (.cvi .i64 (.r 22)), op 11 (.mov (.r 23))]) <|
        sq (.ops [op 24 (.mov (.r 2)), op 25 (.mov (.r 0)), op 26 (.mov (.r 11)), op 27 (.iad 2 (.r 25) (.r 26)), op 28 (.ld 2 true (.r 27)), op 29 (.mov (.r 1)), ⟨(some 30), .callv (.r 24) [(.r 28), (.r 29)], none, []⟩, op 31 (.bin .lss (.r 30) (.c (.int .i64 0)))]) <|
        .cond (.r 31)
          (.ops [op 32 (.mov (.r 11)), op 33 (.bin .add (.r 32) (.c (.int .i64 1))), op 9 (.mov (.r 33))])
          (.ops [op 34 (.mov (.r 11)), op 10 (.mov (.r 34))]))))) <|
  sq (.ops [op 35 (.mov (.r 9)), op 36 (.mov (.r 9)), op 37 (.mov (.r 8)), op 38 (.bin .lss (.r 36) (.r 37)), op 39 (.mov (.r 38)), ⟨(some 40), .b (.mov (.r 2)), (some (39, true)), []⟩, ⟨(some 41), .b (.mov (.r 0)), (some (39, true)), []⟩, ⟨(some 42), .b (.mov (.r 9)), (some (39, true)), []⟩, ⟨(some 43), .b (.iad 2 (.r 41) (.r 42)), (some (39, true)), []⟩, ⟨(some 44), .b (.ld 2 true (.r 43)), (some (39, true)), []⟩, ⟨(some 45), .b (.mov (.r 1)), (some (39, true)), []⟩, ⟨(some 46), .callv (.r 40) [(.r 44), (.r 45)], (some (39, true)), []⟩, ⟨(some 47), .b (.bin .eql (.r 46) (.c (.int .i64 0))), (some (39, true)), []⟩, op 48 (.pick (.r 39) (.r 47) (.c (.bool false))), op 6 (.mov (.r 35)), op 7 (.mov (.r 48))]) <|
  .ret⟩

-- rampart/shard.Group$1
def an23 : An := ⟨[], []⟩
def ir23 : Go.Rmp.Fn := ⟨9, 2, [.t 4],
  sq (.ops [op 2 (.box (.r 0)), op 4 (.mov (.c (.int .i64 0)))]) <|
  sq (.ops [op 5 (.fad 0 (.r 2)), op 6 (.ld 1 false (.r 5)), op 7 (.mov (.r 1)), cl 8 24 [(.r 6), (.r 7)], op 4 (.mov (.r 8))]) <|
  .ret⟩

-- cmp.Compare[int]
def an24 : An := ⟨[], []⟩
def ir24 : Go.Rmp.Fn := ⟨20, 2, [.t 4],
  sq (.ops [op 4 (.mov (.c (.int .i64 0)))]) <|
  sq (.ops [op 7 (.mov (.r 0)), cl 8 32 [(.r 7)], op 5 (.mov (.r 8))]) <|
  sq (.ops [op 9 (.mov (.r 1)), cl 10 32 [(.r 9)], op 6 (.mov (.r 10))]) <|
  sq (sq (.ops [op 11 (.mov (.r 5))]) <|
  .cond (.r 11)
    (sq (sq (.ops [op 12 (.mov (.r 6))]) <|
    .cond (.r 12)
      (sq (.ops [op 4 (.mov (.c (.int .i64 0)))]) <|
      .ret)
      (.skip)) <|
    sq (.ops [op 4 (.mov (.c (.int .i64 (-1))))]) <|
    .ret)
    (.skip)) <|
  sq (sq (.ops [op 13 (.mov (.r 6))]) <|
  .cond (.r 13)
    (sq (.ops [op 4 (.mov (.c (.int .i64 1)))]) <|
    .ret)
    (.skip)) <|
  sq (sq (.ops [op 14 (.mov (.r 0)), op 15 (.mov (.r 1)), op 16 (.bin .lss (.r 14) (.r 15))]) <|
  .cond (.r 16)
    (sq (.ops [op 4 (.mov (.c (.int .i64 (-1))))]) <|
    .ret)
    (.skip)) <|
  sq (sq (.ops [op 17 (.mov (.r 0)), op 18 (.mov (.r 1)), op 19 (.bin .gtr (.r 17) (.r 18))]) <|
  .cond (.r 19)
    (sq (.ops [op 4 (.mov (.c (.int .i64 1)))]) <|
    .ret)
    (.skip)) <|
  sq (.ops [op 4 (.mov (.c (.int .i64 0)))]) <|
  .ret⟩

-- slices.Insert[[]rampart/shard.Part,rampart/shard.Part]
def an25 : An := ⟨[(7, 2)], [(11, [(0, true), (1, true), (2, true), (3, true), (4, true), (5, true), (6, true), (7, true), (8, false)]), (15, [(0, true), (1, true), (2, true), (3, true), (4, true), (5, true), (6, true), (7, true), (8, false)])]⟩
def ir25 : Go.Rmp.Fn := ⟨95, 3, [.t 6],
  sq (.ops [op 6 (.mov (.c (.sl .nil [])))]) <|
  sq (.ops [op 10 (.mov (.r 0)), op 11 (.mov (.r 1)), op 12 (.sll 2 (.r 10) (some (.r 11)) none none)]) <|
  sq (.ops [op 13 (.mov (.r 2)), op 14 (.len .sl (.r 13)), op 7 (.mov (.r 14))]) <|
  sq (sq (.ops [op 15 (.mov (.r 7)), op 16 (.bin .eql (.r 15) (.c (.int .i64 0)))]) <|
  .cond (.r 16)
    (sq (.ops [op 17 (.mov (.r 0)), op 6 (.mov (.r 17))]) <|
    .ret)
    (.skip)) <|
  sq (.ops [op 18 (.mov (.r 0)), op 19 (.len .sl (.r 18)), op 8 (.mov (.r 19))]) <|
  sq (sq (.ops [op 20 (.mov (.r 1)), op 21 (.mov (.r 8)), op 22 (.bin .eql (.r 20) (.r 21))]) <|
  .cond (.r 22)
    (sq (.ops [op 23 (.mov (.r 0)), op 24 (.mov (.r 2)), op 25 (.app 2 32 true (.r 23) (.r 24)), op 6 (.mov (.r 25))]) <|
    .ret)
    (.skip)) <|
  sq (sq (.ops [op 26 (.mov (.r 8)), op 27 (.mov (.r 7)), op 28 (.bin .add (.r 26) (.r 27)), op 29 (.mov (.r 0)), op 30 (.cap (.r 29)), op 31 (.bin .gtr (.r 28) (.r 30))]) <|
  .cond (.r 31)
    (sq (.ops [op 32 (.mov (.r 0)), op 33 (.mov (.r 1)), op 34 (.sll 2 (.r 32) none (some (.r 33)) none), op 35 (.mov (.r 8)), op 36 (.mov (.r 7)), op 37 (.bin .add (.r 35) (.r 36)), op 38 (.mov (.r 1)), op 39 (.bin .sub (.r 37) (.r 38)), op 40 (.apz 2 32 [.int .i64 0, .sl .nil []] (.r 34) (.r 39)), op 9 (.mov (.r 40))]) <|
    sq (.ops [op 41 (.mov (.r 9)), op 42 (.mov (.r 1)), op 43 (.sll 2 (.r 41) (some (.r 42)) none none), op 44 (.mov (.r 2)), op 45 (.cpy 2 (.r 43) (.r 44))]) <|
    sq (.ops [op 46 (.mov (.r 9)), op 47 (.mov (.r 1)), op 48 (.mov (.r 7)), op 49 (.bin .add (.r 47) (.r 48)), op 50 (.sll 2 (.r 46) (some (.r 49)) none none), op 51 (.mov (.r 0)), op 52 (.mov (.r 1)), op 53 (.sll 2 (.r 51) (some (.r 52)) none none), op 54 (.cpy 2 (.r 50) (.r 53))]) <|
    sq (.ops [op 55 (.mov (.r 9)), op 6 (.mov (.r 55))]) <|
    .ret)
    (.skip)) <|
  sq (.ops [op 56 (.mov (.r 0)), op 57 (.mov (.r 8)), op 58 (.mov (.r 7)), op 59 (.bin .add (.r 57) (.r 58)), op 60 (.sll 2 (.r 56) none (some (.r 59)) none), op 0 (.mov (.r 60))]) <|
  sq (sq (.ops [op 61 (.mov (.r 2)), op 62 (.mov (.r 0)), op 63 (.mov (.r 1)), op 64 (.mov (.r 7)), op 65 (.bin .add (.r 63) (.r 64)), op 66 (.sll 2 (.r 62) (some (.r 65)) none none), op 67 (.ovl 2 (.r 61) (.r 66)), op 68 (.un .not (.r 67))]) <|
  .cond (.r 68)
    (sq (.ops [op 69 (.mov (.r 0)), op 70 (.mov (.r 1)), op 71 (.mov (.r 7)), op 72 (.bin .add (.r 70) (.r 71)), op 73 (.sll 2 (.r 69) (some (.r 72)) none none), op 74 (.mov (.r 0)), op 75 (.mov (.r 1)), op 76 (.sll 2 (.r 74) (some (.r 75)) none none), op 77 (.cpy 2 (.r 73) (.r 76))]) <|
    sq (.ops [op 78 (.mov (.r 0)), op 79 (.mov (.r 1)), op 80 (.sll 2 (.r 78) (some (.r 79)) none none), op 81 (.mov (.r 2)), op 82 (.cpy 2 (.r 80) (.r 81))]) <|
    sq (.ops [op 83 (.mov (.r 0)), op 6 (.mov (.r 83))]) <|
    .ret)
    (.skip)) <|
  sq (.ops [op 84 (.mov (.r 0)), op 85 (.mov (.r 8)), op 86 (.sll 2 (.r 84) (some (.r 85)) none none), op 87 (.mov (.r 2)), op 88 (.cpy 2 (.r 86) (.r 87))]) <|
  sq (.ops [op 89 (.mov (.r 0)), op 90 (.mov (.r 1)), op 91 (.sll 2 (.r 89) (some (.r 90)) none none), op 92 (.mov (.r 7)), cl 93 34 [(.r 91), (.r 92)]]) <|
  sq (.ops [op 94 (.mov (.r 0)), op 6 (.mov (.r 94))]) <|
  .ret⟩

-- slices.BinarySearchFunc[[]rampart/shard.PairPart,rampart/shard.PairPart,int]
def an26 : An := ⟨[], []⟩
def ir26 : Go.Rmp.Fn := ⟨49, 3, [.t 6, .t 7],
  sq (.ops [op 6 (.mov (.c (.int .i64 0))), op 7 (.mov (.c (.bool false)))]) <|
  sq (.ops [op 12 (.mov (.r 0)), op 13 (.len .sl (.r 12)), op 8 (.mov (.r 13))]) <|
  sq (.ops [op 14 (.mov (.r 8)), op 9 (.mov (.c (.int .i64 0))), op 10 (.mov (.r 14))]) <|
  sq (.block 0 (
    .loop (
      sq (sq (.ops [op 15 (.mov (.r 9)), op 16 (.mov (.r 10)), op 17 (.bin .lss (.r 15) (.r 16))]) <|
      .cond (.r 17)
        (.skip)
        (.exit 0)) <|
      .block 1 (
        sq (.ops [op 18 (.mov (.r 9)), op 19 (.mov (.r 10)), op 20 (.bin .add (.r 18) (.r 19)), op 21 (.cvi .u64 (.r 20)), op 22 (.bin .shr (.r 21) (.c (.int .u64 1))), op 23 (.cvi .i64 (.r 22)), op 11 (.mov (.r 23))]) <|
        sq (.ops [op 24 (.mov (.r 2)), op 25 (.mov (.r 0)), op 26 (.mov (.r 11)), op 27 (.iad 2 (.r 25) (.r 26)), op 28 (.ld 2 true (.r 27)), op 29 (.mov (.r 1)), ⟨(some 30), .callv (.r 24) [(.r 28), (.r 29)], none, []⟩, op 31 (.bin .lss (.r 30) (.c (.int .i64 0)))]) <|
        .cond (.r 31)
          (.ops [op 32 (.mov (.r 11)), op 33 (.bin .add (.r 32) (.c (.int .i64 1))), op 9 (.mov (.r 33))])
          (.ops [op 34 (.mov (.r 11)), op 10 (.mov (.r 34))]))))) <|
  sq (.ops [op 35 (.mov (.r 9)), op 36 (.mov (.r 9)), op 37 (.mov (.r 8)), op 38 (.bin .lss (.r 36) (.r 37)), op 39 (.mov (.r 38)), ⟨(some 40), .b (.mov (.r 2)), (some (39, true)), []⟩, ⟨(some 41), .b (.mov (.r 0)), (some (39, true)), []⟩, ⟨(some 42), .b (.mov (.r 9)), (some (39, true)), []⟩, ⟨(some 43), .b (.iad 2 (.r 41) (.r 42)), (some (39, true)), []⟩, ⟨(some 44), .b (.ld 2 true (.r 43)), (some (39, true)), []⟩, ⟨(some 45), .b (.mov (.r 1)), (some (39, true)), []⟩, ⟨(some 46), .callv (.r 40) [(.r 44), (.r 45)], (some (39, true)), []⟩, ⟨(some 47), .b (.bin .eql (.r 46) (.c (.int .i64 0))), (some (39, true)), []⟩, op 48 (.pick (.r 39) (.r 47) (.c (.bool false))), op 6 (.mov (.r 35)), op 7 (.mov (.r 48))]) <|
  .ret⟩

-- rampart/shard.GroupPairs$1
def an27 : An := ⟨[], []⟩
def ir27 : Go.Rmp.Fn := ⟨9, 2, [.t 4],
  sq (.ops [op 2 (.box (.r 0)), op 4 (.mov (.c (.int .i64 0)))]) <|
  sq (.ops [op 5 (.fad 0 (.r 2)), op 6 (.ld 1 false (.r 5)), op 7 (.mov (.r 1)), cl 8 24 [(.r 6), (.r 7)], op 4 (.mov (.r 8))]) <|
  .ret⟩

-- slices.Insert[[]rampart/shard.PairPart,rampart/shard.PairPart]
def an28 : An := ⟨[(7, 2)], [(11, [(0, true), (1, true), (2, true), (3, true), (4, true), (5, true), (6, true), (7, true), (8, false)]), (15, [(0, true), (1, true), (2, true), (3, true), (4, true), (5, true), (6, true), (7, true), (8, false)])]⟩
def ir28 : Go.Rmp.Fn := ⟨95, 3, [.t 6],
  sq (.ops [op 6 (.mov (.c (.sl .nil [])))]) <|
  sq (.ops [op 10 (.mov (.r 0)), op 11 (.mov (.r 1)), op 12 (.sll 2 (.r 10) (some (.r 11)) none none)]) <|
  sq (.ops [op 13 (.mov (.r 2)), op 14 (.len .sl (.r 13)), op 7 (.mov (.r 14))]) <|
  sq (sq (.ops [op 15 (.mov (.r 7)), op 16 (.bin .eql (.r 15) (.c (.int .i64 0)))]) <|
  .cond (.r 16)
    (sq (.ops [op 17 (.mov (.r 0)), op 6 (.mov (.r 17))]) <|
    .ret)
    (.skip)) <|
  sq (.ops [op 18 (.mov (.r 0)), op 19 (.len .sl (.r 18)), op 8 (.mov (.r 19))]) <|
  sq (sq (.ops [op 20 (.mov (.r 1)), op 21 (.mov (.r 8)), op 22 (.bin .eql (.r 20) (.r 21))]) <|
  .cond (.r 22)
    (sq (.ops [op 23 (.mov (.r 0)), op 24 (.mov (.r 2)), op 25 (.app 2 32 true (.r 23) (.r 24)), op 6 (.mov (.r 25))]) <|
    .ret)
    (.skip)) <|
  sq (sq (.ops [op 26 (.mov (.r 8)), op 27 (.mov (.r 7)), op 28 (.bin .add (.r 26) (.r 27)), op 29 (.mov (.r 0)), op 30 (.cap (.r 29)), op 31 (.bin .gtr (.r 28) (.r 30))]) <|
  .cond (.r 31)
    (sq (.ops [op 32 (.mov (.r 0)), op 33 (.mov (.r 1)), op 34 (.sll 2 (.r 32) none (some (.r 33)) none), op 35 (.mov (.r 8)), op 36 (.mov (.r 7)), op 37 (.bin .add (.r 35) (.r 36)), op 38 (.mov (.r 1)), op 39 (.bin .sub (.r 37) (.r 38)), op 40 (.apz 2 32 [.int .i64 0, .sl .nil []] (.r 34) (.r 39)), op 9 (.mov (.r 40))]) <|
    sq (.ops [op 41 (.mov (.r 9)), op 42 (.mov (.r 1)), op 43 (.sll 2 (.r 41) (some (.r 42)) none none), op 44 (.mov (.r 2)), op 45 (.cpy 2 (.r 43) (.r 44))]) <|
    sq (.ops [op 46 (.mov (.r 9)), op 47 (.mov (.r 1)), op 48 (.mov (.r 7)), op 49 (.bin .add (.r 47) (.r 48)), op 50 (.sll 2 (.r 46) (some (.r 49)) none none), op 51 (.mov (.r 0)), op 52 (.mov (.r 1)), op 53 (.sll 2 (.r 51) (some (.r 52)) none none), op 54 (.cpy 2 (.r 50) (.r 53))]) <|
    sq (.ops [op 55 (.mov (.r 9)), op 6 (.mov (.r 55))]) <|
    .ret)
    (.skip)) <|
  sq (.ops [op 56 (.mov (.r 0)), op 57 (.mov (.r 8)), op 58 (.mov (.r 7)), op 59 (.bin .add (.r 57) (.r 58)), op 60 (.sll 2 (.r 56) none (some (.r 59)) none), op 0 (.mov (.r 60))]) <|
  sq (sq (.ops [op 61 (.mov (.r 2)), op 62 (.mov (.r 0)), op 63 (.mov (.r 1)), op 64 (.mov (.r 7)), op 65 (.bin .add (.r 63) (.r 64)), op 66 (.sll 2 (.r 62) (some (.r 65)) none none), op 67 (.ovl 2 (.r 61) (.r 66)), op 68 (.un .not (.r 67))]) <|
  .cond (.r 68)
    (sq (.ops [op 69 (.mov (.r 0)), op 70 (.mov (.r 1)), op 71 (.mov (.r 7)), op 72 (.bin .add (.r 70) (.r 71)), op 73 (.sll 2 (.r 69) (some (.r 72)) none none), op 74 (.mov (.r 0)), op 75 (.mov (.r 1)), op 76 (.sll 2 (.r 74) (some (.r 75)) none none), op 77 (.cpy 2 (.r 73) (.r 76))]) <|
    sq (.ops [op 78 (.mov (.r 0)), op 79 (.mov (.r 1)), op 80 (.sll 2 (.r 78) (some (.r 79)) none none), op 81 (.mov (.r 2)), op 82 (.cpy 2 (.r 80) (.r 81))]) <|
    sq (.ops [op 83 (.mov (.r 0)), op 6 (.mov (.r 83))]) <|
    .ret)
    (.skip)) <|
  sq (.ops [op 84 (.mov (.r 0)), op 85 (.mov (.r 8)), op 86 (.sll 2 (.r 84) (some (.r 85)) none none), op 87 (.mov (.r 2)), op 88 (.cpy 2 (.r 86) (.r 87))]) <|
  sq (.ops [op 89 (.mov (.r 0)), op 90 (.mov (.r 1)), op 91 (.sll 2 (.r 89) (some (.r 90)) none none), op 92 (.mov (.r 7)), cl 93 36 [(.r 91), (.r 92)]]) <|
  sq (.ops [op 94 (.mov (.r 0)), op 6 (.mov (.r 94))]) <|
  .ret⟩

-- rampart/rampartlaw05.mark
def an29 : An := ⟨[], []⟩
def ir29 : Go.Rmp.Fn := ⟨10, 1, [.t 2],
  sq (.ops [op 2 (.mov (.c (.str ⟨#[]⟩)))]) <|
  sq (.ops [op 3 (.mov (.r 0)), op 4 (.cvi .u8 (.r 3)), op 5 (.mov (.r 0)), op 6 (.bin .shr (.r 5) (.c (.int .u64 8))), op 7 (.cvi .u8 (.r 6)), op 8 (.bsl 5 [.int .u8 0] [(0, (.r 4)), (1, (.r 7)), (2, (.c (.int .u8 7))), (3, (.c (.int .u8 7))), (4, (.c (.int .u8 7)))]), op 9 (.cvs (.r 8)), op 2 (.mov (.r 9))]) <|
  .ret⟩

-- rampart/sum.Hash
def an30 : An := ⟨[], []⟩
def ir30 : Go.Rmp.Fn := ⟨6, 1, [.t 2],
  sq (.ops [op 2 (.mov (.c (.int .u64 0)))]) <|
  sq (.ops [cl 3 38 [], op 4 (.mov (.r 0)), cl 5 37 [(.r 3), (.r 4)], op 2 (.mov (.r 5))]) <|
  .ret⟩

-- rampart/rampartref01.Feed
def an31 : An := ⟨[], []⟩
def ir31 : Go.Rmp.Fn := ⟨20, 2, [.t 4],
  sq (.ops [op 4 (.mov (.c (.int .u64 0)))]) <|
  sq (sq (.ops [op 5 (.mov (.c (.int .i64 0)))]) <|
  .block 0 (
    .loop (
      sq (sq (.ops [op 6 (.mov (.r 5)), op 7 (.mov (.r 1)), op 8 (.len .str (.r 7)), op 9 (.bin .lss (.r 6) (.r 8))]) <|
      .cond (.r 9)
        (.skip)
        (.exit 0)) <|
      sq (.block 1 (
        .ops [op 12 (.mov (.r 0)), op 13 (.mov (.r 1)), op 14 (.mov (.r 5)), op 15 (.ixs (.r 13) (.r 14)), op 16 (.cvi .u64 (.r 15)), op 17 (.bin .xor (.r 12) (.r 16)), op 18 (.bin .mul (.r 17) (.c (.int .u64 1099511628211))), op 0 (.mov (.r 18))])) <|
      .ops [op 10 (.mov (.r 5)), op 11 (.bin .add (.r 10) (.c (.int .i64 1))), op 5 (.mov (.r 11))]))) <|
  sq (.ops [op 19 (.mov (.r 0)), op 4 (.mov (.r 19))]) <|
  .ret⟩

-- cmp.isNaN[int]
def an32 : An := ⟨[], []⟩
def ir32 : Go.Rmp.Fn := ⟨6, 1, [.t 2],
  sq (.ops [op 2 (.mov (.c (.bool false)))]) <|
  sq (.ops [op 3 (.mov (.r 0)), op 4 (.mov (.r 0)), op 5 (.bin .neq (.r 3) (.r 4)), op 2 (.mov (.r 5))]) <|
  .ret⟩

-- slices.rotateRight[rampart/shard.Part]
def an34 : An := ⟨[], []⟩
def ir34 : Go.Rmp.Fn := ⟨10, 2, [],
  .ops [op 4 (.mov (.r 0)), op 5 (.mov (.r 0)), op 6 (.len .sl (.r 5)), op 7 (.mov (.r 1)), op 8 (.bin .sub (.r 6) (.r 7)), cl 9 39 [(.r 4), (.r 8)]]⟩

-- slices.rotateRight[rampart/shard.PairPart]
def an36 : An := ⟨[], []⟩
def ir36 : Go.Rmp.Fn := ⟨10, 2, [],
  .ops [op 4 (.mov (.r 0)), op 5 (.mov (.r 0)), op 6 (.len .sl (.r 5)), op 7 (.mov (.r 1)), op 8 (.bin .sub (.r 6) (.r 7)), cl 9 40 [(.r 4), (.r 8)]]⟩

-- rampart/sum.Feed
def an37 : An := ⟨[], []⟩
def ir37 : Go.Rmp.Fn := ⟨21, 2, [.t 4],
  sq (.ops [op 4 (.mov (.c (.int .u64 0)))]) <|
  sq (sq (.ops [op 6 (.mov (.r 1)), op 7 (.len .str (.r 6)), op 8 (.mov (.c (.int .i64 0)))]) <|
  .block 0 (
    .loop (
      sq (.ops [op 9 (.bin .lss (.r 8) (.r 7))]) <|
      sq (.cond (.r 9)
        (.skip)
        (.exit 0)) <|
      sq (.block 1 (
        sq (.ops [op 10 (.mov (.r 8)), op 5 (.mov (.r 10))]) <|
        sq (.ops [op 11 (.mov (.r 0)), op 12 (.mov (.r 1)), op 13 (.mov (.r 5)), op 14 (.ixs (.r 12) (.r 13)), op 15 (.cvi .u64 (.r 14)), op 16 (.bin .xor (.r 11) (.r 15)), op 0 (.mov (.r 16))]) <|
        .ops [op 17 (.mov (.r 0)), op 18 (.bin .mul (.r 17) (.c (.int .u64 1099511628211))), op 0 (.mov (.r 18))])) <|
      .ops [op 19 (.bin .add (.r 8) (.c (.int .i64 1))), op 8 (.mov (.r 19))]))) <|
  sq (.ops [op 20 (.mov (.r 0)), op 4 (.mov (.r 20))]) <|
  .ret⟩

-- rampart/sum.Begin
def an38 : An := ⟨[], []⟩
def ir38 : Go.Rmp.Fn := ⟨1, 0, [.t 0],
  sq (.ops [op 0 (.mov (.c (.int .u64 0)))]) <|
  sq (.ops [op 0 (.mov (.c (.int .u64 14695981039346656037)))]) <|
  .ret⟩

-- slices.rotateLeft[rampart/shard.Part]
def an39 : An := ⟨[], []⟩
def ir39 : Go.Rmp.Fn := ⟨14, 2, [],
  sq (.ops [op 4 (.mov (.r 0)), op 5 (.mov (.r 1)), op 6 (.sll 2 (.r 4) none (some (.r 5)) none), cl 7 41 [(.r 6)]]) <|
  sq (.ops [op 8 (.mov (.r 0)), op 9 (.mov (.r 1)), op 10 (.sll 2 (.r 8) (some (.r 9)) none none), cl 11 41 [(.r 10)]]) <|
  .ops [op 12 (.mov (.r 0)), cl 13 41 [(.r 12)]]⟩

-- slices.rotateLeft[rampart/shard.PairPart]
def an40 : An := ⟨[], []⟩
def ir40 : Go.Rmp.Fn := ⟨14, 2, [],
  sq (.ops [op 4 (.mov (.r 0)), op 5 (.mov (.r 1)), op 6 (.sll 2 (.r 4) none (some (.r 5)) none), cl 7 42 [(.r 6)]]) <|
  sq (.ops [op 8 (.mov (.r 0)), op 9 (.mov (.r 1)), op 10 (.sll 2 (.r 8) (some (.r 9)) none none), cl 11 42 [(.r 10)]]) <|
  .ops [op 12 (.mov (.r 0)), cl 13 42 [(.r 12)]]⟩

-- slices.Reverse[[]rampart/shard.Part,rampart/shard.Part]
def an41 : An := ⟨[], [(3, [(0, true), (1, true), (2, true), (3, true), (4, true), (5, true), (6, true), (7, true), (8, true), (9, true), (10, true), (11, true), (12, true), (13, false), (14, true), (15, false)])]⟩
def ir41 : Go.Rmp.Fn := ⟨28, 1, [],
  sq (.ops [op 4 (.mov (.r 0)), op 5 (.len .sl (.r 4)), op 6 (.bin .sub (.r 5) (.c (.int .i64 1))), op 2 (.mov (.c (.int .i64 0))), op 3 (.mov (.r 6))]) <|
  .block 0 (
    .loop (
      sq (sq (.ops [op 7 (.mov (.r 2)), op 8 (.mov (.r 3)), op 9 (.bin .lss (.r 7) (.r 8))]) <|
      .cond (.r 9)
        (.skip)
        (.exit 0)) <|
      sq (.block 1 (
        .ops [op 14 (.mov (.r 0)), op 15 (.mov (.r 2)), op 16 (.mov (.r 0)), op 17 (.mov (.r 3)), op 18 (.mov (.r 0)), op 19 (.mov (.r 3)), op 20 (.iad 2 (.r 18) (.r 19)), op 21 (.ld 2 true (.r 20)), op 22 (.mov (.r 0)), op 23 (.mov (.r 2)), op 24 (.iad 2 (.r 22) (.r 23)), op 25 (.ld 2 true (.r 24)), op 26 (.iad 2 (.r 14) (.r 15)), ef (.st 2 (.r 26) (.r 21)), op 27 (.iad 2 (.r 16) (.r 17)), ef (.st 2 (.r 27) (.r 25))])) <|
      .ops [op 10 (.mov (.r 2)), op 11 (.bin .add (.r 10) (.c (.int .i64 1))), op 12 (.mov (.r 3)), op 13 (.bin .sub (.r 12) (.c (.int .i64 1))), op 2 (.mov (.r 11)), op 3 (.mov (.r 13))]))⟩

-- slices.Reverse[[]rampart/shard.PairPart,rampart/shard.PairPart]
def an42 : An := ⟨[], [(3, [(0, true), (1, true), (2, true), (3, true), (4, true), (5, true), (6, true), (7, true), (8, true), (9, true), (10, true), (11, true), (12, true), (13, false), (14, true), (15, false)])]⟩
def ir42 : Go.Rmp.Fn := ⟨28, 1, [],
  sq (.ops [op 4 (.mov (.r 0)), op 5 (.len .sl (.r 4)), op 6 (.bin .sub (.r 5) (.c (.int .i64 1))), op 2 (.mov (.c (.int .i64 0))), op 3 (.mov (.r 6))]) <|
  .block 0 (
    .loop (
      sq (sq (.ops [op 7 (.mov (.r 2)), op 8 (.mov (.r 3)), op 9 (.bin .lss (.r 7) (.r 8))]) <|
      .cond (.r 9)
        (.skip)
        (.exit 0)) <|
      sq (.block 1 (
        .ops [op 14 (.mov (.r 0)), op 15 (.mov (.r 2)), op 16 (.mov (.r 0)), op 17 (.mov (.r 3)), op 18 (.mov (.r 0)), op 19 (.mov (.r 3)), op 20 (.iad 2 (.r 18) (.r 19)), op 21 (.ld 2 true (.r 20)), op 22 (.mov (.r 0)), op 23 (.mov (.r 2)), op 24 (.iad 2 (.r 22) (.r 23)), op 25 (.ld 2 true (.r 24)), op 26 (.iad 2 (.r 14) (.r 15)), ef (.st 2 (.r 26) (.r 21)), op 27 (.iad 2 (.r 16) (.r 17)), ef (.st 2 (.r 27) (.r 25))])) <|
      .ops [op 10 (.mov (.r 2)), op 11 (.bin .add (.r 10) (.c (.int .i64 1))), op 12 (.mov (.r 3)), op 13 (.bin .sub (.r 12) (.c (.int .i64 1))), op 2 (.mov (.r 11)), op 3 (.mov (.r 13))]))⟩

theorem c3 : compFn Try.prog an3 3 = some ir3 := by kernel_rfl
theorem c4 : compFn Try.prog an4 4 = some ir4 := by kernel_rfl
theorem c5 : compFn Try.prog an5 5 = some ir5 := by kernel_rfl
theorem c6 : compFn Try.prog an6 6 = some ir6 := by kernel_rfl
theorem c7 : compFn Try.prog an7 7 = some ir7 := by kernel_rfl
theorem c8 : compFn Try.prog an8 8 = some ir8 := by kernel_rfl
theorem c9 : compFn Try.prog an9 9 = some ir9 := by kernel_rfl
theorem c10 : compFn Try.prog an10 10 = some ir10 := by kernel_rfl
theorem c11 : compFn Try.prog an11 11 = some ir11 := by kernel_rfl
theorem c12 : compFn Try.prog an12 12 = some ir12 := by kernel_rfl
theorem c13 : compFn Try.prog an13 13 = some ir13 := by kernel_rfl
theorem c14 : compFn Try.prog an14 14 = some ir14 := by kernel_rfl
theorem c15 : compFn Try.prog an15 15 = some ir15 := by kernel_rfl
theorem c16 : compFn Try.prog an16 16 = some ir16 := by kernel_rfl
theorem c17 : compFn Try.prog an17 17 = some ir17 := by kernel_rfl
theorem c18 : compFn Try.prog an18 18 = some ir18 := by kernel_rfl
theorem c19 : compFn Try.prog an19 19 = some ir19 := by kernel_rfl
theorem c20 : compFn Try.prog an20 20 = some ir20 := by kernel_rfl
theorem c21 : compFn Try.prog an21 21 = some ir21 := by kernel_rfl
theorem c22 : compFn Try.prog an22 22 = some ir22 := by kernel_rfl
theorem c23 : compFn Try.prog an23 23 = some ir23 := by kernel_rfl
theorem c24 : compFn Try.prog an24 24 = some ir24 := by kernel_rfl
theorem c25 : compFn Try.prog an25 25 = some ir25 := by kernel_rfl
theorem c26 : compFn Try.prog an26 26 = some ir26 := by kernel_rfl
theorem c27 : compFn Try.prog an27 27 = some ir27 := by kernel_rfl
theorem c28 : compFn Try.prog an28 28 = some ir28 := by kernel_rfl
theorem c29 : compFn Try.prog an29 29 = some ir29 := by kernel_rfl
theorem c30 : compFn Try.prog an30 30 = some ir30 := by kernel_rfl
theorem c31 : compFn Try.prog an31 31 = some ir31 := by kernel_rfl
theorem c32 : compFn Try.prog an32 32 = some ir32 := by kernel_rfl
theorem c34 : compFn Try.prog an34 34 = some ir34 := by kernel_rfl
theorem c36 : compFn Try.prog an36 36 = some ir36 := by kernel_rfl
theorem c37 : compFn Try.prog an37 37 = some ir37 := by kernel_rfl
theorem c38 : compFn Try.prog an38 38 = some ir38 := by kernel_rfl
theorem c39 : compFn Try.prog an39 39 = some ir39 := by kernel_rfl
theorem c40 : compFn Try.prog an40 40 = some ir40 := by kernel_rfl
theorem c41 : compFn Try.prog an41 41 = some ir41 := by kernel_rfl
theorem c42 : compFn Try.prog an42 42 = some ir42 := by kernel_rfl

def envFn : Nat → Option Go.Rmp.Fn
  | 3 => some ir3
  | 4 => some ir4
  | 5 => some ir5
  | 6 => some ir6
  | 7 => some ir7
  | 8 => some ir8
  | 9 => some ir9
  | 10 => some ir10
  | 11 => some ir11
  | 12 => some ir12
  | 13 => some ir13
  | 14 => some ir14
  | 15 => some ir15
  | 16 => some ir16
  | 17 => some ir17
  | 18 => some ir18
  | 19 => some ir19
  | 20 => some ir20
  | 21 => some ir21
  | 22 => some ir22
  | 23 => some ir23
  | 24 => some ir24
  | 25 => some ir25
  | 26 => some ir26
  | 27 => some ir27
  | 28 => some ir28
  | 29 => some ir29
  | 30 => some ir30
  | 31 => some ir31
  | 32 => some ir32
  | 34 => some ir34
  | 36 => some ir36
  | 37 => some ir37
  | 38 => some ir38
  | 39 => some ir39
  | 40 => some ir40
  | 41 => some ir41
  | 42 => some ir42
  | _ => none
def env : Env := ⟨envFn, fun _ _ _ _ => False, fun _ _ _ _ _ h _ => h⟩
theorem envOk : EnvOk Try.prog env where
  mixed := by kernel_rfl
  fn := by
    intro f fn h
    simp only [env, envFn] at h
    split at h
    · cases h; exact ⟨_, c3⟩
    · cases h; exact ⟨_, c4⟩
    · cases h; exact ⟨_, c5⟩
    · cases h; exact ⟨_, c6⟩
    · cases h; exact ⟨_, c7⟩
    · cases h; exact ⟨_, c8⟩
    · cases h; exact ⟨_, c9⟩
    · cases h; exact ⟨_, c10⟩
    · cases h; exact ⟨_, c11⟩
    · cases h; exact ⟨_, c12⟩
    · cases h; exact ⟨_, c13⟩
    · cases h; exact ⟨_, c14⟩
    · cases h; exact ⟨_, c15⟩
    · cases h; exact ⟨_, c16⟩
    · cases h; exact ⟨_, c17⟩
    · cases h; exact ⟨_, c18⟩
    · cases h; exact ⟨_, c19⟩
    · cases h; exact ⟨_, c20⟩
    · cases h; exact ⟨_, c21⟩
    · cases h; exact ⟨_, c22⟩
    · cases h; exact ⟨_, c23⟩
    · cases h; exact ⟨_, c24⟩
    · cases h; exact ⟨_, c25⟩
    · cases h; exact ⟨_, c26⟩
    · cases h; exact ⟨_, c27⟩
    · cases h; exact ⟨_, c28⟩
    · cases h; exact ⟨_, c29⟩
    · cases h; exact ⟨_, c30⟩
    · cases h; exact ⟨_, c31⟩
    · cases h; exact ⟨_, c32⟩
    · cases h; exact ⟨_, c34⟩
    · cases h; exact ⟨_, c36⟩
    · cases h; exact ⟨_, c37⟩
    · cases h; exact ⟨_, c38⟩
    · cases h; exact ⟨_, c39⟩
    · cases h; exact ⟨_, c40⟩
    · cases h; exact ⟨_, c41⟩
    · cases h; exact ⟨_, c42⟩
    · cases h
  prim := by intro f az H Q h; exact h.elim
end Go.Proofs.Ytpbilghnfldmiaa.Ir
end

/-! text ShardA -/
section
namespace Go.Proofs.Ytpbilghnfldmiaa.Sx
open Go.Rmp Go.Proofs.Ytpbilghnfldmiaa.Ir
set_option maxRecDepth 10000
/-! the hash of a text -/
def fstep (h : Int) (c : UInt8) : Int := IntKind.u64.wrap (IntKind.u64.wrap ((BitVec.ofInt IntKind.u64.bits h ^^^ BitVec.ofInt IntKind.u64.bits (IntKind.u64.wrap c.toNat)).toNat : Nat) * 1099511628211)
def hashL (h : Int) (l : List UInt8) : Int := l.foldl fstep h
def hashT (s : ByteArray) : Int := hashL 14695981039346656037 s.data.toList
theorem u64_in (x : Int) : 0 ≤ IntKind.u64.wrap x ∧ IntKind.u64.wrap x < 18446744073709551616 := by
  unfold IntKind.wrap
  simp -implicitDefEqProofs only [IntKind.signed, IntKind.bits]
  simp
  omega
theorem hashL_snoc (h : Int) (l : List UInt8) (c : UInt8) : hashL h (l ++ [c]) = fstep (hashL h l) c := by simp [hashL]
theorem hashT_in (s : ByteArray) : 0 ≤ hashT s ∧ hashT s < 18446744073709551616 := by
  unfold hashT hashL
  generalize s.data.toList = l
  have key : ∀ (l : List UInt8) (h : Int), 0 ≤ h ∧ h < 18446744073709551616 → 0 ≤ l.foldl fstep h ∧ l.foldl fstep h < 18446744073709551616 := by
    intro l
    induction l with
    | nil => exact fun h hh => hh
    | cons c l ih => exact fun h _ => ih _ (u64_in _)
  exact key l _ (by decide)
theorem takeB {s : ByteArray} {i : Nat} {c : UInt8} (h : s.data[i]? = some c) : s.data.toList.take (i + 1) = s.data.toList.take i ++ [c] := by
  rw [List.take_add_one, Array.getElem?_toList, h]; rfl
theorem feed37 (h : Int) (s : ByteArray) (H : Heap) (hs : s.size < 9223372036854775807) : W env (.call 37 [.int .u64 h, .str s]) H (Ret (.int .u64 (hashL h s.data.toList)) H) := by
  refine W.fnI rfl rfl rfl ?_
  simp -implicitDefEqProofs only [ir37, op, ef, cl, sq, reduceIte, Int.reduceLT, Int.reduceLE, Int.reduceBEq, Int.reduceBNe, Int.reduceEq, Nat.reduceAdd, Nat.reduceLeDiff, Nat.reduceLT, Nat.reduceEqDiff, S1]
  refine W.loopI (fun (i : Nat) R H' => H' = H ∧ R 0 = .int .u64 (hashL h (s.data.toList.take i)) ∧ R 1 = .str s ∧ (R 7 = .int .i64 s.size) ∧ R 8 = .int .i64 i ∧ i ≤ s.size) (fun i => s.size - i) 0 ⟨rfl, rfl, rfl, by first | rfl | trivial, rfl, Nat.zero_le _⟩ ?_
  rintro i R _ ⟨rfl, h0, h1, h7, h8, hi⟩
  by_cases hlt : i < s.size
  · obtain ⟨c, hc⟩ : ∃ c, s.data[i]? = some c := ⟨s.data[i], Array.getElem?_eq_getElem hlt⟩
    have ws := wrap_succ (show i < 9223372036854775807 by omega)
    simp -implicitDefEqProofs only [op, ef, cl, sq, reduceIte, Int.reduceLT, Int.reduceLE, Int.reduceBEq, Int.reduceBNe, Int.reduceEq, Nat.reduceAdd, Nat.reduceLeDiff, Nat.reduceLT, Nat.reduceEqDiff, S1, h0, h1, h7, h8, hlt, natOf_nat, hc, ws]
    refine ⟨i + 1, by omega, ?_, rfl, by omega⟩
    rw [takeB hc, hashL_snoc]; rfl
  · have e : s.data.toList.take i = s.data.toList := List.take_of_length_le (by simp; exact Nat.le_of_not_lt hlt)
    simp -implicitDefEqProofs only [op, ef, cl, sq, reduceIte, Int.reduceLT, Int.reduceLE, Int.reduceBEq, Int.reduceBNe, Int.reduceEq, Nat.reduceAdd, Nat.reduceLeDiff, Nat.reduceLT, Nat.reduceEqDiff, S1, h0, h1, h7, h8, hlt, e]
theorem feed31 (h : Int) (s : ByteArray) (H : Heap) (hs : s.size < 9223372036854775807) : W env (.call 31 [.int .u64 h, .str s]) H (Ret (.int .u64 (hashL h s.data.toList)) H) := by
  refine W.fnI rfl rfl rfl ?_
  simp -implicitDefEqProofs only [ir31, op, ef, cl, sq, reduceIte, Int.reduceLT, Int.reduceLE, Int.reduceBEq, Int.reduceBNe, Int.reduceEq, Nat.reduceAdd, Nat.reduceLeDiff, Nat.reduceLT, Nat.reduceEqDiff, S1]
  refine W.loopI (fun (i : Nat) R H' => H' = H ∧ R 0 = .int .u64 (hashL h (s.data.toList.take i)) ∧ R 1 = .str s ∧ (True) ∧ R 5 = .int .i64 i ∧ i ≤ s.size) (fun i => s.size - i) 0 ⟨rfl, rfl, rfl, by first | rfl | trivial, rfl, Nat.zero_le _⟩ ?_
  rintro i R _ ⟨rfl, h0, h1, h7, h8, hi⟩
  by_cases hlt : i < s.size
  · obtain ⟨c, hc⟩ : ∃ c, s.data[i]? = some c := ⟨s.data[i], Array.getElem?_eq_getElem hlt⟩
    have ws := wrap_succ (show i < 9223372036854775807 by omega)
    simp -implicitDefEqProofs only [op, ef, cl, sq, reduceIte, Int.reduceLT, Int.reduceLE, Int.reduceBEq, Int.reduceBNe, Int.reduceEq, Nat.reduceAdd, Nat.reduceLeDiff, Nat.reduceLT, Nat.reduceEqDiff, S1, h0, h1, h7, h8, hlt, natOf_nat, hc, ws]
    refine ⟨i + 1, by omega, ?_, rfl, by omega⟩
    rw [takeB hc, hashL_snoc]; rfl
  · have e : s.data.toList.take i = s.data.toList := List.take_of_length_le (by simp; exact Nat.le_of_not_lt hlt)
    simp -implicitDefEqProofs only [op, ef, cl, sq, reduceIte, Int.reduceLT, Int.reduceLE, Int.reduceBEq, Int.reduceBNe, Int.reduceEq, Nat.reduceAdd, Nat.reduceLeDiff, Nat.reduceLT, Nat.reduceEqDiff, S1, h0, h1, h7, h8, hlt, e]
theorem begin38 (H : Heap) : W env (.call 38 []) H (Ret (.int .u64 14695981039346656037) H) := by
  refine W.fnI rfl rfl rfl ?_
  simp -implicitDefEqProofs only [ir38, op, ef, cl, sq, reduceIte, Int.reduceLT, Int.reduceLE, Int.reduceBEq, Int.reduceBNe, Int.reduceEq, Nat.reduceAdd, Nat.reduceLeDiff, Nat.reduceLT, Nat.reduceEqDiff, S1]
theorem hash30 (s : ByteArray) (H : Heap) (hs : s.size < 9223372036854775807) : W env (.call 30 [.str s]) H (Ret (.int .u64 (hashT s)) H) := by
  refine W.fnI rfl rfl rfl ?_
  simp -implicitDefEqProofs only [ir30, op, ef, cl, sq, reduceIte, Int.reduceLT, Int.reduceLE, Int.reduceBEq, Int.reduceBNe, Int.reduceEq, Nat.reduceAdd, Nat.reduceLeDiff, Nat.reduceLT, Nat.reduceEqDiff, S1]
  refine callB_of _ _ _ _ _ _ _ _ (begin38 _) ?_
  rintro u H1 ⟨hu, rfl⟩
  cases hu
  simp -implicitDefEqProofs only [op, ef, cl, sq, reduceIte, Int.reduceLT, Int.reduceLE, Int.reduceBEq, Int.reduceBNe, Int.reduceEq, Nat.reduceAdd, Nat.reduceLeDiff, Nat.reduceLT, Nat.reduceEqDiff, S1]
  refine callB_of _ _ _ _ _ _ _ _ (feed37 _ s _ hs) ?_
  rintro u H1 ⟨hu, rfl⟩
  cases hu
  simp -implicitDefEqProofs only [op, ef, cl, sq, reduceIte, Int.reduceLT, Int.reduceLE, Int.reduceBEq, Int.reduceBNe, Int.reduceEq, Nat.reduceAdd, Nat.reduceLeDiff, Nat.reduceLT, Nat.reduceEqDiff, S1, hashT]
theorem hash21 (s : ByteArray) (H : Heap) (hs : s.size < 9223372036854775807) : W env (.call 21 [.str s]) H (Ret (.int .u64 (hashT s)) H) := by
  refine W.fnI rfl rfl rfl ?_
  simp -implicitDefEqProofs only [ir21, op, ef, cl, sq, reduceIte, Int.reduceLT, Int.reduceLE, Int.reduceBEq, Int.reduceBNe, Int.reduceEq, Nat.reduceAdd, Nat.reduceLeDiff, Nat.reduceLT, Nat.reduceEqDiff, S1]
  refine callB_of _ _ _ _ _ _ _ _ (feed31 _ s _ hs) ?_
  rintro u H1 ⟨hu, rfl⟩
  cases hu
  simp -implicitDefEqProofs only [op, ef, cl, sq, reduceIte, Int.reduceLT, Int.reduceLE, Int.reduceBEq, Int.reduceBNe, Int.reduceEq, Nat.reduceAdd, Nat.reduceLeDiff, Nat.reduceLT, Nat.reduceEqDiff, S1, hashT]
/-! a key's partition -/
def ofN (s : ByteArray) (p : Nat) : Nat := (hashT s).toNat % p
theorem ofN_lt (s : ByteArray) {p : Nat} (hp : 0 < p) : ofN s p < p := Nat.mod_lt _ hp
theorem of_val (s : ByteArray) {p : Nat} (h1 : 1 ≤ p) (h2 : p ≤ 64) : IntKind.i64.wrap ((hashT s).tmod (IntKind.u64.wrap (p : Int))) = (ofN s p : Int) := by
  obtain ⟨h3, h4⟩ := hashT_in s
  rw [wrapu64 (n := (p : Int)) (by omega)]
  have e : hashT s = ((hashT s).toNat : Int) := (Int.toNat_of_nonneg h3).symm
  have e2 : (hashT s).tmod (p : Int) = (ofN s p : Int) := by
    rw [e]; exact (Int.ofNat_tmod _ _).symm
  have := ofN_lt s (p := p) (by omega)
  rw [e2, wrap64 (by omega)]
theorem may19 (p : Int) (H : Heap) : W env (.call 19 [.int .i64 p]) H (Ret (.bool (decide (1 ≤ p) && decide (p ≤ 64))) H) := by
  refine W.fnI rfl rfl rfl ?_
  by_cases h : (1 : Int) ≤ p
  · simp -implicitDefEqProofs only [ir19, op, ef, cl, sq, reduceIte, Int.reduceLT, Int.reduceLE, Int.reduceBEq, Int.reduceBNe, Int.reduceEq, Nat.reduceAdd, Nat.reduceLeDiff, Nat.reduceLT, Nat.reduceEqDiff, S1, h]
  · simp -implicitDefEqProofs only [ir19, op, ef, cl, sq, reduceIte, Int.reduceLT, Int.reduceLE, Int.reduceBEq, Int.reduceBNe, Int.reduceEq, Nat.reduceAdd, Nat.reduceLeDiff, Nat.reduceLT, Nat.reduceEqDiff, S1, h, Bool.false_and]
theorem of20 (s : ByteArray) (p : Nat) (h1 : 1 ≤ p) (h2 : p ≤ 64) (H : Heap) (hs : s.size < 9223372036854775807) : W env (.call 20 [.str s, .int .i64 p]) H (Ret (.int .i64 (ofN s p : Nat)) H) := by
  refine W.fnI rfl rfl rfl ?_
  have nz : ¬ IntKind.u64.wrap (p : Int) = 0 := by rw [wrapu64 (by omega)]; omega
  simp -implicitDefEqProofs only [ir20, op, ef, cl, sq, reduceIte, Int.reduceLT, Int.reduceLE, Int.reduceBEq, Int.reduceBNe, Int.reduceEq, Nat.reduceAdd, Nat.reduceLeDiff, Nat.reduceLT, Nat.reduceEqDiff, S1]
  refine callB_of _ _ _ _ _ _ _ _ (hash30 s _ hs) ?_
  rintro u H1 ⟨hu, rfl⟩
  cases hu
  simp -implicitDefEqProofs only [op, ef, cl, sq, reduceIte, Int.reduceLT, Int.reduceLE, Int.reduceBEq, Int.reduceBNe, Int.reduceEq, Nat.reduceAdd, Nat.reduceLeDiff, Nat.reduceLT, Nat.reduceEqDiff, S1, nz, of_val s h1 h2]
def okP (p : Int) : Bool := decide (1 ≤ p) && decide (p ≤ 64)
theorem okP_t {p : Int} (h : okP p = true) : ∃ n : Nat, p = n ∧ 1 ≤ n ∧ n ≤ 64 := by
  simp [okP] at h
  exact ⟨p.toNat, by omega, by omega, by omega⟩
def ofV (s : ByteArray) (p : Int) : T := .tup [.int .i64 (if okP p then (ofN s p.toNat : Nat) else 0 : Int), .int .i64 (if okP p then 0 else 1)]
theorem of8 (s : ByteArray) (p : Int) (H : Heap) (hs : s.size < 9223372036854775807) : W env (.call 8 [.str s, .int .i64 p]) H (Ret (ofV s p) H) := by
  refine W.fnI rfl rfl rfl ?_
  simp -implicitDefEqProofs only [ir8, op, ef, cl, sq, reduceIte, Int.reduceLT, Int.reduceLE, Int.reduceBEq, Int.reduceBNe, Int.reduceEq, Nat.reduceAdd, Nat.reduceLeDiff, Nat.reduceLT, Nat.reduceEqDiff, S1]
  refine callB_of _ _ _ _ _ _ _ _ (may19 p _) ?_
  rintro u H1 ⟨hu, rfl⟩
  have hu : u = .bool (okP p) := by cases hu; rfl
  subst hu
  cases h : okP p
  · simp -implicitDefEqProofs only [op, ef, cl, sq, reduceIte, Int.reduceLT, Int.reduceLE, Int.reduceBEq, Int.reduceBNe, Int.reduceEq, Nat.reduceAdd, Nat.reduceLeDiff, Nat.reduceLT, Nat.reduceEqDiff, S1, ofV, h, Bool.false_eq_true]
  · obtain ⟨n, rfl, h1, h2⟩ := okP_t h
    simp -implicitDefEqProofs only [op, ef, cl, sq, reduceIte, Int.reduceLT, Int.reduceLE, Int.reduceBEq, Int.reduceBNe, Int.reduceEq, Nat.reduceAdd, Nat.reduceLeDiff, Nat.reduceLT, Nat.reduceEqDiff, S1]
    refine callB_of _ _ _ _ _ _ _ _ (of20 s n h1 h2 _ hs) ?_
    rintro u H1 ⟨hu, rfl⟩
    cases hu
    simp -implicitDefEqProofs only [op, ef, cl, sq, reduceIte, Int.reduceLT, Int.reduceLE, Int.reduceBEq, Int.reduceBNe, Int.reduceEq, Nat.reduceAdd, Nat.reduceLeDiff, Nat.reduceLT, Nat.reduceEqDiff, S1, ofV, h, Int.toNat_natCast]
theorem of9 (s : ByteArray) (p : Int) (H : Heap) (hs : s.size < 9223372036854775807) : W env (.call 9 [.str s, .int .i64 p]) H (Ret (ofV s p) H) := by
  refine W.fnI rfl rfl rfl ?_
  cases h : okP p
  · by_cases h1 : p < 1
    · simp -implicitDefEqProofs only [ir9, op, ef, cl, sq, reduceIte, Int.reduceLT, Int.reduceLE, Int.reduceBEq, Int.reduceBNe, Int.reduceEq, Nat.reduceAdd, Nat.reduceLeDiff, Nat.reduceLT, Nat.reduceEqDiff, S1, ofV, h, h1, Bool.false_eq_true]
    · have h2 : 64 < p := by simp [okP] at h; omega
      simp -implicitDefEqProofs only [ir9, op, ef, cl, sq, reduceIte, Int.reduceLT, Int.reduceLE, Int.reduceBEq, Int.reduceBNe, Int.reduceEq, Nat.reduceAdd, Nat.reduceLeDiff, Nat.reduceLT, Nat.reduceEqDiff, S1, ofV, h, h1, h2, Bool.false_eq_true]
  · obtain ⟨n, rfl, h1, h2⟩ := okP_t h
    have h3 : ¬ ((n : Int) < 1) := by omega
    have h4 : ¬ ((64 : Int) < (n : Int)) := by omega
    have h5 : ¬ n < 1 := by omega
    have h6 : ¬ 64 < n := by omega
    have nz : ¬ IntKind.u64.wrap (n : Int) = 0 := by rw [wrapu64 (by omega)]; omega
    simp -implicitDefEqProofs only [ir9, op, ef, cl, sq, reduceIte, Int.reduceLT, Int.reduceLE, Int.reduceBEq, Int.reduceBNe, Int.reduceEq, Nat.reduceAdd, Nat.reduceLeDiff, Nat.reduceLT, Nat.reduceEqDiff, S1, h3, h4, h5, h6]
    refine callB_of _ _ _ _ _ _ _ _ (hash21 s _ hs) ?_
    rintro u H1 ⟨hu, rfl⟩
    cases hu
    simp -implicitDefEqProofs only [op, ef, cl, sq, reduceIte, Int.reduceLT, Int.reduceLE, Int.reduceBEq, Int.reduceBNe, Int.reduceEq, Nat.reduceAdd, Nat.reduceLeDiff, Nat.reduceLT, Nat.reduceEqDiff, S1, ofV, h, nz, of_val s h1 h2, Int.toNat_natCast]
end Go.Proofs.Ytpbilghnfldmiaa.Sx
end

/-! text ShardB -/
section
namespace Go.Proofs.Ytpbilghnfldmiaa.Sx
open Go.Rmp Go.Proofs.Ytpbilghnfldmiaa.Ir
set_option maxRecDepth 10000
def cmp3 (a b : Int) : Int := if a < b then -1 else if b < a then 1 else 0
theorem nan32 (a : Int) (H : Heap) : W env (.call 32 [.int .i64 a]) H (Ret (.bool false) H) := by
  refine W.fnI rfl rfl rfl ?_
  simp -implicitDefEqProofs only [ir32, op, ef, cl, sq, reduceIte, Int.reduceLT, Int.reduceLE, Int.reduceBEq, Int.reduceBNe, Int.reduceEq, Nat.reduceAdd, Nat.reduceLeDiff, Nat.reduceLT, Nat.reduceEqDiff, S1]
theorem cmp24 (a b : Int) (H : Heap) : W env (.call 24 [.int .i64 a, .int .i64 b]) H (Ret (.int .i64 (cmp3 a b)) H) := by
  refine W.fnI rfl rfl rfl ?_
  simp -implicitDefEqProofs only [ir24, op, ef, cl, sq, reduceIte, Int.reduceLT, Int.reduceLE, Int.reduceBEq, Int.reduceBNe, Int.reduceEq, Nat.reduceAdd, Nat.reduceLeDiff, Nat.reduceLT, Nat.reduceEqDiff, S1]
  refine callB_of _ _ _ _ _ _ _ _ (nan32 a _) ?_
  rintro u H1 ⟨hu, rfl⟩
  cases hu
  simp -implicitDefEqProofs only [op, ef, cl, sq, reduceIte, Int.reduceLT, Int.reduceLE, Int.reduceBEq, Int.reduceBNe, Int.reduceEq, Nat.reduceAdd, Nat.reduceLeDiff, Nat.reduceLT, Nat.reduceEqDiff, S1]
  refine callB_of _ _ _ _ _ _ _ _ (nan32 b _) ?_
  rintro u H1 ⟨hu, rfl⟩
  cases hu
  by_cases h1 : a < b
  · simp -implicitDefEqProofs only [op, ef, cl, sq, reduceIte, Int.reduceLT, Int.reduceLE, Int.reduceBEq, Int.reduceBNe, Int.reduceEq, Nat.reduceAdd, Nat.reduceLeDiff, Nat.reduceLT, Nat.reduceEqDiff, S1, cmp3, h1]
  · by_cases h2 : b < a
    · simp -implicitDefEqProofs only [op, ef, cl, sq, reduceIte, Int.reduceLT, Int.reduceLE, Int.reduceBEq, Int.reduceBNe, Int.reduceEq, Nat.reduceAdd, Nat.reduceLeDiff, Nat.reduceLT, Nat.reduceEqDiff, S1, cmp3, h1, h2]
    · simp -implicitDefEqProofs only [op, ef, cl, sq, reduceIte, Int.reduceLT, Int.reduceLE, Int.reduceBEq, Int.reduceBNe, Int.reduceEq, Nat.reduceAdd, Nat.reduceLeDiff, Nat.reduceLT, Nat.reduceEqDiff, S1, cmp3, h1, h2]
/-! parts: a number and its items -/
structure Pt (α : Type) where
  part : Nat
  kk : SK
  items : List α
def encPt {α : Type} (e : α → List T) (p : Pt α) : List T := [.int .i64 p.part, .sl p.kk (p.items.map e)]
theorem encPt_len {α : Type} (e : α → List T) (p : Pt α) : (encPt e p).length = 2 := rfl
def eS (s : ByteArray) : List T := [.str s]
def eP (p : ByteArray × ByteArray) : List T := [.str p.1, .str p.2]
/-- a written list of parts as a search reads it -/
theorem mut_get {α : Type} {e : α → List T} {n0 : Nat} {H : Heap} {t : T} {ps : List (Pt α)} (hm : Mut (encPt e) 2 n0 H t ps) {i : Nat} {p : Pt α} (hp : ps[i]? = some p) : ∃ b, t = .msl b 0 ps.length 2 ∧ n0 ≤ b ∧ H[b]? = some (.cells (msC (encPt e) ps)) ∧ iadT 2 i t = some (.ptr b (i * 2)) ∧ ldcB 2 (i * 2) (some (.cells (msC (encPt e) ps))) = some (encPt e p) := by
  have hi := (List.getElem?_eq_some_iff.1 hp).1
  rcases hm with ⟨rfl, _⟩ | ⟨b, rfl, hb, hbn⟩
  · simp at hp
  · exact ⟨b, rfl, hbn, hb, by rw [iad_m]; simp [hi], msC_get (n := 2) (encPt_len e) hp 0 2 (by decide)⟩
theorem clo23 (p : Pt _) (q : Nat) (H : Heap) : W env (.call 23 [.agg (encPt eS p), .int .i64 q]) H (RetG (.int .i64 (cmp3 p.part q)) H) := by
  refine W.fnI rfl rfl rfl ?_
  simp -implicitDefEqProofs only [ir23, op, ef, cl, sq, reduceIte, Int.reduceLT, Int.reduceLE, Int.reduceBEq, Int.reduceBNe, Int.reduceEq, Nat.reduceAdd, Nat.reduceLeDiff, Nat.reduceLT, Nat.reduceEqDiff, S1, encPt, S2]
  refine callB_of _ _ _ _ _ _ _ _ (cmp24 _ _ _) ?_
  rintro u H1 ⟨hu, rfl⟩
  cases hu
  simp -implicitDefEqProofs only [op, ef, cl, sq, reduceIte, Int.reduceLT, Int.reduceLE, Int.reduceBEq, Int.reduceBNe, Int.reduceEq, Nat.reduceAdd, Nat.reduceLeDiff, Nat.reduceLT, Nat.reduceEqDiff, S1]
theorem clo27 (p : Pt _) (q : Nat) (H : Heap) : W env (.call 27 [.agg (encPt eP p), .int .i64 q]) H (RetG (.int .i64 (cmp3 p.part q)) H) := by
  refine W.fnI rfl rfl rfl ?_
  simp -implicitDefEqProofs only [ir27, op, ef, cl, sq, reduceIte, Int.reduceLT, Int.reduceLE, Int.reduceBEq, Int.reduceBNe, Int.reduceEq, Nat.reduceAdd, Nat.reduceLeDiff, Nat.reduceLT, Nat.reduceEqDiff, S1, encPt, S2]
  refine callB_of _ _ _ _ _ _ _ _ (cmp24 _ _ _) ?_
  rintro u H1 ⟨hu, rfl⟩
  cases hu
  simp -implicitDefEqProofs only [op, ef, cl, sq, reduceIte, Int.reduceLT, Int.reduceLE, Int.reduceBEq, Int.reduceBNe, Int.reduceEq, Nat.reduceAdd, Nat.reduceLeDiff, Nat.reduceLT, Nat.reduceEqDiff, S1]
def Rise {α : Type} (ps : List (Pt α)) : Prop := ∀ (i j : Nat) p q, i < j → ps[i]? = some p → ps[j]? = some q → p.part < q.part
theorem half (i j : Nat) (h : i + j < 9223372036854775807) : IntKind.i64.wrap ((IntKind.u64.wrap (IntKind.i64.wrap ((i : Int) + (j : Int)))).fdiv (2 ^ (min (1 : Int).toNat IntKind.u64.bits))) = (((i + j) / 2 : Nat) : Int) := by
  rw [wrap64 (n := (i : Int) + j) (by omega), wrapu64 (n := (i : Int) + j) (by omega)]
  have e : (2 : Int) ^ (min (1 : Int).toNat IntKind.u64.bits) = 2 := by decide
  rw [e, Int.fdiv_eq_ediv_of_nonneg _ (by omega), wrap64 (by omega)]
  omega
def SrchQ {α : Type} (ps : List (Pt α)) (q : Nat) (H : Heap) : Out → Heap → Prop := fun o H' => Ext H H' ∧ ∃ (i : Nat) (fd : Bool), o = .val (.tup [.int .i64 i, .bool fd]) ∧ i ≤ ps.length ∧ (∀ (j : Nat) p, j < i → ps[j]? = some p → p.part < q) ∧ (∀ (j : Nat) p, i ≤ j → ps[j]? = some p → q ≤ p.part) ∧ (fd = true ↔ ∃ p, ps[i]? = some p ∧ p.part = q)
theorem getP {α : Type} {l : List α} {i : Nat} (h : i < l.length) : ∃ x, l[i]? = some x := ⟨l[i], List.getElem?_eq_getElem h⟩
theorem srch22 (n0 : Nat) (t : T) (ps : List (Pt _)) (q : Nat) (H : Heap) (hm : Mut (encPt eS) 2 n0 H t ps) (hr : Rise ps) (hl : ps.length < 4611686018427387903) : W env (.call 22 [t, .int .i64 q, .fn 23 []]) H (SrchQ ps q H) := by
  refine W.fnI rfl rfl rfl ?_
  have hlen := hm.len
  simp -implicitDefEqProofs only [ir22, op, ef, cl, sq, reduceIte, Int.reduceLT, Int.reduceLE, Int.reduceBEq, Int.reduceBNe, Int.reduceEq, Nat.reduceAdd, Nat.reduceLeDiff, Nat.reduceLT, Nat.reduceEqDiff, S1, hlen]
  refine W.loopE 0 (fun (s : Nat × Nat) R H' => Ext H H' ∧ R 0 = t ∧ R 1 = .int .i64 q ∧ R 2 = .fn 23 [] ∧ R 8 = .int .i64 ps.length ∧ R 9 = .int .i64 s.1 ∧ R 10 = .int .i64 s.2 ∧ s.1 ≤ s.2 ∧ s.2 ≤ ps.length ∧ (∀ (j : Nat) p, j < s.1 → ps[j]? = some p → p.part < q) ∧ (∀ (j : Nat) p, s.2 ≤ j → ps[j]? = some p → q ≤ p.part)) (fun s => s.2 - s.1) (0, ps.length)
    (fun R H' => Ext H H' ∧ ∃ i : Nat, R 0 = t ∧ R 1 = .int .i64 q ∧ R 2 = .fn 23 [] ∧ R 8 = .int .i64 ps.length ∧ R 9 = .int .i64 i ∧ i ≤ ps.length ∧ (∀ (j : Nat) p, j < i → ps[j]? = some p → p.part < q) ∧ (∀ (j : Nat) p, i ≤ j → ps[j]? = some p → q ≤ p.part)) ?_ ?_ ?_
  · exact ⟨Ext.rfl', rfl, rfl, rfl, rfl, rfl, rfl, Nat.zero_le _, Nat.le_refl _, fun j p h => by omega, fun j p h hp => by rw [List.getElem?_eq_none h] at hp; cases hp⟩
  · rintro ⟨i, j⟩ R H1 ⟨hx, h0, h1, h2, h8, h9, h10, hij, hjn, hlo, hhi⟩
    simp only at h9 h10 hij hjn hlo hhi
    by_cases hlt : i < j
    · obtain ⟨p, hp⟩ := getP (l := ps) (i := (i + j) / 2) (by omega)
      obtain ⟨b, hb1, hb2, hb3, hb4, hb5⟩ := mut_get (hm.ext hx) hp
      have hh := half i j (by omega)
      have nl : ¬ (Int.neg 1 = 0) := by decide
      simp -implicitDefEqProofs only [op, ef, cl, sq, reduceIte, Int.reduceLT, Int.reduceLE, Int.reduceBEq, Int.reduceBNe, Int.reduceEq, Nat.reduceAdd, Nat.reduceLeDiff, Nat.reduceLT, Nat.reduceEqDiff, S1, h0, h1, h2, h9, h10, hlt, hh, natOf_nat, hb4, hb3, hb5]
      refine b_v _ _ _ _ _ _ _ ?_
      simp -implicitDefEqProofs only [op, ef, cl, sq, reduceIte, Int.reduceLT, Int.reduceLE, Int.reduceBEq, Int.reduceBNe, Int.reduceEq, Nat.reduceAdd, Nat.reduceLeDiff, Nat.reduceLT, Nat.reduceEqDiff, S1, callvB, h0, h1, h2, List.append_nil]
      refine callB_of _ _ _ _ _ _ _ _ (clo23 p q _) ?_
      rintro u H2 ⟨hu, hx2⟩
      cases hu
      have hx2 : Ext H1 H2 := hx2
      by_cases hc : p.part < q
      · have e1 : cmp3 p.part q = -1 := by simp [cmp3]; omega
        have ws := wrap_succ (show (i + j) / 2 < 9223372036854775807 by omega)
        simp -implicitDefEqProofs only [op, ef, cl, sq, reduceIte, Int.reduceLT, Int.reduceLE, Int.reduceBEq, Int.reduceBNe, Int.reduceEq, Nat.reduceAdd, Nat.reduceLeDiff, Nat.reduceLT, Nat.reduceEqDiff, S1, h0, h1, h2, h8, h9, h10, e1, ws]
        refine ⟨((i + j) / 2 + 1, j), by simp only; omega, hx.trans hx2, rfl, rfl, by simp only; omega, hjn, fun k x hk hxk => ?_, hhi⟩
        by_cases e : k = (i + j) / 2
        · subst e; rw [hp] at hxk; cases hxk; exact hc
        · have := hr k ((i + j) / 2) x p (by simp only at hk; omega) hxk hp; omega
      · have e1 : decide (cmp3 p.part q < 0) = false := by simp [cmp3]; split <;> omega
        simp -implicitDefEqProofs only [op, ef, cl, sq, reduceIte, Int.reduceLT, Int.reduceLE, Int.reduceBEq, Int.reduceBNe, Int.reduceEq, Nat.reduceAdd, Nat.reduceLeDiff, Nat.reduceLT, Nat.reduceEqDiff, S1, h0, h1, h2, h8, h9, h10, e1]
        refine ⟨(i, (i + j) / 2), by simp only; omega, hx.trans hx2, rfl, rfl, by simp only; omega, by simp only; omega, hlo, fun k x hk hxk => ?_⟩
        by_cases e : k = (i + j) / 2
        · subst e; rw [hp] at hxk; cases hxk; omega
        · have := hr ((i + j) / 2) k p x (by simp only at hk; omega) hp hxk; omega
    · have hij' : i = j := by omega
      subst hij'
      simp -implicitDefEqProofs only [op, ef, cl, sq, reduceIte, Int.reduceLT, Int.reduceLE, Int.reduceBEq, Int.reduceBNe, Int.reduceEq, Nat.reduceAdd, Nat.reduceLeDiff, Nat.reduceLT, Nat.reduceEqDiff, S1, h0, h1, h2, h8, h9, h10, hlt]
      exact ⟨hx, i, rfl, hjn, hlo, hhi⟩
  rintro R H1 ⟨hx, i, h0, h1, h2, h8, h9, hi, hlo, hhi⟩
  by_cases hin : i < ps.length
  · obtain ⟨p, hp⟩ := getP (l := ps) hin
    obtain ⟨b, hb1, hb2, hb3, hb4, hb5⟩ := mut_get (hm.ext hx) hp
    simp -implicitDefEqProofs only [op, ef, cl, sq, reduceIte, Int.reduceLT, Int.reduceLE, Int.reduceBEq, Int.reduceBNe, Int.reduceEq, Nat.reduceAdd, Nat.reduceLeDiff, Nat.reduceLT, Nat.reduceEqDiff, S1, h0, h1, h2, h8, h9, hin, natOf_nat, hb4, hb3, hb5]
    refine b_vg _ _ _ _ _ _ _ (by simp -implicitDefEqProofs only [op, ef, cl, sq, reduceIte, Int.reduceLT, Int.reduceLE, Int.reduceBEq, Int.reduceBNe, Int.reduceEq, Nat.reduceAdd, Nat.reduceLeDiff, Nat.reduceLT, Nat.reduceEqDiff, S1]) ?_
    simp -implicitDefEqProofs only [op, ef, cl, sq, reduceIte, Int.reduceLT, Int.reduceLE, Int.reduceBEq, Int.reduceBNe, Int.reduceEq, Nat.reduceAdd, Nat.reduceLeDiff, Nat.reduceLT, Nat.reduceEqDiff, S1, callvB, h0, h1, h2, List.append_nil]
    refine callB_of _ _ _ _ _ _ _ _ (clo23 p q _) ?_
    rintro u H2 ⟨hu, hx2⟩
    cases hu
    have hx2 : Ext H1 H2 := hx2
    have hge := hhi i p (Nat.le_refl _) hp
    by_cases hc : p.part = q
    · have e1 : (cmp3 p.part q == 0) = true := by simp [cmp3, hc]
      simp -implicitDefEqProofs only [op, ef, cl, sq, reduceIte, Int.reduceLT, Int.reduceLE, Int.reduceBEq, Int.reduceBNe, Int.reduceEq, Nat.reduceAdd, Nat.reduceLeDiff, Nat.reduceLT, Nat.reduceEqDiff, S1, h9, e1]
      exact ⟨hx.trans hx2, i, true, rfl, hi, hlo, hhi, by simp [hp, hc]⟩
    · have e1 : (cmp3 p.part q == 0) = false := by
        have : ¬ ((p.part : Int) < q) := by omega
        have h2 : (q : Int) < p.part := by omega
        simp [cmp3, this, h2]
      simp -implicitDefEqProofs only [op, ef, cl, sq, reduceIte, Int.reduceLT, Int.reduceLE, Int.reduceBEq, Int.reduceBNe, Int.reduceEq, Nat.reduceAdd, Nat.reduceLeDiff, Nat.reduceLT, Nat.reduceEqDiff, S1, h9, e1]
      exact ⟨hx.trans hx2, i, false, rfl, hi, hlo, hhi, by simp [hp, hc]⟩
  · simp -implicitDefEqProofs only [op, ef, cl, sq, reduceIte, Int.reduceLT, Int.reduceLE, Int.reduceBEq, Int.reduceBNe, Int.reduceEq, Nat.reduceAdd, Nat.reduceLeDiff, Nat.reduceLT, Nat.reduceEqDiff, S1, h0, h1, h2, h8, h9, hin]
    exact ⟨hx, i, false, rfl, hi, hlo, hhi, by simp [List.getElem?_eq_none (show ps.length ≤ i by omega)]⟩
theorem srch26 (n0 : Nat) (t : T) (ps : List (Pt _)) (q : Nat) (H : Heap) (hm : Mut (encPt eP) 2 n0 H t ps) (hr : Rise ps) (hl : ps.length < 4611686018427387903) : W env (.call 26 [t, .int .i64 q, .fn 27 []]) H (SrchQ ps q H) := by
  refine W.fnI rfl rfl rfl ?_
  have hlen := hm.len
  simp -implicitDefEqProofs only [ir26, op, ef, cl, sq, reduceIte, Int.reduceLT, Int.reduceLE, Int.reduceBEq, Int.reduceBNe, Int.reduceEq, Nat.reduceAdd, Nat.reduceLeDiff, Nat.reduceLT, Nat.reduceEqDiff, S1, hlen]
  refine W.loopE 0 (fun (s : Nat × Nat) R H' => Ext H H' ∧ R 0 = t ∧ R 1 = .int .i64 q ∧ R 2 = .fn 27 [] ∧ R 8 = .int .i64 ps.length ∧ R 9 = .int .i64 s.1 ∧ R 10 = .int .i64 s.2 ∧ s.1 ≤ s.2 ∧ s.2 ≤ ps.length ∧ (∀ (j : Nat) p, j < s.1 → ps[j]? = some p → p.part < q) ∧ (∀ (j : Nat) p, s.2 ≤ j → ps[j]? = some p → q ≤ p.part)) (fun s => s.2 - s.1) (0, ps.length)
    (fun R H' => Ext H H' ∧ ∃ i : Nat, R 0 = t ∧ R 1 = .int .i64 q ∧ R 2 = .fn 27 [] ∧ R 8 = .int .i64 ps.length ∧ R 9 = .int .i64 i ∧ i ≤ ps.length ∧ (∀ (j : Nat) p, j < i → ps[j]? = some p → p.part < q) ∧ (∀ (j : Nat) p, i ≤ j → ps[j]? = some p → q ≤ p.part)) ?_ ?_ ?_
  · exact ⟨Ext.rfl', rfl, rfl, rfl, rfl, rfl, rfl, Nat.zero_le _, Nat.le_refl _, fun j p h => by omega, fun j p h hp => by rw [List.getElem?_eq_none h] at hp; cases hp⟩
  · rintro ⟨i, j⟩ R H1 ⟨hx, h0, h1, h2, h8, h9, h10, hij, hjn, hlo, hhi⟩
    simp only at h9 h10 hij hjn hlo hhi
    by_cases hlt : i < j
    · obtain ⟨p, hp⟩ := getP (l := ps) (i := (i + j) / 2) (by omega)
      obtain ⟨b, hb1, hb2, hb3, hb4, hb5⟩ := mut_get (hm.ext hx) hp
      have hh := half i j (by omega)
      have nl : ¬ (Int.neg 1 = 0) := by decide
      simp -implicitDefEqProofs only [op, ef, cl, sq, reduceIte, Int.reduceLT, Int.reduceLE, Int.reduceBEq, Int.reduceBNe, Int.reduceEq, Nat.reduceAdd, Nat.reduceLeDiff, Nat.reduceLT, Nat.reduceEqDiff, S1, h0, h1, h2, h9, h10, hlt, hh, natOf_nat, hb4, hb3, hb5]
      refine b_v _ _ _ _ _ _ _ ?_
      simp -implicitDefEqProofs only [op, ef, cl, sq, reduceIte, Int.reduceLT, Int.reduceLE, Int.reduceBEq, Int.reduceBNe, Int.reduceEq, Nat.reduceAdd, Nat.reduceLeDiff, Nat.reduceLT, Nat.reduceEqDiff, S1, callvB, h0, h1, h2, List.append_nil]
      refine callB_of _ _ _ _ _ _ _ _ (clo27 p q _) ?_
      rintro u H2 ⟨hu, hx2⟩
      cases hu
      have hx2 : Ext H1 H2 := hx2
      by_cases hc : p.part < q
      · have e1 : cmp3 p.part q = -1 := by simp [cmp3]; omega
        have ws := wrap_succ (show (i + j) / 2 < 9223372036854775807 by omega)
        simp -implicitDefEqProofs only [op, ef, cl, sq, reduceIte, Int.reduceLT, Int.reduceLE, Int.reduceBEq, Int.reduceBNe, Int.reduceEq, Nat.reduceAdd, Nat.reduceLeDiff, Nat.reduceLT, Nat.reduceEqDiff, S1, h0, h1, h2, h8, h9, h10, e1, ws]
        refine ⟨((i + j) / 2 + 1, j), by simp only; omega, hx.trans hx2, rfl, rfl, by simp only; omega, hjn, fun k x hk hxk => ?_, hhi⟩
        by_cases e : k = (i + j) / 2
        · subst e; rw [hp] at hxk; cases hxk; exact hc
        · have := hr k ((i + j) / 2) x p (by simp only at hk; omega) hxk hp; omega
      · have e1 : decide (cmp3 p.part q < 0) = false := by simp [cmp3]; split <;> omega
        simp -implicitDefEqProofs only [op, ef, cl, sq, reduceIte, Int.reduceLT, Int.reduceLE, Int.reduceBEq, Int.reduceBNe, Int.reduceEq, Nat.reduceAdd, Nat.reduceLeDiff, Nat.reduceLT, Nat.reduceEqDiff, S1, h0, h1, h2, h8, h9, h10, e1]
        refine ⟨(i, (i + j) / 2), by simp only; omega, hx.trans hx2, rfl, rfl, by simp only; omega, by simp only; omega, hlo, fun k x hk hxk => ?_⟩
        by_cases e : k = (i + j) / 2
        · subst e; rw [hp] at hxk; cases hxk; omega
        · have := hr ((i + j) / 2) k p x (by simp only at hk; omega) hp hxk; omega
    · have hij' : i = j := by omega
      subst hij'
      simp -implicitDefEqProofs only [op, ef, cl, sq, reduceIte, Int.reduceLT, Int.reduceLE, Int.reduceBEq, Int.reduceBNe, Int.reduceEq, Nat.reduceAdd, Nat.reduceLeDiff, Nat.reduceLT, Nat.reduceEqDiff, S1, h0, h1, h2, h8, h9, h10, hlt]
      exact ⟨hx, i, rfl, hjn, hlo, hhi⟩
  rintro R H1 ⟨hx, i, h0, h1, h2, h8, h9, hi, hlo, hhi⟩
  by_cases hin : i < ps.length
  · obtain ⟨p, hp⟩ := getP (l := ps) hin
    obtain ⟨b, hb1, hb2, hb3, hb4, hb5⟩ := mut_get (hm.ext hx) hp
    simp -implicitDefEqProofs only [op, ef, cl, sq, reduceIte, Int.reduceLT, Int.reduceLE, Int.reduceBEq, Int.reduceBNe, Int.reduceEq, Nat.reduceAdd, Nat.reduceLeDiff, Nat.reduceLT, Nat.reduceEqDiff, S1, h0, h1, h2, h8, h9, hin, natOf_nat, hb4, hb3, hb5]
    refine b_vg _ _ _ _ _ _ _ (by simp -implicitDefEqProofs only [op, ef, cl, sq, reduceIte, Int.reduceLT, Int.reduceLE, Int.reduceBEq, Int.reduceBNe, Int.reduceEq, Nat.reduceAdd, Nat.reduceLeDiff, Nat.reduceLT, Nat.reduceEqDiff, S1]) ?_
    simp -implicitDefEqProofs only [op, ef, cl, sq, reduceIte, Int.reduceLT, Int.reduceLE, Int.reduceBEq, Int.reduceBNe, Int.reduceEq, Nat.reduceAdd, Nat.reduceLeDiff, Nat.reduceLT, Nat.reduceEqDiff, S1, callvB, h0, h1, h2, List.append_nil]
    refine callB_of _ _ _ _ _ _ _ _ (clo27 p q _) ?_
    rintro u H2 ⟨hu, hx2⟩
    cases hu
    have hx2 : Ext H1 H2 := hx2
    have hge := hhi i p (Nat.le_refl _) hp
    by_cases hc : p.part = q
    · have e1 : (cmp3 p.part q == 0) = true := by simp [cmp3, hc]
      simp -implicitDefEqProofs only [op, ef, cl, sq, reduceIte, Int.reduceLT, Int.reduceLE, Int.reduceBEq, Int.reduceBNe, Int.reduceEq, Nat.reduceAdd, Nat.reduceLeDiff, Nat.reduceLT, Nat.reduceEqDiff, S1, h9, e1]
      exact ⟨hx.trans hx2, i, true, rfl, hi, hlo, hhi, by simp [hp, hc]⟩
    · have e1 : (cmp3 p.part q == 0) = false := by
        have : ¬ ((p.part : Int) < q) := by omega
        have h2 : (q : Int) < p.part := by omega
        simp [cmp3, this, h2]
      simp -implicitDefEqProofs only [op, ef, cl, sq, reduceIte, Int.reduceLT, Int.reduceLE, Int.reduceBEq, Int.reduceBNe, Int.reduceEq, Nat.reduceAdd, Nat.reduceLeDiff, Nat.reduceLT, Nat.reduceEqDiff, S1, h9, e1]
      exact ⟨hx.trans hx2, i, false, rfl, hi, hlo, hhi, by simp [hp, hc]⟩
  · simp -implicitDefEqProofs only [op, ef, cl, sq, reduceIte, Int.reduceLT, Int.reduceLE, Int.reduceBEq, Int.reduceBNe, Int.reduceEq, Nat.reduceAdd, Nat.reduceLeDiff, Nat.reduceLT, Nat.reduceEqDiff, S1, h0, h1, h2, h8, h9, hin]
    exact ⟨hx, i, false, rfl, hi, hlo, hhi, by simp [List.getElem?_eq_none (show ps.length ≤ i by omega)]⟩
end Go.Proofs.Ytpbilghnfldmiaa.Sx
end

/-! text ShardC -/
section
namespace Go.Proofs.Ytpbilghnfldmiaa.Sx
open Go.Rmp Go.Proofs.Ytpbilghnfldmiaa.Ir
set_option maxRecDepth 10000
/-! lists set, lengthened inside -/
theorem pw_ins {α : Type} {R : α → α → Prop} {l : List α} (h : l.Pairwise R) (i : Nat) {x : α} (h1 : ∀ a ∈ l.take i, R a x) (h2 : ∀ b ∈ l.drop i, R x b) : (l.take i ++ x :: l.drop i).Pairwise R := by
  have h' := h
  rw [← List.take_append_drop i l, List.pairwise_append] at h'
  refine List.pairwise_append.2 ⟨h'.1, List.pairwise_cons.2 ⟨h2, h'.2.1⟩, fun a ha b hb => ?_⟩
  rcases List.mem_cons.1 hb with rfl | hb
  · exact h1 a ha
  · exact h'.2.2 a ha b hb
theorem set_split {α : Type} {l : List α} {i : Nat} {x : α} (hx : l[i]? = some x) : l = l.take i ++ x :: l.drop (i + 1) ∧ ∀ y, l.set i y = l.take i ++ y :: l.drop (i + 1) := by
  obtain ⟨hi, e⟩ := List.getElem?_eq_some_iff.1 hx
  refine ⟨?_, fun y => by rw [List.set_eq_take_append_cons_drop, if_pos hi]⟩
  conv => lhs; rw [← List.take_append_drop i l, List.drop_eq_getElem_cons hi, e]
theorem pw_set {α : Type} {R : α → α → Prop} {l : List α} (h : l.Pairwise R) {i : Nat} {x y : α} (hx : l[i]? = some x) (h1 : ∀ a ∈ l, R a x → R a y) (h2 : ∀ b ∈ l, R x b → R y b) : (l.set i y).Pairwise R := by
  obtain ⟨e1, e2⟩ := set_split hx
  rw [e2]
  have h' := h
  rw [e1, List.pairwise_append, List.pairwise_cons] at h'
  refine List.pairwise_append.2 ⟨h'.1, List.pairwise_cons.2 ⟨fun b hb => h2 b (List.mem_of_mem_drop hb) (h'.2.1.1 b hb), h'.2.1.2⟩, fun a ha b hb => ?_⟩
  rcases List.mem_cons.1 hb with rfl | hb
  · exact h1 a (List.mem_of_mem_take ha) (h'.2.2 a ha x (by simp))
  · exact h'.2.2 a ha b (by simp [hb])
def RiseP {α : Type} (ps : List (Pt α)) : Prop := ps.Pairwise fun p q => p.part < q.part
theorem RiseP.rise {α : Type} {ps : List (Pt α)} (h : RiseP ps) : Rise ps := fun i j p q hij hp hq => by
  unfold RiseP at h
  rw [List.pairwise_iff_getElem] at h
  obtain ⟨h1, e1⟩ := List.getElem?_eq_some_iff.1 hp
  obtain ⟨h2, e2⟩ := List.getElem?_eq_some_iff.1 hq
  have := h i j h1 h2 hij
  rw [e1, e2] at this; exact this
/-! what the parts' lists may be appended to -/
def Dis {α : Type} (p q : Pt α) : Prop := ∀ t e t' e', p.kk = .own t e → q.kk = .own t' e' → t ≠ t'
def TInv {α : Type} (n0 : Nat) (H : Heap) (ps : List (Pt α)) : Prop := (∀ q ∈ ps, Apd n0 H q.kk) ∧ ps.Pairwise Dis
theorem TInv.keep {α : Type} {n0 : Nat} {H H' : Heap} {ps : List (Pt α)} (h : TInv n0 H ps) (hk : ∀ (t e : Nat), H[t]? = some (B.tok e) → H'[t]? = some (B.tok e)) : TInv n0 H' ps := ⟨fun q hq => by
  rcases h.1 q hq with h1 | h1 | ⟨t, e, h1, h2, h3⟩
  · exact .inl h1
  · exact .inr (.inl h1)
  · exact .inr (.inr ⟨t, e, h1, h2, hk t e h3⟩), h.2⟩
theorem TInv.ins {α : Type} {n0 : Nat} {H : Heap} {ps : List (Pt α)} (h : TInv n0 H ps) (i q : Nat) : TInv n0 H (ps.take i ++ ⟨q, .nil, []⟩ :: ps.drop i) := ⟨fun x hx => by
  rcases List.mem_append.1 hx with hx | hx
  · exact h.1 x (List.mem_of_mem_take hx)
  · rcases List.mem_cons.1 hx with rfl | hx
    · exact .inl rfl
    · exact h.1 x (List.mem_of_mem_drop hx), pw_ins h.2 i (fun a _ t e t' e' _ h2 => by cases h2) (fun b _ t e t' e' h1 _ => by cases h1)⟩
/-- an append, and where its token stands -/
theorem app_own {n0 : Nat} {H : Heap} {k : SK} {bytes : Nat} (es new : List (List T)) (hk : Apd n0 H k) (hn0 : n0 ≤ H.length) (hnew : new ≠ []) (hr : roomOk (es.length + new.length) bytes = true) :
    ∃ t e H', appT H bytes k es new = some (.sl (.own t e) (es ++ new.map (·.map T.erase)), H') ∧ n0 ≤ t ∧ H'[t]? = some (.tok e) ∧ Stay n0 H k H' ∧ (t = H.length ∨ ∃ e0, k = .own t e0) := by
  unfold appT
  cases new with
  | nil => exact absurd rfl hnew
  | cons c new =>
    simp -implicitDefEqProofs only [hr, if_true]
    rcases hk with rfl | rfl | ⟨t, e, rfl, ht, hg⟩
    · exact ⟨_, _, _, rfl, hn0, g_tail rfl, ⟨by simp, fun b x hx _ => by rw [g_app (glt hx)]; exact hx, fun H0 _ h => h.app _⟩, .inl rfl⟩
    · exact ⟨_, _, _, rfl, hn0, g_tail rfl, ⟨by simp, fun b x hx _ => by rw [g_app (glt hx)]; exact hx, fun H0 _ h => h.app _⟩, .inl rfl⟩
    · simp -implicitDefEqProofs only [hg, if_true]
      refine ⟨_, _, _, rfl, ht, g_eq (glt hg), ⟨by simp, fun b x hx hne => ?_, fun H0 h0 h => h.set (Nat.le_trans h0 ht) _⟩, .inr ⟨e, rfl⟩⟩
      have : t ≠ b := fun h => hne e (by rw [h])
      rw [g_ne this]; exact hx
theorem TInv.app {α : Type} {n0 : Nat} {H H' : Heap} {ps : List (Pt α)} (h : TInv n0 H ps) {i : Nat} {x : Pt α} (hx : ps[i]? = some x) {t e : Nat} (items : List α) (ht : n0 ≤ t) (hg : H'[t]? = some (.tok e)) (hst : Stay n0 H x.kk H') (hw : t = H.length ∨ ∃ e0, x.kk = .own t e0) :
    TInv n0 H' (ps.set i ⟨x.part, .own t e, items⟩) := by
  have hlt : ∀ z ∈ ps, ∀ t' e', z.kk = .own t' e' → t' < H.length := fun z hz t' e' hk => by
    rcases h.1 z hz with h1 | h1 | ⟨t2, e2, h1, _, h3⟩
    · rw [hk] at h1; cases h1
    · rw [hk] at h1; cases h1
    · rw [hk] at h1; cases h1; exact glt h3
  refine ⟨fun q hq => ?_, pw_set h.2 hx (fun a ha hd t1 e1 t2 e2 h1 h2 => ?_) (fun b hb hd t1 e1 t2 e2 h1 h2 => ?_)⟩
  · obtain ⟨e1, e2⟩ := set_split hx
    rw [e2] at hq
    have hpw := h.2
    rw [e1, List.pairwise_append, List.pairwise_cons] at hpw
    have keep : ∀ z ∈ ps, (∀ e0, z.kk = .own t e0 → x.kk ≠ .own t e0 → False) → True := fun _ _ _ => trivial
    have other : ∀ z ∈ ps, (Dis z x ∨ Dis x z) → Apd n0 H' z.kk := fun z hz hd => by
      rcases h.1 z hz with h1 | h1 | ⟨t2, e2, h1, h2, h3⟩
      · exact .inl h1
      · exact .inr (.inl h1)
      · refine .inr (.inr ⟨t2, e2, h1, h2, hst.get t2 _ h3 fun e0 hk => ?_⟩)
        rcases hd with hd | hd
        · exact hd _ _ _ _ h1 hk rfl
        · exact hd _ _ _ _ hk h1 rfl
    rcases List.mem_append.1 hq with hq | hq
    · exact other q (List.mem_of_mem_take hq) (.inl (hpw.2.2 q hq x (by simp)))
    · rcases List.mem_cons.1 hq with rfl | hq
      · exact .inr (.inr ⟨t, e, rfl, ht, hg⟩)
      · exact other q (List.mem_of_mem_drop hq) (.inr (hpw.2.1.1 q hq))
  · cases h2
    rcases hw with rfl | ⟨e0, hk⟩
    · have := hlt a ha _ _ h1; omega
    · exact hd _ _ _ _ h1 hk
  · cases h1
    rcases hw with rfl | ⟨e0, hk⟩
    · have := hlt b hb _ _ h2; omega
    · exact hd _ _ _ _ hk h2
/-! the plain law of dealing -/
structure Grp {α : Type} (key : α → ByteArray) (p : Nat) (ks : List α) (ps : List (Pt α)) : Prop where
  rise : RiseP ps
  item : ∀ q ∈ ps, q.part < p ∧ q.items = ks.filter (fun k => decide (ofN (key k) p = q.part)) ∧ q.items ≠ []
  all : ∀ k ∈ ks, ∃ q ∈ ps, q.part = ofN (key k) p
theorem Grp.nil {α : Type} (key : α → ByteArray) (p : Nat) : Grp key p [] [] := ⟨List.Pairwise.nil, by simp, by simp⟩
end Go.Proofs.Ytpbilghnfldmiaa.Sx
end

/-! text ShardD -/
section
namespace Go.Proofs.Ytpbilghnfldmiaa.Sx
open Go.Rmp Go.Proofs.Ytpbilghnfldmiaa.Ir
set_option maxRecDepth 10000
theorem roomS {n bytes : Nat} (h : n ≤ 2097152) (hb : bytes ≤ 64) : roomOk n bytes = true := by
  simp -implicitDefEqProofs only [roomOk, decide_eq_true_eq]
  have h1 : n + n / 4 + 512 ≤ 2621952 := by omega
  exact Nat.le_trans (Nat.mul_le_mul h1 hb) (by decide)
theorem take_sn {α : Type} {l : List α} {i : Nat} {v : α} (h : l[i]? = some v) : l.take (i + 1) = l.take i ++ [v] := by
  rw [List.take_add_one, h]; rfl
theorem Grp.found {α : Type} {key : α → ByteArray} {p : Nat} {ks : List α} {ps : List (Pt α)} (h : Grp key p ks ps) {i : Nat} {x : Pt α} (hx : ps[i]? = some x) {k : α} (hk : x.part = ofN (key k) p) (kk : SK) :
    Grp key p (ks ++ [k]) (ps.set i ⟨x.part, kk, x.items ++ [k]⟩) := by
  have hxm : x ∈ ps := List.mem_of_getElem? hx
  obtain ⟨e1, e2⟩ := set_split hx
  have hpw : ps.Pairwise fun p q => p.part < q.part := h.rise
  rw [e1, List.pairwise_append, List.pairwise_cons] at hpw
  refine ⟨pw_set h.rise hx (fun a _ h => h) (fun a _ h => h), fun q hq => ?_, fun k' hk' => ?_⟩
  · have other : ∀ z ∈ ps, z.part ≠ x.part → z.part < p ∧ z.items = (ks ++ [k]).filter (fun k => decide (ofN (key k) p = z.part)) ∧ z.items ≠ [] := fun z hz hne => by
      obtain ⟨h1, h2, h3⟩ := h.item z hz
      refine ⟨h1, ?_, h3⟩
      have : ¬ (ofN (key k) p = z.part) := fun e => hne (by rw [hk, e])
      simp [List.filter_append, this, ← h2]
    rw [e2] at hq
    rcases List.mem_append.1 hq with hq | hq
    · exact other q (List.mem_of_mem_take hq) (by have := hpw.2.2 q hq x (by simp); omega)
    · rcases List.mem_cons.1 hq with rfl | hq
      · obtain ⟨h1, h2, h3⟩ := h.item x hxm
        refine ⟨h1, ?_, by simp⟩
        simp [List.filter_append, hk.symm, ← h2]
      · exact other q (List.mem_of_mem_drop hq) (by have := hpw.2.1.1 q hq; omega)
  · have hs : ∃ q ∈ ps, q.part = ofN (key k') p := by
      rcases List.mem_append.1 hk' with h1 | h1
      · exact h.all k' h1
      · simp at h1; subst h1; exact ⟨x, hxm, hk⟩
    obtain ⟨q, hq, he⟩ := hs
    rw [e2]
    rw [e1] at hq
    rcases List.mem_append.1 hq with hq | hq
    · exact ⟨q, List.mem_append.2 (.inl hq), he⟩
    · rcases List.mem_cons.1 hq with rfl | hq
      · exact ⟨_, List.mem_append.2 (.inr (List.mem_cons_self ..)), he⟩
      · exact ⟨q, List.mem_append.2 (.inr (List.mem_cons_of_mem _ hq)), he⟩
theorem Grp.ins {α : Type} {key : α → ByteArray} {p : Nat} {ks : List α} {ps : List (Pt α)} (h : Grp key p ks ps) {i : Nat} {k : α} {q : Nat} (hk : q = ofN (key k) p) (hq : q < p) (hlo : ∀ a ∈ ps.take i, a.part < q) (hhi : ∀ a ∈ ps.drop i, q < a.part) (kk : SK) :
    Grp key p (ks ++ [k]) (ps.take i ++ ⟨q, kk, [k]⟩ :: ps.drop i) := by
  have hne : ∀ z ∈ ps, z.part ≠ q := fun z hz => by
    rw [← List.take_append_drop i ps] at hz
    rcases List.mem_append.1 hz with hz | hz
    · have := hlo z hz; omega
    · have := hhi z hz; omega
  refine ⟨pw_ins h.rise i hlo hhi, fun z hz => ?_, fun k' hk' => ?_⟩
  · have other : ∀ z ∈ ps, z.part < p ∧ z.items = (ks ++ [k]).filter (fun k => decide (ofN (key k) p = z.part)) ∧ z.items ≠ [] := fun z hz => by
      obtain ⟨h1, h2, h3⟩ := h.item z hz
      refine ⟨h1, ?_, h3⟩
      have : ¬ (ofN (key k) p = z.part) := fun e => hne z hz (by omega)
      simp [List.filter_append, this, ← h2]
    rcases List.mem_append.1 hz with hz | hz
    · exact other z (List.mem_of_mem_take hz)
    · rcases List.mem_cons.1 hz with rfl | hz
      · refine ⟨hq, ?_, by simp⟩
        have h0 : ks.filter (fun k => decide (ofN (key k) p = q)) = [] := List.filter_eq_nil_iff.2 fun a ha => by
          obtain ⟨z, hz, e⟩ := h.all a ha
          have := hne z hz
          simp; omega
        simp [List.filter_append, h0, hk.symm]
      · exact other z (List.mem_of_mem_drop hz)
  · rcases List.mem_append.1 hk' with h1 | h1
    · obtain ⟨z, hz, e⟩ := h.all k' h1
      refine ⟨z, ?_, e⟩
      rw [← List.take_append_drop i ps] at hz
      rcases List.mem_append.1 hz with hz | hz
      · exact List.mem_append.2 (.inl hz)
      · exact List.mem_append.2 (.inr (List.mem_cons_of_mem _ hz))
    · simp at h1; subst h1
      exact ⟨_, List.mem_append.2 (.inr (List.mem_cons_self ..)), hk⟩
theorem Grp.len {α : Type} {key : α → ByteArray} {p : Nat} {ks : List α} {ps : List (Pt α)} (h : Grp key p ks ps) : ps.length ≤ p := by
  have : ∀ (l : List (Pt α)) (lo : Nat), RiseP l → (∀ x ∈ l, lo ≤ x.part ∧ x.part < p) → lo ≤ p → l.length ≤ p - lo := by
    intro l
    induction l with
    | nil => intro lo _ _ _; simp
    | cons x l ih =>
      intro lo hr hb _
      have hr' := List.pairwise_cons.1 hr
      have hx := hb x (by simp)
      have := ih (x.part + 1) hr'.2 (fun y hy => ⟨hr'.1 y hy, (hb y (by simp [hy])).2⟩) (by omega)
      simp; omega
  have h1 := this ps 0 h.rise (fun x hx => ⟨Nat.zero_le _, (h.item x hx).1⟩) (Nat.zero_le _)
  omega
/-- two that are dealt alike are the same but for what may be appended to -/
theorem Grp.uniq {α : Type} {key : α → ByteArray} {p : Nat} {ks : List α} {ps qs : List (Pt α)} (h : Grp key p ks ps) (h' : Grp key p ks qs) : ps.map (fun x => (x.part, x.items)) = qs.map (fun x => (x.part, x.items)) := by
  have hp : ∀ {a b : List (Pt α)}, Grp key p ks a → Grp key p ks b → ∀ x ∈ a, ∃ y ∈ b, y.part = x.part := fun {a b} ha hb x hx => by
    obtain ⟨h1, h2, h3⟩ := ha.item x hx
    cases hi : x.items with
    | nil => exact absurd hi h3
    | cons k r =>
      have hk : k ∈ x.items := by rw [hi]; simp
      rw [h2] at hk
      obtain ⟨hk1, hk2⟩ := List.mem_filter.1 hk
      obtain ⟨y, hy, e⟩ := hb.all k hk1
      exact ⟨y, hy, by simp at hk2; omega⟩
  have hparts : ps.map (·.part) = qs.map (·.part) := by
    have r1 : (ps.map (·.part)).Pairwise (· < ·) := List.pairwise_map.2 h.rise
    have r2 : (qs.map (·.part)).Pairwise (· < ·) := List.pairwise_map.2 h'.rise
    have m : ∀ z, z ∈ ps.map (·.part) ↔ z ∈ qs.map (·.part) := fun z => by
      constructor
      · intro hz
        obtain ⟨x, hx, rfl⟩ := List.mem_map.1 hz
        obtain ⟨y, hy, e⟩ := hp h h' x hx
        exact List.mem_map.2 ⟨y, hy, e⟩
      · intro hz
        obtain ⟨x, hx, rfl⟩ := List.mem_map.1 hz
        obtain ⟨y, hy, e⟩ := hp h' h x hx
        exact List.mem_map.2 ⟨y, hy, e⟩
    exact eq_of_rise r1 r2 m
  have hit : ∀ {a : List (Pt α)}, Grp key p ks a → a.map (fun x => (x.part, x.items)) = (a.map (·.part)).map (fun n => (n, ks.filter (fun k => decide (ofN (key k) p = n)))) := fun {a} ha => by
    rw [List.map_map]
    exact List.map_congr_left fun x hx => by simp [(ha.item x hx).2.1]
  rw [hit h, hit h', hparts]
where
  eq_of_rise : ∀ {a b : List Nat}, a.Pairwise (· < ·) → b.Pairwise (· < ·) → (∀ z, z ∈ a ↔ z ∈ b) → a = b := by
    intro a
    induction a with
    | nil => intro b _ _ h; cases b with | nil => rfl | cons y b => exact absurd ((h y).2 (by simp)) (by simp)
    | cons x a ih =>
      intro b ha hb h
      cases b with
      | nil => exact absurd ((h x).1 (by simp)) (by simp)
      | cons y b =>
        have ha' := List.pairwise_cons.1 ha
        have hb' := List.pairwise_cons.1 hb
        have hxy : x = y := by
          rcases List.mem_cons.1 ((h x).1 (by simp)) with e | e
          · exact e
          · rcases List.mem_cons.1 ((h y).2 (by simp)) with e' | e'
            · exact e'.symm
            · have := ha'.1 y e'; have := hb'.1 x e; omega
        subst hxy
        congr 1
        refine ih ha'.2 hb'.2 fun z => ⟨fun hz => ?_, fun hz => ?_⟩
        · rcases List.mem_cons.1 ((h z).1 (by simp [hz])) with e | e
          · have := ha'.1 z hz; omega
          · exact e
        · rcases List.mem_cons.1 ((h z).2 (by simp [hz])) with e | e
          · have := hb'.1 z hz; omega
          · exact e
end Go.Proofs.Ytpbilghnfldmiaa.Sx
end

/-! text ShardE -/
section
namespace Go.Proofs.Ytpbilghnfldmiaa.Sx
open Go.Rmp Go.Proofs.Ytpbilghnfldmiaa.Ir
set_option maxRecDepth 10000
theorem ins25 (n0 bv i q : Nat) (t : T) (ps : List (Pt _)) (H : Heap) (hH : n0 ≤ H.length) (hm : Mut (encPt eS) 2 n0 H t ps) (hv : H[bv]? = some (.cells [.int .i64 q, .sl .nil []])) (hne : ∀ off len n, t ≠ .msl bv off len n) (hi : i ≤ ps.length) (hl : ps.length ≤ 64) :
    W env (.call 25 [t, .int .i64 i, .msl bv 0 1 2]) H (InsQ (encPt eS) 2 n0 H t (ps.take i ++ ⟨q, .nil, []⟩ :: ps.drop i)) := by
  rcases hm with ⟨rfl, rfl⟩ | ⟨b, rfl, hb, hbn⟩
  · have hi0 : i = 0 := by simpa using hi
    subst hi0
    exact ins_nil (f := 25) (bytes := 32) (fr := 34) (encPt_len eS) (by decide) ⟨0, .nil, []⟩ rfl n0 bv ⟨q, .nil, []⟩ H hH hv (roomS (by omega) (by omega))
  · exact ins_msl (f := 25) (bytes := 32) (fr := 34) (encPt_len eS) (by decide) ⟨0, .nil, []⟩ rfl n0 bv b i ⟨q, .nil, []⟩ ps H hH hv hb hbn (fun h => hne 0 ps.length 2 (by rw [h])) hi (by omega) (roomS (by omega) (by omega))
theorem ins28 (n0 bv i q : Nat) (t : T) (ps : List (Pt _)) (H : Heap) (hH : n0 ≤ H.length) (hm : Mut (encPt eP) 2 n0 H t ps) (hv : H[bv]? = some (.cells [.int .i64 q, .sl .nil []])) (hne : ∀ off len n, t ≠ .msl bv off len n) (hi : i ≤ ps.length) (hl : ps.length ≤ 64) :
    W env (.call 28 [t, .int .i64 i, .msl bv 0 1 2]) H (InsQ (encPt eP) 2 n0 H t (ps.take i ++ ⟨q, .nil, []⟩ :: ps.drop i)) := by
  rcases hm with ⟨rfl, rfl⟩ | ⟨b, rfl, hb, hbn⟩
  · have hi0 : i = 0 := by simpa using hi
    subst hi0
    exact ins_nil (f := 28) (bytes := 32) (fr := 36) (encPt_len eP) (by decide) ⟨0, .nil, []⟩ rfl n0 bv ⟨q, .nil, []⟩ H hH hv (roomS (by omega) (by omega))
  · exact ins_msl (f := 28) (bytes := 32) (fr := 36) (encPt_len eP) (by decide) ⟨0, .nil, []⟩ rfl n0 bv b i ⟨q, .nil, []⟩ ps H hH hv hb hbn (fun h => hne 0 ps.length 2 (by rw [h])) hi (by omega) (roomS (by omega) (by omega))
theorem TInv.ins_heap {α : Type} {e : α → List T} {n0 : Nat} {H H' : Heap} {t : T} {ps : List (Pt α)} (h : TInv n0 H ps) (hm : Mut (encPt e) 2 n0 H t ps) (hs : StayI n0 H t H') : TInv n0 H' ps := h.keep fun c x hc => hs.get c _ hc fun off len n ht => by
  rcases hm with ⟨rfl, rfl⟩ | ⟨b, rfl, hb, hbn⟩
  · cases ht
  · cases ht; rw [hb] at hc; cases hc
theorem own_step {α : Type} {e : α → List T} {n0 : Nat} {H H0 : Heap} {ps : List (Pt α)} (h : TInv n0 H ps) {b : Nat} (hb : H[b]? = some (.cells (msC (encPt e) ps))) (hbn : n0 ≤ b) {i : Nat} {x : Pt α} (hx : ps[i]? = some x) (k : α) {bytes : Nat} (hr : roomOk (x.items.length + 1) bytes = true) (hex : Ext H0 H) (hH0 : H0.length = n0) (hen : (e k).map T.erase = e k) :
    ∃ t' e' H3, appT H bytes x.kk (x.items.map e) [e k] = some (.sl (.own t' e') ((x.items ++ [k]).map e), H3) ∧ H3[b]? = some (.cells (msC (encPt e) ps)) ∧ ldcB 1 (i * 2 + 1) (some (.cells (msC (encPt e) ps))) = some [.sl x.kk (x.items.map e)] ∧
      (∀ Hx, stcB Hx b [.sl (.own t' e') ((x.items ++ [k]).map e)] (i * 2 + 1) (some (.cells (msC (encPt e) ps))) = some (Hx.set b (.cells (msC (encPt e) (ps.set i ⟨x.part, .own t' e', x.items ++ [k]⟩))))) ∧
      TInv n0 (H3.set b (.cells (msC (encPt e) (ps.set i ⟨x.part, .own t' e', x.items ++ [k]⟩)))) (ps.set i ⟨x.part, .own t' e', x.items ++ [k]⟩) ∧ Ext H0 (H3.set b (.cells (msC (encPt e) (ps.set i ⟨x.part, .own t' e', x.items ++ [k]⟩)))) ∧
      Mut (encPt e) 2 n0 (H3.set b (.cells (msC (encPt e) (ps.set i ⟨x.part, .own t' e', x.items ++ [k]⟩)))) (.msl b 0 ps.length 2) (ps.set i ⟨x.part, .own t' e', x.items ++ [k]⟩) := by
  have hn0 : n0 ≤ H.length := by have := hex.len; omega
  have hk := h.1 x (List.mem_of_getElem? hx)
  obtain ⟨t', e', H3, ha, ht, hg, hst, hw⟩ := app_own (bytes := bytes) (x.items.map e) [e k] hk hn0 (by simp) (by simpa using hr)
  have hb3 := hst.cells hk hb (by simp)
  refine ⟨t', e', H3, by rw [ha]; simp [hen], hb3, ?_, fun Hx => ?_, ?_, ?_, ?_⟩
  · rw [msC_get (n := 2) (encPt_len e) hx 1 1 (by decide)]; rfl
  · exact msC_set (n := 2) (encPt_len e) hx Hx b _ 1 (by simp) (by simp [encPt])
  · refine (h.app hx (x.items ++ [k]) ht hg hst hw).keep fun c y hc => ?_
    have : b ≠ c := fun hbc => by subst hbc; rw [hb3] at hc; cases hc
    rw [g_ne this]; exact hc
  · exact (hst.ext H0 (by omega) hex).set (by omega) _
  · exact .inr ⟨b, by rw [List.length_set], g_eq (glt hb3), hbn⟩
def GrpQ {α : Type} (e : α → List T) (key : α → ByteArray) (p : Nat) (ks : List α) (H : Heap) : Out → Heap → Prop := fun o H' => Ext H H' ∧ ∃ t ps, o = .val (.tup [t, .int .i64 0]) ∧ Mut (encPt e) 2 H.length H' t ps ∧ TInv H.length H' ps ∧ Grp key p ks ps
theorem iadX {α : Type} {e : α → List T} {n : Nat} (hn : ∀ x, (e x).length = n) (h0 : n ≠ 0) {l : List α} {k : SK} {i : Nat} {x : α} (h : l[i]? = some x) : iadT n i (.sl k (l.map e)) = some (.iptr (e x)) := iad_map h (hn x) h0
theorem group12 (k : SK) (ks : List ByteArray) (p : Nat) (h1 : 1 ≤ p) (h2 : p ≤ 64) (H : Heap) (hl : ks.length ≤ 1048576) (hs : ∀ s ∈ ks, s.size < 9223372036854775807) : W env (.call 12 [.sl k (ks.map eS), .int .i64 p]) H (GrpQ eS id p ks H) := by
  refine W.fnI rfl rfl rfl ?_
  simp -implicitDefEqProofs only [ir12, op, ef, cl, sq, reduceIte, Int.reduceLT, Int.reduceLE, Int.reduceBEq, Int.reduceBNe, Int.reduceEq, Nat.reduceAdd, Nat.reduceLeDiff, Nat.reduceLT, Nat.reduceEqDiff, S1]
  refine callB_of _ _ _ _ _ _ _ _ (may19 p _) ?_
  rintro u H ⟨hu, rfl⟩
  have g1 : (1 : Int) ≤ (p : Int) := by omega
  have g2 : (p : Int) ≤ 64 := by omega
  cases hu
  simp -implicitDefEqProofs only [op, ef, cl, sq, reduceIte, Int.reduceLT, Int.reduceLE, Int.reduceBEq, Int.reduceBNe, Int.reduceEq, Nat.reduceAdd, Nat.reduceLeDiff, Nat.reduceLT, Nat.reduceEqDiff, S1, g1, g2, Bool.and_self]
  refine W.loopI (fun (i : Nat) R H' => At H' (fun H' => ∃ t ps, R 6 = t ∧ Ext H H' ∧ Mut (encPt eS) 2 H.length H' t ps ∧ TInv H.length H' ps ∧ Grp id p (ks.take i) ps) ∧ R 1 = .int .i64 p ∧ R 15 = .sl k (ks.map eS) ∧ R 16 = .int .i64 ks.length ∧ R 17 = .int .i64 i ∧ i ≤ ks.length) (fun i => ks.length - i) 0 ⟨.i ⟨_, [], rfl, Ext.rfl', mut_nil _ _ _ _, ⟨by simp, List.Pairwise.nil⟩, by simpa using Grp.nil id p⟩, rfl, rfl, by simp -implicitDefEqProofs only [op, ef, cl, sq, reduceIte, Int.reduceLT, Int.reduceLE, Int.reduceBEq, Int.reduceBNe, Int.reduceEq, Nat.reduceAdd, Nat.reduceLeDiff, Nat.reduceLT, Nat.reduceEqDiff, S1, List.length_map], rfl, Nat.zero_le _⟩ ?_
  rintro i R H1 ⟨⟨t, ps, h6, hx1, hm, hti, hg⟩, h1', h15, h16, h17, hi⟩
  by_cases hlt : i < ks.length
  · obtain ⟨s, hsv⟩ := getP (l := ks) hlt
    have wsi := wrap_succ (show i < 9223372036854775807 by omega)
    have hia := iadX (e := eS) (n := 1) (fun _ => rfl) (by decide) (k := k) hsv
    have hpl := hg.len
    simp -implicitDefEqProofs only [op, ef, cl, sq, reduceIte, Int.reduceLT, Int.reduceLE, Int.reduceBEq, Int.reduceBNe, Int.reduceEq, Nat.reduceAdd, Nat.reduceLeDiff, Nat.reduceLT, Nat.reduceEqDiff, S1, h1', h6, h15, h16, h17, hlt, natOf_nat, hia, eS]
    refine callB_of _ _ _ _ _ _ _ _ (of20 s p h1 h2 _ (hs s (List.mem_of_getElem? hsv))) ?_
    rintro u H1 ⟨hu, rfl⟩
    cases hu
    simp -implicitDefEqProofs only [op, ef, cl, sq, reduceIte, Int.reduceLT, Int.reduceLE, Int.reduceBEq, Int.reduceBNe, Int.reduceEq, Nat.reduceAdd, Nat.reduceLeDiff, Nat.reduceLT, Nat.reduceEqDiff, S1, h6]
    refine callB_of _ _ _ _ _ _ _ _ (srch22 H.length t ps (ofN s p) _ hm hg.rise.rise (by omega)) ?_
    rintro u H2 ⟨hx2, at', fd, hu, hat, hlo, hhi, hfd⟩
    cases hu
    have hx2 : Ext H1 H2 := hx2
    have hxH := hx1.trans hx2
    have hm2 := hm.ext hx2
    have hti2 := hti.keep fun t e h => hx2.get h
    have hs1 : (eS s).map T.erase = eS s := rfl
    have hks := take_sn hsv
    have hitl : ∀ z ∈ ps, z.items.length ≤ i := fun z hz => by
      rw [(hg.item z hz).2.1]
      refine Nat.le_trans (List.length_filter_le ..) ?_
      simp; omega
    cases fd
    · have hnf : ∀ x, ps[at']? = some x → x.part ≠ ofN s p := fun x hx e => by
        have := hfd.2 ⟨x, hx, e⟩; cases this
      simp -implicitDefEqProofs only [op, ef, cl, sq, reduceIte, Int.reduceLT, Int.reduceLE, Int.reduceBEq, Int.reduceBNe, Int.reduceEq, Nat.reduceAdd, Nat.reduceLeDiff, Nat.reduceLT, Nat.reduceEqDiff, S1, h1', h6, S2]
      refine callB_of _ _ _ _ _ _ _ _ (ins25 H.length H2.length at' (ofN s p) t ps _ (by have := hxH.len; simp; omega) (hm2.ext ⟨_, rfl⟩) (by simp) (fun off len n ht => ?_) hat (by omega)) ?_
      · rcases hm2 with ⟨_, rfl⟩ | ⟨b, rfl, hb, _⟩
        · cases ht
        · cases ht; exact absurd (glt hb) (Nat.lt_irrefl _)
      rintro u H3 ⟨b, hu, hb, hbn, hst⟩
      cases hu
      have hyl : (ps.take at' ++ ⟨ofN s p, .nil, []⟩ :: ps.drop at').length = ps.length + 1 := by simp; omega
      have hx : (ps.take at' ++ (⟨ofN s p, .nil, []⟩ : Pt ByteArray) :: ps.drop at')[at']? = some ⟨ofN s p, .nil, []⟩ := by
        rw [List.getElem?_append_right (by rw [List.length_take]; omega), List.length_take, Nat.min_eq_left hat, Nat.sub_self]; rfl
      have hset : ∀ y : Pt ByteArray, (ps.take at' ++ (⟨ofN s p, .nil, []⟩ : Pt ByteArray) :: ps.drop at').set at' y = ps.take at' ++ y :: ps.drop at' := fun y => by
        rw [List.set_append_right _ _ (by rw [List.length_take]; omega), List.length_take, Nat.min_eq_left hat, Nat.sub_self]; rfl
      have hti3 := (TInv.ins_heap (hti2.keep fun t e h => (Ext.rfl'.app _).get h) (hm2.ext ⟨_, rfl⟩) hst).ins at' (ofN s p)
      have hxH3 : Ext H H3 := hst.ext H (Nat.le_refl _) (hxH.app _)
      obtain ⟨t', e', H4, ha, hb3, hld, hst4, hti4, hx4, hm4⟩ := own_step (bytes := 16) hti3 hb hbn hx s (roomS (by simp) (by omega)) hxH3 rfl hs1
      have hat2 : at' < (ps.take at' ++ (⟨ofN s p, .nil, []⟩ : Pt ByteArray) :: ps.drop at').length := by omega
      have hall := all_map (enc := eS) (n := 1) (fun _ => rfl) ([] : List ByteArray)
      simp -implicitDefEqProofs only [eS, List.map_nil, List.nil_append, List.map_cons] at ha hld hst4 hall
      simp -implicitDefEqProofs only [op, ef, cl, sq, reduceIte, Int.reduceLT, Int.reduceLE, Int.reduceBEq, Int.reduceBNe, Int.reduceEq, Nat.reduceAdd, Nat.reduceLeDiff, Nat.reduceLT, Nat.reduceEqDiff, S1, h1', h6, h15, h16, h17, natOf_nat, iad_m, hat2, hb, hld, hall, ha, hb3, hst4, wsi]
      refine ⟨i + 1, by omega, .i ⟨_, _, rfl, hx4, hm4, hti4, ?_⟩, rfl, by omega⟩
      rw [hks, hset]
      refine hg.ins rfl (ofN_lt s (by omega)) (fun a ha => ?_) (fun a ha => ?_) _
      · obtain ⟨j, hj, e⟩ := List.getElem_of_mem ha
        rw [List.length_take] at hj
        exact hlo j a (by omega) (by rw [← e, List.getElem_take]; exact List.getElem?_eq_getElem _)
      · obtain ⟨j, hj, e⟩ := List.getElem_of_mem ha
        rw [List.length_drop] at hj
        have hja : ps[at' + j]? = some a := by rw [← e, List.getElem_drop]; exact List.getElem?_eq_getElem _
        have h1 := hhi (at' + j) a (by omega) hja
        have h2 : a.part ≠ ofN s p := fun e2 => by
          obtain ⟨x0, hx0⟩ := getP (l := ps) (i := at') (by omega)
          have h3 := hhi at' x0 (Nat.le_refl _) hx0
          rcases Nat.eq_zero_or_pos j with rfl | hj0
          · exact hnf a hja e2
          · have h4 := hg.rise.rise at' (at' + j) x0 a (by omega) hx0 hja
            omega
        exact Nat.lt_of_le_of_ne h1 (Ne.symm h2)
    · obtain ⟨x, hx, hxp⟩ := hfd.1 rfl
      obtain ⟨b, rfl, hbn, hb, hb4, hb5⟩ := mut_get hm2 hx
      obtain ⟨t', e', H3, ha, hb3, hld, hst, hti3, hx3, hm3⟩ := own_step (bytes := 16) hti2 hb hbn hx s (roomS (by have := hitl x (List.mem_of_getElem? hx); omega) (by omega)) hxH rfl hs1
      have hat2 : at' < ps.length := (List.getElem?_eq_some_iff.1 hx).1
      have hall := all_map (enc := eS) (n := 1) (fun _ => rfl) x.items
      simp -implicitDefEqProofs only [eS] at ha hst
      simp -implicitDefEqProofs only [op, ef, cl, sq, reduceIte, Int.reduceLT, Int.reduceLE, Int.reduceBEq, Int.reduceBNe, Int.reduceEq, Nat.reduceAdd, Nat.reduceLeDiff, Nat.reduceLT, Nat.reduceEqDiff, S1, h1', h6, h15, h16, h17, natOf_nat, iad_m, hat2, hb, hld, hall, ha, hb3, hst, wsi]
      exact ⟨i + 1, by omega, .i ⟨_, _, rfl, hx3, hm3, hti3, by rw [hks]; exact hg.found hx hxp _⟩, rfl, by omega⟩
  · have hil : i = ks.length := by omega
    subst hil
    simp -implicitDefEqProofs only [op, ef, cl, sq, reduceIte, Int.reduceLT, Int.reduceLE, Int.reduceBEq, Int.reduceBNe, Int.reduceEq, Nat.reduceAdd, Nat.reduceLeDiff, Nat.reduceLT, Nat.reduceEqDiff, S1, h1', h6, h15, h16, h17, hlt]
    rw [List.take_length] at hg
    exact ⟨hx1, t, ps, rfl, hm, hti, hg⟩
end Go.Proofs.Ytpbilghnfldmiaa.Sx
end

/-! text ShardF -/
section
namespace Go.Proofs.Ytpbilghnfldmiaa.Sx
open Go.Rmp Go.Proofs.Ytpbilghnfldmiaa.Ir
set_option maxRecDepth 10000
theorem group15 (k : SK) (ks : List (ByteArray × ByteArray)) (p : Nat) (h1 : 1 ≤ p) (h2 : p ≤ 64) (H : Heap) (hl : ks.length ≤ 1048576) (hs : ∀ s ∈ ks, s.1.size < 9223372036854775807) : W env (.call 15 [.sl k (ks.map eP), .int .i64 p]) H (GrpQ eP Prod.fst p ks H) := by
  refine W.fnI rfl rfl rfl ?_
  simp -implicitDefEqProofs only [ir15, op, ef, cl, sq, reduceIte, Int.reduceLT, Int.reduceLE, Int.reduceBEq, Int.reduceBNe, Int.reduceEq, Nat.reduceAdd, Nat.reduceLeDiff, Nat.reduceLT, Nat.reduceEqDiff, S1]
  refine callB_of _ _ _ _ _ _ _ _ (may19 p _) ?_
  rintro u H ⟨hu, rfl⟩
  have g1 : (1 : Int) ≤ (p : Int) := by omega
  have g2 : (p : Int) ≤ 64 := by omega
  cases hu
  simp -implicitDefEqProofs only [op, ef, cl, sq, reduceIte, Int.reduceLT, Int.reduceLE, Int.reduceBEq, Int.reduceBNe, Int.reduceEq, Nat.reduceAdd, Nat.reduceLeDiff, Nat.reduceLT, Nat.reduceEqDiff, S1, g1, g2, Bool.and_self]
  refine W.loopI (fun (i : Nat) R H' => At H' (fun H' => ∃ t ps, R 6 = t ∧ Ext H H' ∧ Mut (encPt eP) 2 H.length H' t ps ∧ TInv H.length H' ps ∧ Grp Prod.fst p (ks.take i) ps) ∧ R 1 = .int .i64 p ∧ R 15 = .sl k (ks.map eP) ∧ R 16 = .int .i64 ks.length ∧ R 17 = .int .i64 i ∧ i ≤ ks.length) (fun i => ks.length - i) 0 ⟨.i ⟨_, [], rfl, Ext.rfl', mut_nil _ _ _ _, ⟨by simp, List.Pairwise.nil⟩, by simpa using Grp.nil Prod.fst p⟩, rfl, rfl, by simp -implicitDefEqProofs only [op, ef, cl, sq, reduceIte, Int.reduceLT, Int.reduceLE, Int.reduceBEq, Int.reduceBNe, Int.reduceEq, Nat.reduceAdd, Nat.reduceLeDiff, Nat.reduceLT, Nat.reduceEqDiff, S1, List.length_map], rfl, Nat.zero_le _⟩ ?_
  rintro i R H1 ⟨⟨t, ps, h6, hx1, hm, hti, hg⟩, h1', h15, h16, h17, hi⟩
  by_cases hlt : i < ks.length
  · obtain ⟨s, hsv⟩ := getP (l := ks) hlt
    have wsi := wrap_succ (show i < 9223372036854775807 by omega)
    have hia := iadX (e := eP) (n := 2) (fun _ => rfl) (by decide) (k := k) hsv
    have hpl := hg.len
    simp -implicitDefEqProofs only [op, ef, cl, sq, reduceIte, Int.reduceLT, Int.reduceLE, Int.reduceBEq, Int.reduceBNe, Int.reduceEq, Nat.reduceAdd, Nat.reduceLeDiff, Nat.reduceLT, Nat.reduceEqDiff, S1, h1', h6, h15, h16, h17, hlt, natOf_nat, hia, eP, S2]
    refine callB_of _ _ _ _ _ _ _ _ (of20 s.1 p h1 h2 _ (hs s (List.mem_of_getElem? hsv))) ?_
    rintro u H1' ⟨hu, hH1⟩
    cases hu
    have hA : Ext H1 H1' := by rw [hH1]; exact ⟨_, rfl⟩
    have hb8 : H1'[H1.length]? = some (.cells [.str s.1, .str s.2]) := by rw [hH1]; exact g_tail rfl
    have htn : ∀ off len n, t ≠ .msl H1.length off len n := fun off len n ht => by
      rcases hm with ⟨_, rfl⟩ | ⟨b, rfl, hb, _⟩
      · cases ht
      · cases ht; exact absurd (glt hb) (Nat.lt_irrefl _)
    have hm := hm.ext hA
    have hti := hti.keep fun t e h => hA.get h
    have hx1 := hx1.trans hA
    have ld8 : ldcB 2 0 (some (.cells [.str s.1, .str s.2])) = some [.str s.1, .str s.2] := rfl
    simp -implicitDefEqProofs only [op, ef, cl, sq, reduceIte, Int.reduceLT, Int.reduceLE, Int.reduceBEq, Int.reduceBNe, Int.reduceEq, Nat.reduceAdd, Nat.reduceLeDiff, Nat.reduceLT, Nat.reduceEqDiff, S1, h6]
    refine callB_of _ _ _ _ _ _ _ _ (srch26 H.length t ps (ofN s.1 p) _ hm hg.rise.rise (by omega)) ?_
    rintro u H2 ⟨hx2, at', fd, hu, hat, hlo, hhi, hfd⟩
    cases hu
    have hx2 : Ext H1' H2 := hx2
    have hb82 := hx2.get hb8
    have hxH := hx1.trans hx2
    have hm2 := hm.ext hx2
    have hti2 := hti.keep fun t e h => hx2.get h
    have hs1 : (eP s).map T.erase = eP s := rfl
    have hks := take_sn hsv
    have hitl : ∀ z ∈ ps, z.items.length ≤ i := fun z hz => by
      rw [(hg.item z hz).2.1]
      refine Nat.le_trans (List.length_filter_le ..) ?_
      simp; omega
    cases fd
    · have hnf : ∀ x, ps[at']? = some x → x.part ≠ ofN s.1 p := fun x hx e => by
        have := hfd.2 ⟨x, hx, e⟩; cases this
      simp -implicitDefEqProofs only [op, ef, cl, sq, reduceIte, Int.reduceLT, Int.reduceLE, Int.reduceBEq, Int.reduceBNe, Int.reduceEq, Nat.reduceAdd, Nat.reduceLeDiff, Nat.reduceLT, Nat.reduceEqDiff, S1, h1', h6, S2]
      refine callB_of _ _ _ _ _ _ _ _ (ins28 H.length H2.length at' (ofN s.1 p) t ps _ (by have := hxH.len; simp; omega) (hm2.ext ⟨_, rfl⟩) (by simp) (fun off len n ht => ?_) hat (by omega)) ?_
      · rcases hm2 with ⟨_, rfl⟩ | ⟨b, rfl, hb, _⟩
        · cases ht
        · cases ht; exact absurd (glt hb) (Nat.lt_irrefl _)
      rintro u H3 ⟨b, hu, hb, hbn, hst⟩
      cases hu
      have hb83 := hst.get _ _ ((Ext.rfl'.app _).get hb82) htn
      have hyl : (ps.take at' ++ ⟨ofN s.1 p, .nil, []⟩ :: ps.drop at').length = ps.length + 1 := by simp; omega
      have hx : (ps.take at' ++ (⟨ofN s.1 p, .nil, []⟩ : Pt (ByteArray × ByteArray)) :: ps.drop at')[at']? = some ⟨ofN s.1 p, .nil, []⟩ := by
        rw [List.getElem?_append_right (by rw [List.length_take]; omega), List.length_take, Nat.min_eq_left hat, Nat.sub_self]; rfl
      have hset : ∀ y : Pt (ByteArray × ByteArray), (ps.take at' ++ (⟨ofN s.1 p, .nil, []⟩ : Pt (ByteArray × ByteArray)) :: ps.drop at').set at' y = ps.take at' ++ y :: ps.drop at' := fun y => by
        rw [List.set_append_right _ _ (by rw [List.length_take]; omega), List.length_take, Nat.min_eq_left hat, Nat.sub_self]; rfl
      have hti3 := (TInv.ins_heap (hti2.keep fun t e h => (Ext.rfl'.app _).get h) (hm2.ext ⟨_, rfl⟩) hst).ins at' (ofN s.1 p)
      have hxH3 : Ext H H3 := hst.ext H (Nat.le_refl _) (hxH.app _)
      obtain ⟨t', e', H4, ha, hb3, hld, hst4, hti4, hx4, hm4⟩ := own_step (bytes := 32) hti3 hb hbn hx s (roomS (by simp) (by omega)) hxH3 rfl hs1
      have hat2 : at' < (ps.take at' ++ (⟨ofN s.1 p, .nil, []⟩ : Pt (ByteArray × ByteArray)) :: ps.drop at').length := by omega
      have hall := all_map (enc := eP) (n := 2) (fun _ => rfl) ([] : List (ByteArray × ByteArray))
      simp -implicitDefEqProofs only [eP, List.map_nil, List.nil_append, List.map_cons] at ha hld hst4 hall
      simp -implicitDefEqProofs only [op, ef, cl, sq, reduceIte, Int.reduceLT, Int.reduceLE, Int.reduceBEq, Int.reduceBNe, Int.reduceEq, Nat.reduceAdd, Nat.reduceLeDiff, Nat.reduceLT, Nat.reduceEqDiff, S1, h1', h6, h15, h16, h17, natOf_nat, iad_m, hat2, hb, hb83, ld8, hld, hall, ha, hb3, hst4, wsi]
      refine ⟨i + 1, by omega, .i ⟨_, _, rfl, hx4, hm4, hti4, ?_⟩, rfl, by omega⟩
      rw [hks, hset]
      refine hg.ins rfl (ofN_lt s.1 (by omega)) (fun a ha => ?_) (fun a ha => ?_) _
      · obtain ⟨j, hj, e⟩ := List.getElem_of_mem ha
        rw [List.length_take] at hj
        exact hlo j a (by omega) (by rw [← e, List.getElem_take]; exact List.getElem?_eq_getElem _)
      · obtain ⟨j, hj, e⟩ := List.getElem_of_mem ha
        rw [List.length_drop] at hj
        have hja : ps[at' + j]? = some a := by rw [← e, List.getElem_drop]; exact List.getElem?_eq_getElem _
        have h1 := hhi (at' + j) a (by omega) hja
        have h2 : a.part ≠ ofN s.1 p := fun e2 => by
          obtain ⟨x0, hx0⟩ := getP (l := ps) (i := at') (by omega)
          have h3 := hhi at' x0 (Nat.le_refl _) hx0
          rcases Nat.eq_zero_or_pos j with rfl | hj0
          · exact hnf a hja e2
          · have h4 := hg.rise.rise at' (at' + j) x0 a (by omega) hx0 hja
            omega
        exact Nat.lt_of_le_of_ne h1 (Ne.symm h2)
    · obtain ⟨x, hx, hxp⟩ := hfd.1 rfl
      obtain ⟨b, rfl, hbn, hb, hb4, hb5⟩ := mut_get hm2 hx
      obtain ⟨t', e', H3, ha, hb3, hld, hst, hti3, hx3, hm3⟩ := own_step (bytes := 32) hti2 hb hbn hx s (roomS (by have := hitl x (List.mem_of_getElem? hx); omega) (by omega)) hxH rfl hs1
      have hat2 : at' < ps.length := (List.getElem?_eq_some_iff.1 hx).1
      have hall := all_map (enc := eP) (n := 2) (fun _ => rfl) x.items
      simp -implicitDefEqProofs only [eP] at ha hst
      simp -implicitDefEqProofs only [op, ef, cl, sq, reduceIte, Int.reduceLT, Int.reduceLE, Int.reduceBEq, Int.reduceBNe, Int.reduceEq, Nat.reduceAdd, Nat.reduceLeDiff, Nat.reduceLT, Nat.reduceEqDiff, S1, h1', h6, h15, h16, h17, natOf_nat, iad_m, hat2, hb, hb82, ld8, hld, hall, ha, hb3, hst, wsi]
      exact ⟨i + 1, by omega, .i ⟨_, _, rfl, hx3, hm3, hti3, by rw [hks]; exact hg.found hx hxp _⟩, rfl, by omega⟩
  · have hil : i = ks.length := by omega
    subst hil
    simp -implicitDefEqProofs only [op, ef, cl, sq, reduceIte, Int.reduceLT, Int.reduceLE, Int.reduceBEq, Int.reduceBNe, Int.reduceEq, Nat.reduceAdd, Nat.reduceLeDiff, Nat.reduceLT, Nat.reduceEqDiff, S1, h1', h6, h15, h16, h17, hlt]
    rw [List.take_length] at hg
    exact ⟨hx1, t, ps, rfl, hm, hti, hg⟩
end Go.Proofs.Ytpbilghnfldmiaa.Sx
end

/-! text ShardG -/
section
namespace Go.Proofs.Ytpbilghnfldmiaa.Sx
open Go.Rmp Go.Proofs.Ytpbilghnfldmiaa.Ir
set_option maxRecDepth 10000
theorem of9n (s : ByteArray) (p : Nat) (h1 : 1 ≤ p) (h2 : p ≤ 64) (H : Heap) (hs : s.size < 9223372036854775807) : W env (.call 9 [.str s, .int .i64 p]) H (Ret (.tup [.int .i64 (ofN s p : Nat), .int .i64 0]) H) := by
  have h := of9 s p H hs
  have hk : okP p = true := by simp [okP]; omega
  simpa only [ofV, hk, if_true, Int.toNat_natCast] using h
theorem of8n (s : ByteArray) (p : Nat) (h1 : 1 ≤ p) (h2 : p ≤ 64) (H : Heap) (hs : s.size < 9223372036854775807) : W env (.call 8 [.str s, .int .i64 p]) H (Ret (.tup [.int .i64 (ofN s p : Nat), .int .i64 0]) H) := by
  have h := of8 s p H hs
  have hk : okP p = true := by simp [okP]; omega
  simpa only [ofV, hk, if_true, Int.toNat_natCast] using h
/-- dealt so far: the partitions below q -/
structure GrpU {α : Type} (key : α → ByteArray) (p q : Nat) (ks : List α) (ps : List (Pt α)) : Prop where
  rise : RiseP ps
  item : ∀ x ∈ ps, x.part < q ∧ x.items = ks.filter (fun k => decide (ofN (key k) p = x.part)) ∧ x.items ≠ []
  all : ∀ k ∈ ks, ofN (key k) p < q → ∃ x ∈ ps, x.part = ofN (key k) p
theorem GrpU.grp {α : Type} {key : α → ByteArray} {p : Nat} {ks : List α} {ps : List (Pt α)} (h : GrpU key p p ks ps) (hp : 0 < p) : Grp key p ks ps := ⟨h.rise, h.item, fun k hk => h.all k hk (ofN_lt _ hp)⟩
theorem GrpU.len {α : Type} {key : α → ByteArray} {p q : Nat} {ks : List α} {ps : List (Pt α)} (h : GrpU key p q ks ps) (hq : q ≤ p) : ps.length ≤ p := by
  have : ∀ (l : List (Pt α)) (lo : Nat), RiseP l → (∀ x ∈ l, lo ≤ x.part ∧ x.part < q) → lo ≤ q → l.length ≤ q - lo := by
    intro l
    induction l with
    | nil => intro lo _ _ _; simp
    | cons x l ih =>
      intro lo hr hb _
      have hr' := List.pairwise_cons.1 hr
      have hx := hb x (by simp)
      have := ih (x.part + 1) hr'.2 (fun y hy => ⟨hr'.1 y hy, (hb y (by simp [hy])).2⟩) (by omega)
      simp; omega
  have h1 := this ps 0 h.rise (fun x hx => ⟨Nat.zero_le _, (h.item x hx).1⟩) (Nat.zero_le _)
  omega
theorem GrpU.skip {α : Type} {key : α → ByteArray} {p q : Nat} {ks : List α} {ps : List (Pt α)} (h : GrpU key p q ks ps) (h0 : ks.filter (fun k => decide (ofN (key k) p = q)) = []) : GrpU key p (q + 1) ks ps := ⟨h.rise, fun x hx => by obtain ⟨h1, h2, h3⟩ := h.item x hx; exact ⟨by omega, h2, h3⟩, fun k hk hlt => by
  by_cases e : ofN (key k) p = q
  · have := List.filter_eq_nil_iff.1 h0 k hk; simp [e] at this
  · exact h.all k hk (by omega)⟩
theorem GrpU.add {α : Type} {key : α → ByteArray} {p q : Nat} {ks : List α} {ps : List (Pt α)} (h : GrpU key p q ks ps) (kk : SK) (h0 : ks.filter (fun k => decide (ofN (key k) p = q)) ≠ []) : GrpU key p (q + 1) ks (ps ++ [⟨q, kk, ks.filter (fun k => decide (ofN (key k) p = q))⟩]) := by
  refine ⟨List.pairwise_append.2 ⟨h.rise, List.pairwise_singleton .., fun a ha b hb => ?_⟩, fun x hx => ?_, fun k hk hlt => ?_⟩
  · simp at hb; subst hb; exact (h.item a ha).1
  · rcases List.mem_append.1 hx with hx | hx
    · obtain ⟨h1, h2, h3⟩ := h.item x hx; exact ⟨by omega, h2, h3⟩
    · simp at hx; subst hx; exact ⟨by simp, rfl, h0⟩
  · by_cases e : ofN (key k) p = q
    · exact ⟨_, List.mem_append.2 (.inr (List.mem_singleton.2 rfl)), e.symm⟩
    · obtain ⟨x, hx, hxe⟩ := h.all k hk (by omega)
      exact ⟨x, by simp [hx], hxe⟩
def RefQ {α : Type} (e : α → List T) (key : α → ByteArray) (p : Nat) (ks : List α) (H : Heap) : Out → Heap → Prop := fun o H' => Ext H H' ∧ ∃ kw ps, o = .val (.tup [.sl kw (ps.map (encPt e)), .int .i64 0]) ∧ Grp key p ks ps
theorem ref14 (k : SK) (ks : List (ByteArray)) (p : Nat) (h1 : 1 ≤ p) (h2 : p ≤ 64) (H : Heap) (hl : ks.length ≤ 1048576) (hs : ∀ s ∈ ks, (s).size < 9223372036854775807) : W env (.call 14 [.sl k (ks.map eS), .int .i64 p]) H (RefQ eS id p ks H) := by
  refine W.fnI rfl rfl rfl ?_
  have g1 : ¬ ((p : Int) < 1) := by omega
  have g2 : ¬ ((64 : Int) < (p : Int)) := by omega
  have g3 : ¬ (p < 1) := by omega
  have g4 : ¬ (64 < p) := by omega
  simp -implicitDefEqProofs only [ir14, op, ef, cl, sq, reduceIte, Int.reduceLT, Int.reduceLE, Int.reduceBEq, Int.reduceBNe, Int.reduceEq, Nat.reduceAdd, Nat.reduceLeDiff, Nat.reduceLT, Nat.reduceEqDiff, S1, g1, g2, g3, g4]
  refine W.loopI (fun (q : Nat) R H' => At H' (fun H' => ∃ kw ps, R 6 = .sl kw (ps.map (encPt eS)) ∧ Ext H H' ∧ Apd H.length H' kw ∧ GrpU id p q ks ps) ∧ R 0 = .sl k (ks.map eS) ∧ R 1 = .int .i64 p ∧ R 7 = .int .i64 q ∧ q ≤ p) (fun q => p - q) 0 ⟨.i ⟨.nil, [], rfl, Ext.rfl', apd_nil _ _, List.Pairwise.nil, by simp, fun k _ h => by omega⟩, rfl, rfl, rfl, Nat.zero_le _⟩ ?_
  rintro q R H1 ⟨⟨kw, ps, h6, hx1, hap, hg⟩, h0, h1', h7, hq⟩
  by_cases hlt : q < p
  · have wsq := wrap_succ (show q < 9223372036854775807 by omega)
    simp -implicitDefEqProofs only [op, ef, cl, sq, reduceIte, Int.reduceLT, Int.reduceLE, Int.reduceBEq, Int.reduceBNe, Int.reduceEq, Nat.reduceAdd, Nat.reduceLeDiff, Nat.reduceLT, Nat.reduceEqDiff, S1, h0, h1', h6, h7, hlt]
    refine W.loopI (fun (i : Nat) R H' => At H' (fun H' => ∃ kl, R 8 = .sl kl (((ks.take i).filter (fun s => decide (ofN (id s) p = q))).map eS) ∧ Ext H1 H' ∧ Apd H1.length H' kl) ∧ R 0 = .sl k (ks.map eS) ∧ R 1 = .int .i64 p ∧ R 6 = .sl kw (ps.map (encPt eS)) ∧ R 7 = .int .i64 q ∧ R 9 = .int .i64 i ∧ i ≤ ks.length) (fun i => ks.length - i) 0 ⟨.i ⟨.nil, rfl, Ext.rfl', apd_nil _ _⟩, by simp -implicitDefEqProofs only [op, ef, cl, sq, reduceIte, Int.reduceLT, Int.reduceLE, Int.reduceBEq, Int.reduceBNe, Int.reduceEq, Nat.reduceAdd, Nat.reduceLeDiff, Nat.reduceLT, Nat.reduceEqDiff, S1, h0], by simp -implicitDefEqProofs only [op, ef, cl, sq, reduceIte, Int.reduceLT, Int.reduceLE, Int.reduceBEq, Int.reduceBNe, Int.reduceEq, Nat.reduceAdd, Nat.reduceLeDiff, Nat.reduceLT, Nat.reduceEqDiff, S1, h1'], by simp -implicitDefEqProofs only [op, ef, cl, sq, reduceIte, Int.reduceLT, Int.reduceLE, Int.reduceBEq, Int.reduceBNe, Int.reduceEq, Nat.reduceAdd, Nat.reduceLeDiff, Nat.reduceLT, Nat.reduceEqDiff, S1, h6], by simp -implicitDefEqProofs only [op, ef, cl, sq, reduceIte, Int.reduceLT, Int.reduceLE, Int.reduceBEq, Int.reduceBNe, Int.reduceEq, Nat.reduceAdd, Nat.reduceLeDiff, Nat.reduceLT, Nat.reduceEqDiff, S1, h7], rfl, Nat.zero_le _⟩ ?_
    rintro i R H2 ⟨⟨kl, e8, hx2, hapl⟩, e0, e1, e6, e7, e9, hi⟩
    by_cases hil : i < ks.length
    · obtain ⟨s, hsv⟩ := getP (l := ks) hil
      have wsi := wrap_succ (show i < 9223372036854775807 by omega)
      have hia := iadX (e := eS) (n := 1) (fun _ => rfl) (by decide) (k := k) hsv
      have hks := take_sn hsv
      simp -implicitDefEqProofs only [op, ef, cl, sq, reduceIte, Int.reduceLT, Int.reduceLE, Int.reduceBEq, Int.reduceBNe, Int.reduceEq, Nat.reduceAdd, Nat.reduceLeDiff, Nat.reduceLT, Nat.reduceEqDiff, S1, e0, e1, e9, List.length_map, hil, natOf_nat, hia, eS]
      refine callB_of _ _ _ _ _ _ _ _ (of9n s p h1 h2 _ (hs s (List.mem_of_getElem? hsv))) ?_
      rintro u H2 ⟨hu, rfl⟩
      cases hu
      by_cases he : ofN s p = q
      · have he' : ofN (id s) p = q := he
        have hall := all_map (enc := eS) (n := 1) (fun _ => rfl) ((ks.take i).filter (fun s => decide (ofN (id s) p = q)))
        obtain ⟨k', H', ha, hap', hst⟩ := app_ok (bytes := 16) (((ks.take i).filter (fun s => decide (ofN (id s) p = q))).map eS) [eS s] hapl hx2.len (by simp) (roomS (by have := List.length_filter_le (fun s => decide (ofN (id s) p = q)) (ks.take i); simp at this ⊢; omega) (by omega))
        simp -implicitDefEqProofs only [eS] at ha
        simp -implicitDefEqProofs only [op, ef, cl, sq, reduceIte, Int.reduceLT, Int.reduceLE, Int.reduceBEq, Int.reduceBNe, Int.reduceEq, Nat.reduceAdd, Nat.reduceLeDiff, Nat.reduceLT, Nat.reduceEqDiff, S1, e0, e1, e6, e7, e8, e9, he, natOf_nat, hia, eS, hall, ha, wsi]
        refine ⟨i + 1, by omega, .i ⟨k', ?_, hst.ext H1 (Nat.le_refl _) hx2, hap'⟩, by omega⟩
        simp [hks, List.filter_append, he', he, eS, T.erase]
      · have he' : ¬ (ofN (id s) p = q) := he
        simp -implicitDefEqProofs only [op, ef, cl, sq, reduceIte, Int.reduceLT, Int.reduceLE, Int.reduceBEq, Int.reduceBNe, Int.reduceEq, Nat.reduceAdd, Nat.reduceLeDiff, Nat.reduceLT, Nat.reduceEqDiff, S1, e0, e1, e6, e7, e8, e9, he, wsi]
        refine ⟨i + 1, by omega, .i ⟨kl, ?_, hx2, hapl⟩, by omega⟩
        simp [hks, List.filter_append, he', he]
    · have hie : i = ks.length := by omega
      subst hie
      rw [List.take_length] at e8
      have hxH := hx1.trans hx2
      have hap2 := hap.ext hx2
      by_cases hn : ks.filter (fun s => decide (ofN (id s) p = q)) = []
      · rw [hn] at e8
        simp -implicitDefEqProofs only [op, ef, cl, sq, reduceIte, Int.reduceLT, Int.reduceLE, Int.reduceBEq, Int.reduceBNe, Int.reduceEq, Nat.reduceAdd, Nat.reduceLeDiff, Nat.reduceLT, Nat.reduceEqDiff, S1, e0, e1, e6, e7, e8, e9, List.length_map, hil, List.map_nil, wsq]
        exact ⟨q + 1, by omega, .i ⟨kw, ps, rfl, hxH, hap2, hg.skip hn⟩, by omega⟩
      · have hpos : 0 < (ks.filter (fun s => decide (ofN (id s) p = q))).length := List.length_pos_iff.2 hn
        have hpos' : (0 : Int) < ((ks.filter (fun s => decide (ofN (id s) p = q))).length : Int) := by omega
        have hall := all_map (enc := encPt eS) (n := 2) (encPt_len eS) ps
        have hpl := hg.len hq
        obtain ⟨k', H', ha, hap', hst⟩ := app_ok (bytes := 32) (ps.map (encPt eS)) [[T.int .i64 q, .sl .arg ((ks.filter (fun s => decide (ofN (id s) p = q))).map eS)]] hap2 hxH.len (by simp) (roomS (by simp; omega) (by omega))
        simp -implicitDefEqProofs only [op, ef, cl, sq, reduceIte, Int.reduceLT, Int.reduceLE, Int.reduceBEq, Int.reduceBNe, Int.reduceEq, Nat.reduceAdd, Nat.reduceLeDiff, Nat.reduceLT, Nat.reduceEqDiff, S1, e0, e1, e6, e7, e8, e9, List.length_map, hil, hpos, hpos', hall, ha, T.erase, wsq]
        refine ⟨q + 1, by omega, .i ⟨k', ps ++ [⟨q, .arg, ks.filter (fun s => decide (ofN (id s) p = q))⟩], ?_, hst.ext H (Nat.le_refl _) hxH, hap', hg.add _ hn⟩, by omega⟩
        simp [encPt, T.erase]
  · have hqp : q = p := by omega
    subst hqp
    simp -implicitDefEqProofs only [op, ef, cl, sq, reduceIte, Int.reduceLT, Int.reduceLE, Int.reduceBEq, Int.reduceBNe, Int.reduceEq, Nat.reduceAdd, Nat.reduceLeDiff, Nat.reduceLT, Nat.reduceEqDiff, S1, h0, h1', h6, h7, hlt]
    exact ⟨hx1, kw, ps, rfl, hg.grp (by omega)⟩
theorem ref16 (k : SK) (ks : List (ByteArray × ByteArray)) (p : Nat) (h1 : 1 ≤ p) (h2 : p ≤ 64) (H : Heap) (hl : ks.length ≤ 1048576) (hs : ∀ s ∈ ks, (s.1).size < 9223372036854775807) : W env (.call 16 [.sl k (ks.map eP), .int .i64 p]) H (RefQ eP Prod.fst p ks H) := by
  refine W.fnI rfl rfl rfl ?_
  have g1 : ¬ ((p : Int) < 1) := by omega
  have g2 : ¬ ((64 : Int) < (p : Int)) := by omega
  have g3 : ¬ (p < 1) := by omega
  have g4 : ¬ (64 < p) := by omega
  simp -implicitDefEqProofs only [ir16, op, ef, cl, sq, reduceIte, Int.reduceLT, Int.reduceLE, Int.reduceBEq, Int.reduceBNe, Int.reduceEq, Nat.reduceAdd, Nat.reduceLeDiff, Nat.reduceLT, Nat.reduceEqDiff, S1, g1, g2, g3, g4]
  refine W.loopI (fun (q : Nat) R H' => At H' (fun H' => ∃ kw ps, R 6 = .sl kw (ps.map (encPt eP)) ∧ Ext H H' ∧ Apd H.length H' kw ∧ GrpU Prod.fst p q ks ps) ∧ R 0 = .sl k (ks.map eP) ∧ R 1 = .int .i64 p ∧ R 7 = .int .i64 q ∧ q ≤ p) (fun q => p - q) 0 ⟨.i ⟨.nil, [], rfl, Ext.rfl', apd_nil _ _, List.Pairwise.nil, by simp, fun k _ h => by omega⟩, rfl, rfl, rfl, Nat.zero_le _⟩ ?_
  rintro q R H1 ⟨⟨kw, ps, h6, hx1, hap, hg⟩, h0, h1', h7, hq⟩
  by_cases hlt : q < p
  · have wsq := wrap_succ (show q < 9223372036854775807 by omega)
    simp -implicitDefEqProofs only [op, ef, cl, sq, reduceIte, Int.reduceLT, Int.reduceLE, Int.reduceBEq, Int.reduceBNe, Int.reduceEq, Nat.reduceAdd, Nat.reduceLeDiff, Nat.reduceLT, Nat.reduceEqDiff, S1, h0, h1', h6, h7, hlt]
    refine W.loopI (fun (i : Nat) R H' => At H' (fun H' => ∃ kl, R 8 = .sl kl (((ks.take i).filter (fun s => decide (ofN (Prod.fst s) p = q))).map eP) ∧ Ext H1 H' ∧ Apd H1.length H' kl) ∧ R 0 = .sl k (ks.map eP) ∧ R 1 = .int .i64 p ∧ R 6 = .sl kw (ps.map (encPt eP)) ∧ R 7 = .int .i64 q ∧ R 9 = .int .i64 i ∧ i ≤ ks.length) (fun i => ks.length - i) 0 ⟨.i ⟨.nil, rfl, Ext.rfl', apd_nil _ _⟩, by simp -implicitDefEqProofs only [op, ef, cl, sq, reduceIte, Int.reduceLT, Int.reduceLE, Int.reduceBEq, Int.reduceBNe, Int.reduceEq, Nat.reduceAdd, Nat.reduceLeDiff, Nat.reduceLT, Nat.reduceEqDiff, S1, h0], by simp -implicitDefEqProofs only [op, ef, cl, sq, reduceIte, Int.reduceLT, Int.reduceLE, Int.reduceBEq, Int.reduceBNe, Int.reduceEq, Nat.reduceAdd, Nat.reduceLeDiff, Nat.reduceLT, Nat.reduceEqDiff, S1, h1'], by simp -implicitDefEqProofs only [op, ef, cl, sq, reduceIte, Int.reduceLT, Int.reduceLE, Int.reduceBEq, Int.reduceBNe, Int.reduceEq, Nat.reduceAdd, Nat.reduceLeDiff, Nat.reduceLT, Nat.reduceEqDiff, S1, h6], by simp -implicitDefEqProofs only [op, ef, cl, sq, reduceIte, Int.reduceLT, Int.reduceLE, Int.reduceBEq, Int.reduceBNe, Int.reduceEq, Nat.reduceAdd, Nat.reduceLeDiff, Nat.reduceLT, Nat.reduceEqDiff, S1, h7], rfl, Nat.zero_le _⟩ ?_
    rintro i R H2 ⟨⟨kl, e8, hx2, hapl⟩, e0, e1, e6, e7, e9, hi⟩
    by_cases hil : i < ks.length
    · obtain ⟨s, hsv⟩ := getP (l := ks) hil
      have wsi := wrap_succ (show i < 9223372036854775807 by omega)
      have hia := iadX (e := eP) (n := 2) (fun _ => rfl) (by decide) (k := k) hsv
      have hks := take_sn hsv
      simp -implicitDefEqProofs only [op, ef, cl, sq, reduceIte, Int.reduceLT, Int.reduceLE, Int.reduceBEq, Int.reduceBNe, Int.reduceEq, Nat.reduceAdd, Nat.reduceLeDiff, Nat.reduceLT, Nat.reduceEqDiff, S1, e0, e1, e9, List.length_map, hil, natOf_nat, hia, eP]
      refine callB_of _ _ _ _ _ _ _ _ (of9n s.1 p h1 h2 _ (hs s (List.mem_of_getElem? hsv))) ?_
      rintro u H2 ⟨hu, rfl⟩
      cases hu
      by_cases he : ofN s.1 p = q
      · have he' : ofN (Prod.fst s) p = q := he
        have hall := all_map (enc := eP) (n := 2) (fun _ => rfl) ((ks.take i).filter (fun s => decide (ofN (Prod.fst s) p = q)))
        obtain ⟨k', H', ha, hap', hst⟩ := app_ok (bytes := 32) (((ks.take i).filter (fun s => decide (ofN (Prod.fst s) p = q))).map eP) [eP s] hapl hx2.len (by simp) (roomS (by have := List.length_filter_le (fun s => decide (ofN (Prod.fst s) p = q)) (ks.take i); simp at this ⊢; omega) (by omega))
        simp -implicitDefEqProofs only [eP] at ha
        simp -implicitDefEqProofs only [op, ef, cl, sq, reduceIte, Int.reduceLT, Int.reduceLE, Int.reduceBEq, Int.reduceBNe, Int.reduceEq, Nat.reduceAdd, Nat.reduceLeDiff, Nat.reduceLT, Nat.reduceEqDiff, S1, e0, e1, e6, e7, e8, e9, he, natOf_nat, hia, eP, hall, ha, wsi]
        refine ⟨i + 1, by omega, .i ⟨k', ?_, hst.ext H1 (Nat.le_refl _) hx2, hap'⟩, by omega⟩
        simp [hks, List.filter_append, he', he, eP, T.erase]
      · have he' : ¬ (ofN (Prod.fst s) p = q) := he
        simp -implicitDefEqProofs only [op, ef, cl, sq, reduceIte, Int.reduceLT, Int.reduceLE, Int.reduceBEq, Int.reduceBNe, Int.reduceEq, Nat.reduceAdd, Nat.reduceLeDiff, Nat.reduceLT, Nat.reduceEqDiff, S1, e0, e1, e6, e7, e8, e9, he, wsi]
        refine ⟨i + 1, by omega, .i ⟨kl, ?_, hx2, hapl⟩, by omega⟩
        simp [hks, List.filter_append, he', he]
    · have hie : i = ks.length := by omega
      subst hie
      rw [List.take_length] at e8
      have hxH := hx1.trans hx2
      have hap2 := hap.ext hx2
      by_cases hn : ks.filter (fun s => decide (ofN (Prod.fst s) p = q)) = []
      · rw [hn] at e8
        simp -implicitDefEqProofs only [op, ef, cl, sq, reduceIte, Int.reduceLT, Int.reduceLE, Int.reduceBEq, Int.reduceBNe, Int.reduceEq, Nat.reduceAdd, Nat.reduceLeDiff, Nat.reduceLT, Nat.reduceEqDiff, S1, e0, e1, e6, e7, e8, e9, List.length_map, hil, List.map_nil, wsq]
        exact ⟨q + 1, by omega, .i ⟨kw, ps, rfl, hxH, hap2, hg.skip hn⟩, by omega⟩
      · have hpos : 0 < (ks.filter (fun s => decide (ofN (Prod.fst s) p = q))).length := List.length_pos_iff.2 hn
        have hpos' : (0 : Int) < ((ks.filter (fun s => decide (ofN (Prod.fst s) p = q))).length : Int) := by omega
        have hall := all_map (enc := encPt eP) (n := 2) (encPt_len eP) ps
        have hpl := hg.len hq
        obtain ⟨k', H', ha, hap', hst⟩ := app_ok (bytes := 32) (ps.map (encPt eP)) [[T.int .i64 q, .sl .arg ((ks.filter (fun s => decide (ofN (Prod.fst s) p = q))).map eP)]] hap2 hxH.len (by simp) (roomS (by simp; omega) (by omega))
        simp -implicitDefEqProofs only [op, ef, cl, sq, reduceIte, Int.reduceLT, Int.reduceLE, Int.reduceBEq, Int.reduceBNe, Int.reduceEq, Nat.reduceAdd, Nat.reduceLeDiff, Nat.reduceLT, Nat.reduceEqDiff, S1, e0, e1, e6, e7, e8, e9, List.length_map, hil, hpos, hpos', hall, ha, T.erase, wsq]
        refine ⟨q + 1, by omega, .i ⟨k', ps ++ [⟨q, .arg, ks.filter (fun s => decide (ofN (Prod.fst s) p = q))⟩], ?_, hst.ext H (Nat.le_refl _) hxH, hap', hg.add _ hn⟩, by omega⟩
        simp [encPt, T.erase]
  · have hqp : q = p := by omega
    subst hqp
    simp -implicitDefEqProofs only [op, ef, cl, sq, reduceIte, Int.reduceLT, Int.reduceLE, Int.reduceBEq, Int.reduceBNe, Int.reduceEq, Nat.reduceAdd, Nat.reduceLeDiff, Nat.reduceLT, Nat.reduceEqDiff, S1, h0, h1', h6, h7, hlt]
    exact ⟨hx1, kw, ps, rfl, hg.grp (by omega)⟩
end Go.Proofs.Ytpbilghnfldmiaa.Sx
end

/-! text ShardH -/
section
namespace Go.Proofs.Ytpbilghnfldmiaa.Sx
open Go.Rmp Go.Proofs.Ytpbilghnfldmiaa.Ir
set_option maxRecDepth 10000
theorem p_all (a b : ByteArray) : hasAll [Ty1.str, .str] [.str a, .str b] = true := rfl
theorem p_eq (a b c d : ByteArray) : eqCells [.str a, .str b] [.str c, .str d] = some (decide (a = c) && decide (b = d)) := by
  simp [eqCells, eqSc, strEq_eq]
theorem p_ne {x y : ByteArray × ByteArray} (h : x ≠ y) : (decide (x.1 = y.1) && decide (x.2 = y.2)) = false := by
  cases hh : (decide (x.1 = y.1) && decide (x.2 = y.2)) with
  | false => rfl
  | true => simp at hh; exact absurd (Prod.ext hh.1 hh.2) h
theorem same13 (k k' : SK) (a b : List ByteArray) (H : Heap) (hl : a.length < 9223372036854775807) : W env (.call 13 [.sl k (a.map eS), .sl k' (b.map eS)]) H (Ret (.bool (decide (a = b))) H) := by
  refine W.fnI rfl rfl rfl ?_
  by_cases hab : a.length = b.length
  · simp -implicitDefEqProofs only [ir13, op, ef, cl, sq, reduceIte, Int.reduceLT, Int.reduceLE, Int.reduceBEq, Int.reduceBNe, Int.reduceEq, Nat.reduceAdd, Nat.reduceLeDiff, Nat.reduceLT, Nat.reduceEqDiff, S1, List.length_map, hab]
    refine W.loopI (fun (i : Nat) R H' => H' = H ∧ R 0 = .sl k (a.map eS) ∧ R 1 = .sl k' (b.map eS) ∧ R 5 = .int .i64 i ∧ i ≤ a.length ∧ ∀ j, j < i → a[j]? = b[j]?) (fun i => a.length - i) 0 ⟨rfl, rfl, rfl, rfl, Nat.zero_le _, fun j h => by omega⟩ ?_
    rintro i R _ ⟨rfl, h0, h1, h5, hi, he⟩
    by_cases hlt : i < a.length
    · obtain ⟨x, hx⟩ := getP (l := a) hlt
      obtain ⟨y, hy⟩ := getP (l := b) (i := i) (by omega)
      have ws := wrap_succ (show i < 9223372036854775807 by omega)
      have ix := iadX (e := eS) (n := 1) (fun _ => rfl) (by decide) (k := k) hx
      have iy := iadX (e := eS) (n := 1) (fun _ => rfl) (by decide) (k := k') hy
      by_cases hxy : x = y
      · subst hxy
        simp -implicitDefEqProofs only [op, ef, cl, sq, reduceIte, Int.reduceLT, Int.reduceLE, Int.reduceBEq, Int.reduceBNe, Int.reduceEq, Nat.reduceAdd, Nat.reduceLeDiff, Nat.reduceLT, Nat.reduceEqDiff, S1, h0, h1, h5, List.length_map, hlt, natOf_nat, ix, iy, eS, p_all, p_eq, ws]
        refine ⟨i + 1, by omega, rfl, by omega, fun j hj => ?_⟩
        by_cases e : j = i
        · subst e; rw [hx, hy]
        · exact he j (by omega)
      · have hne : a ≠ b := by rintro rfl; rw [hx] at hy; cases hy; exact hxy rfl
        have hq := hxy
        simp -implicitDefEqProofs only [op, ef, cl, sq, reduceIte, Int.reduceLT, Int.reduceLE, Int.reduceBEq, Int.reduceBNe, Int.reduceEq, Nat.reduceAdd, Nat.reduceLeDiff, Nat.reduceLT, Nat.reduceEqDiff, S1, h0, h1, h5, List.length_map, hlt, natOf_nat, ix, iy, eS, p_all, p_eq, hq, hne]
    · have : a = b := List.ext_getElem? fun j => by
        by_cases hj : j < a.length
        · exact he j (by omega)
        · rw [List.getElem?_eq_none (by omega), List.getElem?_eq_none (by omega)]
      subst this
      simp -implicitDefEqProofs only [op, ef, cl, sq, reduceIte, Int.reduceLT, Int.reduceLE, Int.reduceBEq, Int.reduceBNe, Int.reduceEq, Nat.reduceAdd, Nat.reduceLeDiff, Nat.reduceLT, Nat.reduceEqDiff, S1, h0, h1, h5, List.length_map, hlt]
  · have hne : a ≠ b := by rintro rfl; exact hab rfl
    simp -implicitDefEqProofs only [ir13, op, ef, cl, sq, reduceIte, Int.reduceLT, Int.reduceLE, Int.reduceBEq, Int.reduceBNe, Int.reduceEq, Nat.reduceAdd, Nat.reduceLeDiff, Nat.reduceLT, Nat.reduceEqDiff, S1, List.length_map, hab, hne]
theorem same17 (k k' : SK) (a b : List (ByteArray × ByteArray)) (H : Heap) (hl : a.length < 9223372036854775807) : W env (.call 17 [.sl k (a.map eP), .sl k' (b.map eP)]) H (Ret (.bool (decide (a = b))) H) := by
  refine W.fnI rfl rfl rfl ?_
  by_cases hab : a.length = b.length
  · simp -implicitDefEqProofs only [ir17, op, ef, cl, sq, reduceIte, Int.reduceLT, Int.reduceLE, Int.reduceBEq, Int.reduceBNe, Int.reduceEq, Nat.reduceAdd, Nat.reduceLeDiff, Nat.reduceLT, Nat.reduceEqDiff, S1, List.length_map, hab]
    refine W.loopI (fun (i : Nat) R H' => H' = H ∧ R 0 = .sl k (a.map eP) ∧ R 1 = .sl k' (b.map eP) ∧ R 5 = .int .i64 i ∧ i ≤ a.length ∧ ∀ j, j < i → a[j]? = b[j]?) (fun i => a.length - i) 0 ⟨rfl, rfl, rfl, rfl, Nat.zero_le _, fun j h => by omega⟩ ?_
    rintro i R _ ⟨rfl, h0, h1, h5, hi, he⟩
    by_cases hlt : i < a.length
    · obtain ⟨x, hx⟩ := getP (l := a) hlt
      obtain ⟨y, hy⟩ := getP (l := b) (i := i) (by omega)
      have ws := wrap_succ (show i < 9223372036854775807 by omega)
      have ix := iadX (e := eP) (n := 2) (fun _ => rfl) (by decide) (k := k) hx
      have iy := iadX (e := eP) (n := 2) (fun _ => rfl) (by decide) (k := k') hy
      by_cases hxy : x = y
      · subst hxy
        simp -implicitDefEqProofs only [op, ef, cl, sq, reduceIte, Int.reduceLT, Int.reduceLE, Int.reduceBEq, Int.reduceBNe, Int.reduceEq, Nat.reduceAdd, Nat.reduceLeDiff, Nat.reduceLT, Nat.reduceEqDiff, S1, h0, h1, h5, List.length_map, hlt, natOf_nat, ix, iy, eP, p_all, p_eq, ws]
        refine ⟨i + 1, by omega, rfl, by omega, fun j hj => ?_⟩
        by_cases e : j = i
        · subst e; rw [hx, hy]
        · exact he j (by omega)
      · have hne : a ≠ b := by rintro rfl; rw [hx] at hy; cases hy; exact hxy rfl
        have hq := (p_ne hxy)
        simp -implicitDefEqProofs only [op, ef, cl, sq, reduceIte, Int.reduceLT, Int.reduceLE, Int.reduceBEq, Int.reduceBNe, Int.reduceEq, Nat.reduceAdd, Nat.reduceLeDiff, Nat.reduceLT, Nat.reduceEqDiff, S1, h0, h1, h5, List.length_map, hlt, natOf_nat, ix, iy, eP, p_all, p_eq, hq, hne]
    · have : a = b := List.ext_getElem? fun j => by
        by_cases hj : j < a.length
        · exact he j (by omega)
        · rw [List.getElem?_eq_none (by omega), List.getElem?_eq_none (by omega)]
      subst this
      simp -implicitDefEqProofs only [op, ef, cl, sq, reduceIte, Int.reduceLT, Int.reduceLE, Int.reduceBEq, Int.reduceBNe, Int.reduceEq, Nat.reduceAdd, Nat.reduceLeDiff, Nat.reduceLT, Nat.reduceEqDiff, S1, h0, h1, h5, List.length_map, hlt]
  · have hne : a ≠ b := by rintro rfl; exact hab rfl
    simp -implicitDefEqProofs only [ir17, op, ef, cl, sq, reduceIte, Int.reduceLT, Int.reduceLE, Int.reduceBEq, Int.reduceBNe, Int.reduceEq, Nat.reduceAdd, Nat.reduceLeDiff, Nat.reduceLT, Nat.reduceEqDiff, S1, List.length_map, hab, hne]
/-! the document's example -/
def tB : ByteArray := ⟨#[98]⟩
def tA : ByteArray := ⟨#[97]⟩
theorem of_b64 : ofN tB 64 = 37 := by decide +kernel
theorem of_b4 : ofN tB 4 = 1 := by decide +kernel
theorem of_a4 : ofN tA 4 = 0 := by decide +kernel
theorem of_e4 : ofN ⟨#[]⟩ 4 = 1 := by decide +kernel
theorem grp0 : Grp id 4 [tB, tA, ⟨#[]⟩, tB] [⟨0, .nil, [tA]⟩, ⟨1, .nil, [tB, ⟨#[]⟩, tB]⟩] := by
  refine ⟨by simp [RiseP], ?_, ?_⟩
  · intro q hq
    simp at hq
    rcases hq with rfl | rfl
    · simp [List.filter, of_b4, of_a4, of_e4]
    · simp [List.filter, of_b4, of_a4, of_e4]
  · intro k hk
    simp -implicitDefEqProofs only [List.mem_cons, List.not_mem_nil, or_false] at hk
    rcases hk with rfl | rfl | rfl | rfl
    · simp [of_b4]
    · simp [of_a4]
    · simp [of_e4]
    · simp [of_b4]
theorem grp1 {ps : List (Pt ByteArray)} (h : Grp id 4 [tB, tA, ⟨#[]⟩, tB] ps) : ∃ k0 k1, ps = [⟨0, k0, [tA]⟩, ⟨1, k1, [tB, ⟨#[]⟩, tB]⟩] := by
  have e := h.uniq grp0
  match ps, e with
  | [a, b], e =>
    simp at e
    obtain ⟨⟨e1, e2⟩, e3, e4⟩ := e
    exact ⟨a.kk, b.kk, by rw [← e1, ← e2, ← e3, ← e4]⟩
  | [], e => simp at e
  | [_], e => simp at e
  | _ :: _ :: _ :: _, e => simp at e
end Go.Proofs.Ytpbilghnfldmiaa.Sx
end

/-! text ShardI -/
section
namespace Go.Proofs.Ytpbilghnfldmiaa.Sx
open Go.Rmp Go.Proofs.Ytpbilghnfldmiaa.Ir
set_option maxRecDepth 10000
theorem known10 (H : Heap) : W env (.call 10 []) H (RetG (.bool true) H) := by
  refine W.fnI rfl rfl rfl ?_
  simp -implicitDefEqProofs only [ir10, op, ef, cl, sq, reduceIte, Int.reduceLT, Int.reduceLE, Int.reduceBEq, Int.reduceBNe, Int.reduceEq, Nat.reduceAdd, Nat.reduceLeDiff, Nat.reduceLT, Nat.reduceEqDiff, S1]
  refine callB_of _ _ _ _ _ _ _ _ (group12 _ [tB, tA, ⟨#[]⟩, tB] 4 (by decide) (by decide) _ (by decide) (fun s hs => ?_)) ?_
  · simp -implicitDefEqProofs only [List.mem_cons, List.not_mem_nil, or_false] at hs
    rcases hs with rfl | rfl | rfl | rfl <;> decide
  rintro u H1 ⟨hx1, t, ps, hu, hm, _, hg⟩
  cases hu
  obtain ⟨k0, k1, rfl⟩ := grp1 hg
  rcases hm with ⟨h, _⟩ | ⟨b, rfl, hb, hbn⟩
  · cases h
  simp -implicitDefEqProofs only [op, ef, cl, sq, reduceIte, Int.reduceLT, Int.reduceLE, Int.reduceBEq, Int.reduceBNe, Int.reduceEq, Nat.reduceAdd, Nat.reduceLeDiff, Nat.reduceLT, Nat.reduceEqDiff, S1]
  refine callB_of _ _ _ _ _ _ _ _ (of8n tB 64 (by decide) (by decide) _ (by decide)) ?_
  rintro u H1 ⟨hu, rfl⟩
  cases hu
  have hb : H1[b]? = some (.cells [.int .i64 0, .sl k0 [[.str tA]], .int .i64 1, .sl k1 [[.str tB], [.str ⟨#[]⟩], [.str tB]]]) := hb
  have n0 : natOf (.int .i64 0) = some 0 := rfl
  have n1 : natOf (.int .i64 1) = some 1 := rfl
  have c37 : ((37 : Nat) : Int) = 37 := rfl
  have c2 : (([(⟨0, k0, [tA]⟩ : Pt ByteArray), ⟨1, k1, [tB, ⟨#[]⟩, tB]⟩].length : Nat) : Int) = 2 := rfl
  simp -implicitDefEqProofs only [op, ef, cl, sq, reduceIte, Int.reduceLT, Int.reduceLE, Int.reduceBEq, Int.reduceBNe, Int.reduceEq, Nat.reduceAdd, Nat.reduceLeDiff, Nat.reduceLT, Nat.reduceEqDiff, S1, Nat.reduceMul, of_b64, c37, c2, n0, n1, iad_m, hb]
  refine callB_of _ _ _ _ _ _ _ _ (same13 _ _ [tA] [tA] _ (by decide)) ?_
  rintro u H1 ⟨hu, rfl⟩
  cases hu
  simp -implicitDefEqProofs only [op, ef, cl, sq, reduceIte, Int.reduceLT, Int.reduceLE, Int.reduceBEq, Int.reduceBNe, Int.reduceEq, Nat.reduceAdd, Nat.reduceLeDiff, Nat.reduceLT, Nat.reduceEqDiff, S1, Nat.reduceMul, n0, n1, iad_m, hb]
  refine callB_of _ _ _ _ _ _ _ _ (same13 _ _ [tB, ⟨#[]⟩, tB] [tB, ⟨#[]⟩, tB] _ (by decide)) ?_
  rintro u H1 ⟨hu, rfl⟩
  cases hu
  simp -implicitDefEqProofs only [op, ef, cl, sq, reduceIte, Int.reduceLT, Int.reduceLE, Int.reduceBEq, Int.reduceBNe, Int.reduceEq, Nat.reduceAdd, Nat.reduceLeDiff, Nat.reduceLT, Nat.reduceEqDiff, S1]
  exact ⟨rfl, hx1⟩
theorem asks3 (key : ByteArray) (p : Int) (H : Heap) (hs : key.size < 9223372036854775807) : W env (.call 3 [.str key, .int .i64 p]) H (fun o _ => o = .val (.bool true)) := by
  refine W.fnI rfl rfl rfl ?_
  simp -implicitDefEqProofs only [ir3, op, ef, cl, sq, reduceIte, Int.reduceLT, Int.reduceLE, Int.reduceBEq, Int.reduceBNe, Int.reduceEq, Nat.reduceAdd, Nat.reduceLeDiff, Nat.reduceLT, Nat.reduceEqDiff, S1]
  refine callB_of _ _ _ _ _ _ _ _ (of8 key p _ hs) ?_
  rintro u H1 ⟨hu, rfl⟩
  cases hu
  simp -implicitDefEqProofs only [op, ef, cl, sq, reduceIte, Int.reduceLT, Int.reduceLE, Int.reduceBEq, Int.reduceBNe, Int.reduceEq, Nat.reduceAdd, Nat.reduceLeDiff, Nat.reduceLT, Nat.reduceEqDiff, S1, ofV]
  refine callB_of _ _ _ _ _ _ _ _ (of9 key p _ hs) ?_
  rintro u H1 ⟨hu, rfl⟩
  cases hu
  simp -implicitDefEqProofs only [op, ef, cl, sq, reduceIte, Int.reduceLT, Int.reduceLE, Int.reduceBEq, Int.reduceBNe, Int.reduceEq, Nat.reduceAdd, Nat.reduceLeDiff, Nat.reduceLT, Nat.reduceEqDiff, S1, ofV]
  refine callB_of _ _ _ _ _ _ _ _ (known10 _) ?_
  rintro u H2 ⟨hu, _⟩
  cases hu
  simp -implicitDefEqProofs only [op, ef, cl, sq, reduceIte, Int.reduceLT, Int.reduceLE, Int.reduceBEq, Int.reduceBNe, Int.reduceEq, Nat.reduceAdd, Nat.reduceLeDiff, Nat.reduceLT, Nat.reduceEqDiff, S1]
end Go.Proofs.Ytpbilghnfldmiaa.Sx
end

/-! text ShardR -/
section
namespace Go.Proofs.Ytpbilghnfldmiaa
open Go.ChangeShapes Go.WideShapes Go.ChangeAt Go.RowKit
namespace Law
theorem own : ownKnob Try.prog.godebug = none := by kernel_rfl
theorem kids : Kids Try.prog (· < Try.prog.types.size) := kids_rows (by kernel_rfl) (by kernel_rfl)
noncomputable def hzB : Bool := (List.range Try.prog.types.size).all fun t => match Try.prog.underlying t with
  | some (.slice e) => decide (0 < Try.prog.cellsOf e)
  | _ => true
theorem hzB_ok : hzB = true := by kernel_rfl
theorem hz : ∀ t e, t < Try.prog.types.size → Try.prog.underlying t = some (.slice e) → 0 < Try.prog.cellsOf e := fun t e ht h => by
  have := (List.all_eq_true.1 hzB_ok) t (List.mem_range.2 ht)
  rw [h] at this
  simpa using this
mutual
theorem bulk_eq {H : Type} : ∀ d : DataW H, Go.Rmp.bulkW d = Rows.uptoBulk d
  | .lit l => by cases l <;> simp [Go.Rmp.bulkW, Rows.uptoBulk]
  | .nil => by simp [Go.Rmp.bulkW, Rows.uptoBulk]
  | .ptr d => by simp [Go.Rmp.bulkW, Rows.uptoBulk, bulk_eq d]
  | .slice elems spare => by simp [Go.Rmp.bulkW, Rows.uptoBulk, bulks_eq elems, bulks_eq spare]
  | .agg parts => by simp [Go.Rmp.bulkW, Rows.uptoBulk, bulks_eq parts]
  | .iface _ d => by simp [Go.Rmp.bulkW, Rows.uptoBulk, bulk_eq d]
  | .map entries => by simp [Go.Rmp.bulkW, Rows.uptoBulk, bulkE_eq entries]
  | .held _ => by simp [Go.Rmp.bulkW, Rows.uptoBulk]
theorem bulks_eq {H : Type} : ∀ l : List (DataW H), Go.Rmp.bulkAllW l = Rows.uptoBulkAll l
  | [] => by simp [Go.Rmp.bulkAllW, Rows.uptoBulkAll]
  | d :: r => by simp [Go.Rmp.bulkAllW, Rows.uptoBulkAll, bulk_eq d, bulks_eq r]
theorem bulkE_eq {H : Type} : ∀ l : List (Lit × DataW H), Go.Rmp.bulkEntriesW l = Rows.uptoBulkEntries l
  | [] => by simp [Go.Rmp.bulkEntriesW, Rows.uptoBulkEntries]
  | x :: r => by simp [Go.Rmp.bulkEntriesW, Rows.uptoBulkEntries, bulkEn_eq x, bulkE_eq r]
theorem bulkEn_eq {H : Type} : ∀ x : Lit × DataW H, Go.Rmp.bulkEntryW x = Rows.uptoBulkEntry x
  | (l, d) => by cases l <;> simp [Go.Rmp.bulkEntryW, Rows.uptoBulkEntry, bulk_eq d]
end
theorem bulk_ok {H : Type} {ds : List (DataW H)} (h : Rows.uptoSmall H ds = true) : Go.Rmp.bulkAllW ds ≤ 1048576 := by
  rw [bulks_eq]; simpa [Rows.uptoSmall] using h
/-! the rows -/
theorem hasS {B : Nat} {t : Go.Rmp.T} (h : Go.Rmp.HasSh B .str t) : ∃ s, t = .str s ∧ s.size ≤ B := by
  cases h with | str h hB => exact ⟨_, rfl, hB⟩
theorem hasI {B : Nat} {t : Go.Rmp.T} (h : Go.Rmp.HasSh B (.int .i64) t) : ∃ n : Int, t = .int .i64 n := by
  cases h with | int h => exact ⟨_, rfl⟩
theorem shardAsks_w (as' : List Go.Rmp.T) (hs : Go.Rmp.HasShs 1048576 [Go.Rmp.Sh.str, .int .i64] as') : Go.Rmp.W Ir.env (.call 3 as') [] (fun o _ => o = .val (.bool true)) := by
  cases hs with | cons h1 hs =>
  cases hs with | cons h2 hs =>
  cases hs
  obtain ⟨s, rfl, n1⟩ := hasS h1
  obtain ⟨p, rfl⟩ := hasI h2
  exact Sx.asks3 s p [] (by omega)

theorem shardAsks_fn (H : Type) : ∀ ds : List (DataW H), ds.length = Try.f3.params.toList.length → Rows.shardAsksSpec.fn H ds = { results := [.lit (.bool true)], args := ds } := by
  have hn : Try.f3.params.toList.length = 2 := by kernel_rfl
  rw [hn]
  intro ds hds
  cases ds with | nil => simp at hds | cons d0 ds =>
  cases ds with | nil => simp at hds | cons d1 ds =>
  cases ds with | cons => simp at hds | nil =>
  rfl
set_option maxRecDepth 100000 in
theorem shardAsks_lifted (os : Os) (started : os.Started) (H : Type) (enc : TypeId × Value → H) (F : Stop.Interp) :
    ReturnsInHanded {} Try.checked os 3 .any ((Rows.OpenSpec.upto Rows.shardAsksSpec).pre6 enc Try.prog Try.f3 Rows.shardAsksUptoRow.domain false) (((Rows.OpenSpec.upto Rows.shardAsksSpec).at F).post enc Try.prog Try.f3 false true false false) := by
  refine returnsInHanded_of_cond (C := Try.checked) (s := Rows.OpenSpec.upto Rows.shardAsksSpec) (k := Rows.uptoSmall) rfl own started (by kernel_rfl) Try.func3
    (OpenSpec.witness (enc := enc) (C := Try.checked) (s := Rows.OpenSpec.upto Rows.shardAsksSpec) (k := Rows.uptoSmall) rfl false ⟨#[], #[.string ⟨#[]⟩, .int .i64 0], []⟩ 8 (by kernel_rfl) (by kernel_rfl) (by kernel_rfl)
      (x := ([.lit (.string []), .lit (.int .i64 0)], [], [])) (by kernel_rfl) rfl (by kernel_rfl)) ?_
  intro W base args ds gs before hval hW _ hk _
  exact Go.Rmp.law_contract (s := Rows.shardAsksSpec) (shs := [Go.Rmp.Sh.str, .int .i64]) (B := 1048576) (tb := Try.f3.resultTypes[0]!) Ir.envOk kids hz (by kernel_rfl) (by intro t ht; exact of_decide_eq_true ((List.all_eq_true.1 (show Try.f3.params.toList.all (fun t => decide (t < Try.prog.types.size)) = true by kernel_rfl)) t ht)) (by kernel_rfl) (by kernel_rfl) rfl (shardAsks_fn H) shardAsks_w base args ds gs before hval hW (bulk_ok hk)
theorem shardAsks_over : Rows.shardAsksUptoRow.holds Try.pinned (Rows.OpenSpec.upto Rows.shardAsksSpec) :=
  OpenClaim.holds_of_cond 3 Try.f3 rfl rfl rfl rfl rfl rfl rfl ⟨rfl, rfl, rfl, rfl, rfl⟩ rfl rfl rfl rfl rfl (by kernel_rfl) Try.func3 (by kernel_rfl)
    (of_decide_eq_true (by kernel_rfl)) (by unfold Func.isWrapper; first | (rw [if_pos (by decide +kernel)]; kernel_rfl) | (rw [if_neg (by decide +kernel)]; exact ⟨rfl, rfl⟩))
    (fun os started H enc _ F => shardAsks_lifted os started H enc F)
theorem shardAsks_proved : Rows.ShardAsksUptoSaid := shardAsks_over
end Law
end Go.Proofs.Ytpbilghnfldmiaa
end

/-! text ShardJ -/
section
namespace Go.Proofs.Ytpbilghnfldmiaa.Sx
open Go.Rmp Go.Proofs.Ytpbilghnfldmiaa.Ir
set_option maxRecDepth 10000
theorem cMono {E : Env} {f : Nat} {az : List T} {H : Heap} {Q Q' : Out → Heap → Prop} (h : W E (.call f az) H Q) (hi : ∀ o H', Q o H' → Q' o H') : W E (.call f az) H Q' := by
  cases h with
  | fn M hf hr hn h1 h2 => exact .fn M hf hr hn h1 fun o H' hm => by obtain ⟨R', h, v, hv, hq⟩ := h2 o H' hm; exact ⟨R', h, v, hv, hi _ _ hq⟩
  | fnr M hf hn h1 h2 => exact .fnr M hf hn h1 fun o H' hm => by obtain ⟨R', bs, a1, a2, a3, a4, v, a5, a6⟩ := h2 o H' hm; exact ⟨R', bs, a1, a2, a3, a4, v, a5, hi _ _ a6⟩
  | revl i M hx h1 h2 => exact .revl i M hx h1 fun v H' hm => hi _ _ (h2 v H' hm)
  | frz M h1 h2 => exact .frz M h1 fun o H' hm => by obtain ⟨v, b, cs, a1, a2, a3, a4⟩ := h2 o H' hm; exact ⟨v, b, cs, a1, a2, a3, hi _ _ a4⟩
  | prim h => exact .prim (E.mono _ _ _ _ _ h fun v H' hq => hi _ _ hq)
/-! any number of partitions -/
def Dealt {α : Type} (key : α → ByteArray) (p : Int) (ks : List α) (ps : List (Pt α)) : Prop := if okP p = true then Grp key p.toNat ks ps else ps = []
theorem Dealt.uniq {α : Type} {key : α → ByteArray} {p : Int} {ks : List α} {ps qs : List (Pt α)} (h : Dealt key p ks ps) (h' : Dealt key p ks qs) : ps.map (fun x => (x.part, x.items)) = qs.map (fun x => (x.part, x.items)) := by
  unfold Dealt at h h'
  split at h
  · rename_i hp; rw [if_pos hp] at h'; exact h.uniq h'
  · rename_i hp; rw [if_neg hp] at h'; rw [h, h']
theorem Dealt.len {α : Type} {key : α → ByteArray} {p : Int} {ks : List α} {ps : List (Pt α)} (h : Dealt key p ks ps) : ps.length ≤ 64 := by
  unfold Dealt at h
  split at h
  · rename_i hp
    obtain ⟨n, rfl, h1, h2⟩ := okP_t hp
    have := h.len
    simp at this; omega
  · rw [h]; simp
theorem Dealt.items {α : Type} {key : α → ByteArray} {p : Int} {ks : List α} {ps : List (Pt α)} (h : Dealt key p ks ps) {x : Pt α} (hx : x ∈ ps) : x.items.length ≤ ks.length := by
  unfold Dealt at h
  split at h
  · rw [(h.item x hx).2.1]; exact List.length_filter_le ..
  · rw [h] at hx; simp at hx
def AllQ {α : Type} (e : α → List T) (key : α → ByteArray) (p : Int) (ks : List α) (H : Heap) : Out → Heap → Prop := fun o H' => Ext H H' ∧ ∃ t ps, o = .val (.tup [t, .int .i64 (if okP p then 0 else 1)]) ∧ Mut (encPt e) 2 H.length H' t ps ∧ TInv H.length H' ps ∧ Dealt key p ks ps
def AllR {α : Type} (e : α → List T) (key : α → ByteArray) (p : Int) (ks : List α) (H : Heap) : Out → Heap → Prop := fun o H' => Ext H H' ∧ ∃ kw ps, o = .val (.tup [.sl kw (ps.map (encPt e)), .int .i64 (if okP p then 0 else 1)]) ∧ Dealt key p ks ps
theorem all12 (k : SK) (ks : List ByteArray) (p : Int) (H : Heap) (hl : ks.length ≤ 1048576) (hs : ∀ s ∈ ks, (s).size < 9223372036854775807) : W env (.call 12 [.sl k (ks.map eS), .int .i64 p]) H (AllQ eS id p ks H) := by
  cases h : okP p
  · refine W.fnI rfl rfl rfl ?_
    simp -implicitDefEqProofs only [ir12, op, ef, cl, sq, reduceIte, Int.reduceLT, Int.reduceLE, Int.reduceBEq, Int.reduceBNe, Int.reduceEq, Nat.reduceAdd, Nat.reduceLeDiff, Nat.reduceLT, Nat.reduceEqDiff, S1]
    refine callB_of _ _ _ _ _ _ _ _ (may19 p _) ?_
    rintro u H1 ⟨hu, rfl⟩
    have hu : u = .bool (okP p) := by cases hu; rfl
    subst hu
    simp -implicitDefEqProofs only [op, ef, cl, sq, reduceIte, Int.reduceLT, Int.reduceLE, Int.reduceBEq, Int.reduceBNe, Int.reduceEq, Nat.reduceAdd, Nat.reduceLeDiff, Nat.reduceLT, Nat.reduceEqDiff, S1, h]
    exact ⟨Ext.rfl', _, [], by simp -implicitDefEqProofs only [op, ef, cl, sq, reduceIte, Int.reduceLT, Int.reduceLE, Int.reduceBEq, Int.reduceBNe, Int.reduceEq, Nat.reduceAdd, Nat.reduceLeDiff, Nat.reduceLT, Nat.reduceEqDiff, S1, h, Bool.false_eq_true], mut_nil _ _ _ _, ⟨by simp, List.Pairwise.nil⟩, by simp [Dealt, h]⟩
  · obtain ⟨n, rfl, h1, h2⟩ := okP_t h
    refine cMono (group12 k ks n h1 h2 H hl hs) ?_
    rintro o H' ⟨hx, t, ps, ho, hm, ht, hg⟩
    exact ⟨hx, t, ps, by rw [ho, h]; rfl, hm, ht, by rw [Dealt, if_pos h]; exact hg⟩
theorem all15 (k : SK) (ks : List (ByteArray × ByteArray)) (p : Int) (H : Heap) (hl : ks.length ≤ 1048576) (hs : ∀ s ∈ ks, (s.1).size < 9223372036854775807) : W env (.call 15 [.sl k (ks.map eP), .int .i64 p]) H (AllQ eP Prod.fst p ks H) := by
  cases h : okP p
  · refine W.fnI rfl rfl rfl ?_
    simp -implicitDefEqProofs only [ir15, op, ef, cl, sq, reduceIte, Int.reduceLT, Int.reduceLE, Int.reduceBEq, Int.reduceBNe, Int.reduceEq, Nat.reduceAdd, Nat.reduceLeDiff, Nat.reduceLT, Nat.reduceEqDiff, S1]
    refine callB_of _ _ _ _ _ _ _ _ (may19 p _) ?_
    rintro u H1 ⟨hu, rfl⟩
    have hu : u = .bool (okP p) := by cases hu; rfl
    subst hu
    simp -implicitDefEqProofs only [op, ef, cl, sq, reduceIte, Int.reduceLT, Int.reduceLE, Int.reduceBEq, Int.reduceBNe, Int.reduceEq, Nat.reduceAdd, Nat.reduceLeDiff, Nat.reduceLT, Nat.reduceEqDiff, S1, h]
    exact ⟨Ext.rfl', _, [], by simp -implicitDefEqProofs only [op, ef, cl, sq, reduceIte, Int.reduceLT, Int.reduceLE, Int.reduceBEq, Int.reduceBNe, Int.reduceEq, Nat.reduceAdd, Nat.reduceLeDiff, Nat.reduceLT, Nat.reduceEqDiff, S1, h, Bool.false_eq_true], mut_nil _ _ _ _, ⟨by simp, List.Pairwise.nil⟩, by simp [Dealt, h]⟩
  · obtain ⟨n, rfl, h1, h2⟩ := okP_t h
    refine cMono (group15 k ks n h1 h2 H hl hs) ?_
    rintro o H' ⟨hx, t, ps, ho, hm, ht, hg⟩
    exact ⟨hx, t, ps, by rw [ho, h]; rfl, hm, ht, by rw [Dealt, if_pos h]; exact hg⟩
theorem all14 (k : SK) (ks : List ByteArray) (p : Int) (H : Heap) (hl : ks.length ≤ 1048576) (hs : ∀ s ∈ ks, (s).size < 9223372036854775807) : W env (.call 14 [.sl k (ks.map eS), .int .i64 p]) H (AllR eS id p ks H) := by
  cases h : okP p
  · refine W.fnI rfl rfl rfl ?_
    by_cases h1 : p < 1
    · simp -implicitDefEqProofs only [ir14, op, ef, cl, sq, reduceIte, Int.reduceLT, Int.reduceLE, Int.reduceBEq, Int.reduceBNe, Int.reduceEq, Nat.reduceAdd, Nat.reduceLeDiff, Nat.reduceLT, Nat.reduceEqDiff, S1, h1]
      exact ⟨Ext.rfl', .nil, [], by simp -implicitDefEqProofs only [op, ef, cl, sq, reduceIte, Int.reduceLT, Int.reduceLE, Int.reduceBEq, Int.reduceBNe, Int.reduceEq, Nat.reduceAdd, Nat.reduceLeDiff, Nat.reduceLT, Nat.reduceEqDiff, S1, h, Bool.false_eq_true], by simp [Dealt, h]⟩
    · have h2 : 64 < p := by simp [okP] at h; omega
      simp -implicitDefEqProofs only [ir14, op, ef, cl, sq, reduceIte, Int.reduceLT, Int.reduceLE, Int.reduceBEq, Int.reduceBNe, Int.reduceEq, Nat.reduceAdd, Nat.reduceLeDiff, Nat.reduceLT, Nat.reduceEqDiff, S1, h1, h2]
      exact ⟨Ext.rfl', .nil, [], by simp -implicitDefEqProofs only [op, ef, cl, sq, reduceIte, Int.reduceLT, Int.reduceLE, Int.reduceBEq, Int.reduceBNe, Int.reduceEq, Nat.reduceAdd, Nat.reduceLeDiff, Nat.reduceLT, Nat.reduceEqDiff, S1, h, Bool.false_eq_true], by simp [Dealt, h]⟩
  · obtain ⟨n, rfl, h1, h2⟩ := okP_t h
    refine cMono (ref14 k ks n h1 h2 H hl hs) ?_
    rintro o H' ⟨hx, kw, ps, ho, hg⟩
    exact ⟨hx, kw, ps, by rw [ho, h]; rfl, by rw [Dealt, if_pos h]; exact hg⟩
theorem all16 (k : SK) (ks : List (ByteArray × ByteArray)) (p : Int) (H : Heap) (hl : ks.length ≤ 1048576) (hs : ∀ s ∈ ks, (s.1).size < 9223372036854775807) : W env (.call 16 [.sl k (ks.map eP), .int .i64 p]) H (AllR eP Prod.fst p ks H) := by
  cases h : okP p
  · refine W.fnI rfl rfl rfl ?_
    by_cases h1 : p < 1
    · simp -implicitDefEqProofs only [ir16, op, ef, cl, sq, reduceIte, Int.reduceLT, Int.reduceLE, Int.reduceBEq, Int.reduceBNe, Int.reduceEq, Nat.reduceAdd, Nat.reduceLeDiff, Nat.reduceLT, Nat.reduceEqDiff, S1, h1]
      exact ⟨Ext.rfl', .nil, [], by simp -implicitDefEqProofs only [op, ef, cl, sq, reduceIte, Int.reduceLT, Int.reduceLE, Int.reduceBEq, Int.reduceBNe, Int.reduceEq, Nat.reduceAdd, Nat.reduceLeDiff, Nat.reduceLT, Nat.reduceEqDiff, S1, h, Bool.false_eq_true], by simp [Dealt, h]⟩
    · have h2 : 64 < p := by simp [okP] at h; omega
      simp -implicitDefEqProofs only [ir16, op, ef, cl, sq, reduceIte, Int.reduceLT, Int.reduceLE, Int.reduceBEq, Int.reduceBNe, Int.reduceEq, Nat.reduceAdd, Nat.reduceLeDiff, Nat.reduceLT, Nat.reduceEqDiff, S1, h1, h2]
      exact ⟨Ext.rfl', .nil, [], by simp -implicitDefEqProofs only [op, ef, cl, sq, reduceIte, Int.reduceLT, Int.reduceLE, Int.reduceBEq, Int.reduceBNe, Int.reduceEq, Nat.reduceAdd, Nat.reduceLeDiff, Nat.reduceLT, Nat.reduceEqDiff, S1, h, Bool.false_eq_true], by simp [Dealt, h]⟩
  · obtain ⟨n, rfl, h1, h2⟩ := okP_t h
    refine cMono (ref16 k ks n h1 h2 H hl hs) ?_
    rintro o H' ⟨hx, kw, ps, ho, hg⟩
    exact ⟨hx, kw, ps, by rw [ho, h]; rfl, by rw [Dealt, if_pos h]; exact hg⟩
end Go.Proofs.Ytpbilghnfldmiaa.Sx
end
