/- Part of a proof of a law of this seat: the machine of plain values, its simulation, and the contracts of the functions that the law reaches. Conditions: none beyond the given row. -/
import Derived.Test.YtpbilghnfldmiaaM1
import Derived.OpenShut
import Derived.RowKit3
import Derived.ChangeSame
import Derived.ReadAgain
import Derived.ChangeCalls
import Derived.Deep.Frames
import Derived.Laws.Strings
import Derived.Test.YtpbilghnfldmiaaProg
import Derived.KernelRfl
open Int renaming reduceLT → q6, reduceLE → q7, reduceBEq → q8, reduceBNe → q9, reduceEq → j3
open Nat renaming reduceAdd → j4, reduceLeDiff → j5, reduceLT → j6, reduceEqDiff → j7
set_option linter.unusedSimpArgs false
set_option linter.unusedVariables false
set_option linter.unnecessarySimpa false
set_option maxHeartbeats 4000000
section
namespace Go.Rmp
inductive Sh where
  | int (k : IntKind) | str | bool
  | sl (l : List Sh)
  | ag (l : List Sh)
def shFs (P : Program) (f : TypeId → Option (List Sh)) : List Field → Nat → Option (List Sh)
  | [], _ => some []
  | x :: xs, off => match f x.type with
    | some l => if x.offset = off ∧ l.length = P.cellsOf x.type then (shFs P f xs (off + l.length)).map (l ++ ·) else none
    | none => none
def arrFs (k : Nat) (e : TypeId) (c : Nat) : List Field := (List.range k).map fun i => { (default : Field) with type := e, offset := i * c }
def shOf (P : Program) : Nat → TypeId → Option (List Sh)
  | 0, _ => none
  | n + 1, t => match P.underlying t with
    | some .bool => some [.bool]
    | some (.int k) => some [.int k]
    | some .string => some [.str]
    | some (.slice e) => match shOf P n e with
      | some l => if l.length = P.cellsOf e ∧ l.length ≠ 0 then some [.sl l] else none
      | none => none
    | some (.struct fs) => match shFs P (shOf P n) fs.toList 0 with
      | some l => if l.length = P.cellsOf t then some l else none
      | none => none
    | some (.array k e) => match shFs P (shOf P n) (arrFs k e (P.cellsOf e)) 0 with
      | some l => if l.length = P.cellsOf t then some l else none
      | none => none
    | _ => none
inductive HasSh (B : Nat) : Sh → T → Prop
  | int {k n} (h : (Lit.int k n).wf = true) : HasSh B (.int k) (.int k n)
  | bool (b) : HasSh B .bool (.bool b)
  | str {s : ByteArray} (h : s.size ≤ maxLen) (hB : s.size ≤ B) : HasSh B .str (.str s)
  | nil {l} : HasSh B (.sl l) (.sl .nil [])
  | sl {l es} (hl : es.length ≤ maxLen) (hB : es.length ≤ B) (h0 : ∀ c ∈ es, c.length = l.length) (h : ∀ c ∈ es, ∀ (j : Nat) (s : Sh) (t : T), l[j]? = some s → c[j]? = some t → HasSh B s t) : HasSh B (.sl l) (.sl .arg es)
  | ag {l cs} (hl : cs.length = l.length) (h : ∀ (j : Nat) (s : Sh) (t : T), l[j]? = some s → cs[j]? = some t → HasSh B s t) : HasSh B (.ag l) (.agg cs)
mutual
def T.bk : T → Nat
  | .str s => s.size + 1
  | .sl _ es => bkE es + 1
  | _ => 1
def bkL : List T → Nat
  | [] => 0
  | t :: ts => t.bk + bkL ts
def bkE : List (List T) → Nat
  | [] => 0
  | c :: es => bkL c + bkE es
end
theorem bkL_app (a b : List T) : bkL (a ++ b) = bkL a + bkL b := by
  induction a with
  | nil => simp [bkL]
  | cons t a ih => simp only [List.cons_append, bkL, ih]; omega
mutual
def bulkW {H : Type} : DataW H → Nat
  | .lit (.string bytes) => bytes.length + 1
  | .lit _ => 1
  | .nil => 1
  | .ptr d => bulkW d + 1
  | .slice elems spare => bulkAllW elems + bulkAllW spare + 1
  | .agg parts => bulkAllW parts + 1
  | .iface _ d => bulkW d + 1
  | .map entries => bulkEntriesW entries + 1
  | .held _ => 1
def bulkAllW {H : Type} : List (DataW H) → Nat
  | [] => 0
  | d :: r => bulkW d + bulkAllW r
def bulkEntriesW {H : Type} : List (Lit × DataW H) → Nat
  | [] => 0
  | x :: r => bulkEntryW x + bulkEntriesW r
def bulkEntryW {H : Type} : Lit × DataW H → Nat
  | (.string bytes, d) => bytes.length + bulkW d + 1
  | (_, d) => bulkW d + 1
end
theorem bulk_one {H : Type} (d : DataW H) : 1 ≤ bulkW d := by
  cases d with
  | lit l => cases l <;> simp [bulkW]
  | _ => simp [bulkW]
theorem bulk_part {H : Type} {d : DataW H} {l : List (DataW H)} (h : d ∈ l) : bulkW d ≤ bulkAllW l := by
  induction l with
  | nil => cases h
  | cons x r ih =>
    simp only [bulkAllW]
    rcases List.mem_cons.1 h with rfl | h
    · omega
    · have := ih h; omega
theorem bkE_le {H : Type} : ∀ (es : List (List T)) (ds : List (DataW H)), es.length ≤ ds.length → (∀ (i : Nat) c d, es[i]? = some c → ds[i]? = some d → bkL c ≤ bulkW d) → bkE es ≤ bulkAllW ds
  | [], _, _, _ => by simp [bkE]
  | c :: es, [], h, _ => by simp at h
  | c :: es, d :: ds, h, hk => by
    have h1 := hk 0 c d rfl rfl
    have h2 := bkE_le es ds (by simpa using h) fun i c d a b => hk (i + 1) c d (by simpa using a) (by simpa using b)
    simp only [bkE, bulkAllW]; omega
theorem bulk_len {H : Type} (l : List (DataW H)) : l.length ≤ bulkAllW l := by
  induction l with
  | nil => simp
  | cons x r ih => have := bulk_one x; simp only [bulkAllW, List.length_cons]; omega
def g0 (P : Program) (W : World) : Ctx := ⟨fun _ => none, fun r _ => if r < W.heap.size then .imm else .free, fun _ _ => none, fun n c k => ∃ an, compC P n an false k = some c⟩
theorem sr0 (P : Program) (W : World) : SR W (g0 P W) [] W where
  size := Nat.le_refl _
  old _ _ := rfl
  imm0 r o h := by simp [g0, h]
  fresh r o h := by simp only [g0]; rw [if_neg (by omega)]
  dom b x h := by simp [g0] at h
  domt t e x h := by simp [g0] at h
  blk b x h := by simp at h
  env := ⟨rfl, rfl⟩
theorem ck0 (P : Program) (W : World) : CkAll P (g0 P W) := fun _ _ _ => Iff.rfl
theorem list_of {α : Type} {Q : Nat → α → Prop} : ∀ (n : Nat), (∀ i, i < n → ∃ c, Q i c) → ∃ l : List α, l.length = n ∧ ∀ (i : Nat) (c : α), l[i]? = some c → Q i c
  | 0, _ => ⟨[], rfl, by simp⟩
  | n + 1, h => by
    obtain ⟨l, hl, hq⟩ := list_of n fun i hi => h i (by omega)
    obtain ⟨c, hc⟩ := h n (by omega)
    refine ⟨l ++ [c], by simp [hl], fun i d hd => ?_⟩
    by_cases hi : i < n
    · rw [List.getElem?_append_left (by omega)] at hd; exact hq i d hd
    · rw [List.getElem?_append_right (by omega)] at hd
      have : i = n := by
        have := (List.getElem?_eq_some_iff.1 hd).1; simp at this; omega
      subst this; simp [hl] at hd; subst hd; exact hc
section
variable {H : Type} {enc : TypeId × Value → H} {P : Program} {W : World} {held : Bool} {B : Nat}
theorem cells_at {a : Addr} {n : Nat} {cs : List Value} (h : W.cells? 0 a n = some cs) : cs.length = n ∧ ∀ (j : Nat) (v : Value), cs[j]? = some v → W.cell? (a.add j) = some v := by
  unfold World.cells? at h
  rw [if_pos (Nat.zero_le _)] at h
  have key : ∀ (n : Nat) (cs : List Value), (List.range n).mapM (fun i => W.cell? (a.add i)) = some cs → cs.length = n ∧ ∀ (j : Nat) (v : Value), cs[j]? = some v → W.cell? (a.add j) = some v := by
    intro n
    induction n with
    | zero => intro cs h; simp at h; subst h; simp
    | succ n ih =>
      intro cs h
      rw [List.range_succ, List.mapM_append] at h
      cases h1 : (List.range n).mapM (fun i => W.cell? (a.add i)) with
      | none => simp [h1] at h
      | some l =>
        cases h2 : W.cell? (a.add n) with
        | none => simp [h1, h2] at h
        | some v =>
          simp [h1, h2] at h
          subst h
          obtain ⟨k1, k2⟩ := ih l h1
          refine ⟨by simp [k1], fun j u hj => ?_⟩
          by_cases hjn : j < n
          · rw [List.getElem?_append_left (by omega)] at hj; exact k2 j u hj
          · rw [List.getElem?_append_right (by omega)] at hj
            have : j = n := by
              have := (List.getElem?_eq_some_iff.1 hj).1; simp at this; omega
            subst this; simp [k1] at hj; subst hj; exact h2
  exact key n cs h
def Reads (enc : TypeId × Value → H) (P : Program) (W : World) (held : Bool) (B : Nat) (t : TypeId) (l : List Sh) : Prop :=
  ∀ fuel cs d ps, DataW.trod enc P W 0 (fun _ => true) held fuel t cs = some (d, ps) → bulkW d ≤ B → cs.length = l.length ∧ ∃ ts : List T, VRs (g0 P W) W ts cs ∧ ones ts ∧ (∀ (j : Nat) (s : Sh) (t : T), l[j]? = some s → ts[j]? = some t → HasSh B s t) ∧ bkL ts ≤ bulkW d
theorem reads_fields {f : TypeId → Option (List Sh)} {n : Nat} {cs : List Value} : ∀ (fs : List Field) (off : Nat) (l : List Sh) (xs : List (DataW H × List MemPlace)), shFs P f fs off = some l → (∀ x ∈ fs, ∀ l', f x.type = some l' → Reads enc P W held B x.type l') →
    xs.length = fs.length → (∀ (i : Nat) (x : Field), fs[i]? = some x → DataW.trod enc P W 0 (fun _ => true) held n x.type ((cs.drop x.offset).take (P.cellsOf x.type)) = xs[i]?) → (∀ x ∈ xs, bulkW x.1 ≤ B) → off + l.length ≤ cs.length →
    ∃ ts : List T, VRs (g0 P W) W ts ((cs.drop off).take l.length) ∧ ones ts ∧ (∀ (j : Nat) (s : Sh) (t : T), l[j]? = some s → ts[j]? = some t → HasSh B s t) ∧ bkL ts ≤ bulkAllW (xs.map (·.1))
  | [], off, l, xs, h, _, _, _, _, _ => by
    simp only [shFs, Option.some.injEq] at h; subst h
    exact ⟨[], by simpa using VRs.nil, by simp [ones], by simp, by simp [bkL]⟩
  | x :: fs, off, l, xs, h, hr, hl, ht, hb, hle => by
    simp only [shFs] at h
    split at h
    · rename_i l1 h1
      split at h
      · rename_i hc
        simp only [Option.map_eq_some_iff] at h
        obtain ⟨l2, h2, rfl⟩ := h
        cases xs with
        | nil => simp at hl
        | cons y xs =>
          have t0 := ht 0 x rfl
          simp only [List.getElem?_cons_zero] at t0
          obtain ⟨d, ps⟩ := y
          obtain ⟨a1, ts1, a2, a3, a4, a5⟩ := hr x (by simp) l1 h1 n _ d ps t0 (hb (d, ps) (by simp))
          obtain ⟨ts2, b2, b3, b4, b5⟩ := reads_fields fs (off + l1.length) l2 xs h2 (fun z hz => hr z (by simp [hz])) (by simpa using hl) (fun i z hz => by have := ht (i + 1) z (by simpa using hz); simpa using this) (fun z hz => hb z (by simp [hz])) (by simp at hle; omega)
          have e1 : (cs.drop off).take (l1 ++ l2).length = (cs.drop x.offset).take (P.cellsOf x.type) ++ (cs.drop (off + l1.length)).take l2.length := by
            rw [hc.1, ← hc.2, List.length_append, List.take_add, List.drop_drop]
          have hlen1 : ts1.length = l1.length := by rw [a2.1, a1]
          refine ⟨ts1 ++ ts2, by rw [e1]; exact a2.append b2, fun t ht => ?_, fun j s t hs ht => ?_, by rw [bkL_app]; simp only [List.map_cons, bulkAllW]; omega⟩
          · rcases List.mem_append.1 ht with h | h
            · exact a3 t h
            · exact b3 t h
          · by_cases hj : j < l1.length
            · rw [List.getElem?_append_left hj] at hs
              rw [List.getElem?_append_left (by omega)] at ht
              exact a4 j s t hs ht
            · rw [List.getElem?_append_right (by omega)] at hs
              rw [List.getElem?_append_right (by omega), hlen1] at ht
              exact b4 _ s t hs ht
      · cases h
    · cases h
theorem imm_of {r o : Nat} {v : Value} (h : W.cell? ⟨r, o, none⟩ = some v) : Imm (g0 P W) W r o v := ⟨by simp [g0, cell_lt h], h⟩
theorem reads : ∀ (n : Nat) (t : TypeId) (l : List Sh), shOf P n t = some l → Reads enc P W held B t l
  | 0, _, _, h => by simp [shOf] at h
  | n + 1, t, l, h => by
    intro fuel cs d ps hd hb
    simp only [shOf] at h
    split at h
    · rename_i hu; cases h
      obtain ⟨b, rfl, hx⟩ := DataW.trod_bool hu hd
      exact ⟨rfl, [.bool b], VRs.cons (.bool b) VRs.nil, by simp [ones, T.one], fun j s t hs ht => by cases j with
        | zero => simp at hs ht; subst hs; subst ht; exact .bool b
        | succ j => simp at hs, by have := bulk_one d; simp only [bkL, T.bk]; omega⟩
    · rename_i k hu; cases h
      obtain ⟨m, rfl, hx, hw⟩ := DataW.trod_int hu hd
      exact ⟨rfl, [.int k m], VRs.cons (.int k m) VRs.nil, by simp [ones, T.one], fun j s t hs ht => by cases j with
        | zero => simp at hs ht; subst hs; subst ht; exact .int hw
        | succ j => simp at hs, by have := bulk_one d; simp only [bkL, T.bk]; omega⟩
    · rename_i hu; cases h
      obtain ⟨s, rfl, hx, hw⟩ := DataW.trod_string hu hd
      cases hx
      exact ⟨rfl, [.str s], VRs.cons (.str s) VRs.nil, by simp [ones, T.one], fun j s' t hs ht => by cases j with
        | zero => simp at hs ht; subst hs; subst ht; exact .str hw (by simp [bulkW] at hb; have : s.data.size = s.size := rfl; omega)
        | succ j => simp at hs, by simp only [bkL, T.bk, bulkW]; have : s.data.size = s.size := rfl; simp⟩
    · rename_i e hu
      split at h
      · rename_i le he
        split at h
        · rename_i hc
          cases h
          have ih := reads n e le he
          rcases DataW.trod_slice hu hd with ⟨rfl, hx⟩ | ⟨a, len, cap, elems, rest, m, _, rfl, hx, _, h1, h2, h3, h4, h5, _⟩
          · exact ⟨rfl, [.sl .nil []], VRs.cons .slnil VRs.nil, by simp [ones, T.one], fun j s t hs ht => by cases j with
              | zero => simp at hs ht; subst hs; subst ht; exact .nil
              | succ j => simp at hs, by have := bulk_one d; simp only [bkL, T.bk, bkE]; omega⟩
          · cases hx
            have hbe : ∀ x ∈ elems, bulkW x.1 ≤ B := fun x hx => by
              have := bulk_part (List.mem_map_of_mem (f := (·.1)) hx); simp only [bulkW] at hb; omega
            have hlB : len ≤ B := by
              have := bulk_len (elems.map (·.1)); simp only [bulkW] at hb; simp at this; omega
            have hel : ∀ i, i < len → ∃ c : List T, c.length = le.length ∧ ∃ us, W.cells? 0 (a.add (i * P.cellsOf e)) (P.cellsOf e) = some us ∧ VRs (g0 P W) W c us ∧ ones c ∧ (∀ (j : Nat) (s : Sh) (t : T), le[j]? = some s → c[j]? = some t → HasSh B s t) ∧ ∀ d, (elems.map (·.1))[i]? = some d → bkL c ≤ bulkW d := by
              intro i hi
              have hk := h4 i hi
              have hi' : i < elems.length := by omega
              rw [List.getElem?_eq_getElem hi'] at hk
              obtain ⟨us, k1, k2⟩ := Option.bind_eq_some_iff.1 hk
              obtain ⟨q1, ts, q2, q3, q4, q5⟩ := ih m us elems[i].1 elems[i].2 k2 (hbe _ (List.getElem_mem hi'))
              exact ⟨ts, by rw [q2.1, q1], us, k1, q2, q3, q4, fun d hd => by rw [List.getElem?_map, List.getElem?_eq_getElem hi'] at hd; simp only [Option.map_some, Option.some.injEq] at hd; subst hd; exact q5⟩
            obtain ⟨es, he1, he2⟩ := list_of len hel
            have hsh : HasSh B (.sl le) (.sl .arg es) := .sl (by omega) (by omega) (fun c hc => by
              obtain ⟨i, hi, rfl⟩ := List.getElem_of_mem hc
              exact (he2 i _ (List.getElem?_eq_getElem hi)).1) (fun c hc => by
              obtain ⟨i, hi, rfl⟩ := List.getElem_of_mem hc
              obtain ⟨_, _, _, _, _, q, _⟩ := he2 i _ (List.getElem?_eq_getElem hi)
              exact q)
            have hvr : VR (g0 P W) W (.sl .arg es) (.slice (some a) len cap) := by
              by_cases hcap : cap = 0
              · have : len = 0 := by omega
                subst this; subst hcap
                have : es = [] := List.eq_nil_of_length_eq_zero he1
                subst this; exact .slarg _
              · have hspot : a.spot = none := by
                  have hcell : ∃ us, W.cells? 0 (a.add (0 * P.cellsOf e)) (P.cellsOf e) = some us := by
                    by_cases hl : 0 < len
                    · obtain ⟨_, _, us, k, _⟩ := hel 0 hl; exact ⟨us, k⟩
                    · have h0 : len = 0 := by omega
                      obtain ⟨k1, k2⟩ := h5 rfl
                      have := k2 0 (by omega)
                      have hr : 0 < rest.length := by omega
                      rw [List.getElem?_eq_getElem hr, h0] at this
                      obtain ⟨us, k3, _⟩ := Option.bind_eq_some_iff.1 this
                      exact ⟨us, by simpa using k3⟩
                  obtain ⟨us, hus⟩ := hcell
                  obtain ⟨k1, k2⟩ := cells_at hus
                  have hpos : 0 < us.length := by omega
                  have hc0 := k2 0 us[0] (List.getElem?_eq_getElem hpos)
                  unfold World.cell? at hc0
                  split at hc0
                  · split at hc0
                    · cases hc0
                    · rename_i hsp; simpa [Addr.add] using hsp
                  · cases hc0
                obtain ⟨r, o, sp⟩ := a
                simp only at hspot; subst hspot
                rw [← he1]
                have hn : ∀ c ∈ es, c.length = le.length := fun c hc => by
                  obtain ⟨i, hi, rfl⟩ := List.getElem_of_mem hc
                  exact (he2 i _ (List.getElem?_eq_getElem hi)).1
                have hcell : ∀ (i j : Nat) (c : List T) (t : T), es[i]? = some c → c[j]? = some t → ∃ v, W.cell? ⟨r, o + i * le.length + j, none⟩ = some v ∧ VR (g0 P W) W t v ∧ t.one = true := by
                  intro i j c t hi hj
                  obtain ⟨q1, us, q2, q3, q4, _⟩ := he2 i c hi
                  obtain ⟨k1, k2⟩ := cells_at q2
                  have hju : j < us.length := by rw [← q3.1]; exact (List.getElem?_eq_some_iff.1 hj).1
                  refine ⟨us[j], ?_, q3.2 j t _ hj (List.getElem?_eq_getElem hju), q4 t (List.mem_of_getElem? hj)⟩
                  have := k2 j us[j] (List.getElem?_eq_getElem hju)
                  rw [← hc.1, add_mk, add_mk] at this
                  exact this
                refine .sl (n := le.length) (fun i j => (W.cell? ⟨r, o + i * le.length + j, none⟩).getD undef) trivial (by omega) hn (fun i j c t hi hj => ?_) (fun i j c t hi hj => ?_)
                · obtain ⟨v, q1, q2, q3⟩ := hcell i j c t hi hj
                  exact ⟨q3, by rw [q1]; exact imm_of q1⟩
                · obtain ⟨v, q1, q2, q3⟩ := hcell i j c t hi hj
                  rw [q1]; exact q2
            exact ⟨rfl, [.sl .arg es], VRs.cons hvr VRs.nil, by simp [ones, T.one], fun j s t hs ht => by cases j with
              | zero => simp at hs ht; subst hs; subst ht; exact hsh
              | succ j => simp at hs, by
              have hbk := bkE_le es (elems.map (·.1)) (by simp; omega) fun i c d hc hd => by
                obtain ⟨_, _, _, _, _, _, q⟩ := he2 i c hc
                exact q d hd
              simp only [bkL, T.bk, bulkW]; omega⟩
        · cases h
      · cases h
    · rename_i fs hu
      split at h
      · rename_i l' hl'
        split at h
        · rename_i hc
          cases h
          obtain ⟨xs, m, _, hx, k1, k2, k3⟩ := DataW.trod_struct hu hd
          cases hx
          have hbe : ∀ x ∈ xs, bulkW x.1 ≤ B := fun x hx => by
            have := bulk_part (List.mem_map_of_mem (f := (·.1)) hx); simp only [bulkW] at hb; omega
          obtain ⟨ts, a1, a2, a3, a4⟩ := reads_fields (n := m) (cs := cs) fs.toList 0 l xs hl' (fun x _ l2 h2 => reads n x.type l2 h2) (by simpa using k2) (fun i x hi => k3 i x (by simpa using hi)) hbe (by omega)
          have e1 : (cs.drop 0).take l.length = cs := by rw [List.drop_zero, hc, ← k1]; simp
          rw [e1] at a1
          exact ⟨by omega, ts, a1, a2, a3, by simp only [bulkW]; omega⟩
        · cases h
      · cases h
    · rename_i k e hu
      split at h
      · rename_i l' hl'
        split at h
        · rename_i hc
          cases h
          obtain ⟨xs, m, _, hx, k1, k2, k3⟩ := DataW.trod_array hu hd
          cases hx
          have hbe : ∀ x ∈ xs, bulkW x.1 ≤ B := fun x hx => by
            have := bulk_part (List.mem_map_of_mem (f := (·.1)) hx); simp only [bulkW] at hb; omega
          obtain ⟨ts, a1, a2, a3, a4⟩ := reads_fields (n := m) (cs := cs) (arrFs k e (P.cellsOf e)) 0 l xs hl' (fun x hx l2 h2 => by
            obtain ⟨i, _, rfl⟩ := List.mem_map.1 hx; exact reads n e l2 h2) (by rw [k2]; simp [arrFs]) (fun i x hi => by
            simp only [arrFs, List.getElem?_map, Option.map_eq_some_iff] at hi
            obtain ⟨j, hj, rfl⟩ := hi
            obtain ⟨h1, h2⟩ := List.getElem?_eq_some_iff.1 hj
            rw [List.getElem_range] at h2
            subst h2
            exact k3 i (by simpa using h1)) hbe (by omega)
          have e1 : (cs.drop 0).take l.length = cs := by rw [List.drop_zero, hc, ← k1]; simp
          rw [e1] at a1
          exact ⟨by omega, ts, a1, a2, a3, by simp only [bulkW]; omega⟩
        · cases h
      · cases h
    · cases h
def shArg (P : Program) (t : TypeId) : Option Sh := match P.underlying t with
  | some .bool | some (.int _) | some .string | some (.slice _) => match shOf P 9 t with
    | some [s] => some s
    | _ => none
  | some (.struct _) | some (.array _ _) => match shOf P 9 t with
    | some l => some (.ag l)
    | none => none
  | _ => none
def shArgs (P : Program) : List TypeId → Option (List Sh)
  | [] => some []
  | t :: ts => match shArg P t, shArgs P ts with
    | some s, some l => some (s :: l)
    | _, _ => none
inductive HasShs (B : Nat) : List Sh → List T → Prop
  | nil : HasShs B [] []
  | cons {s t ss ts} (h : HasSh B s t) (hs : HasShs B ss ts) : HasShs B (s :: ss) (t :: ts)
theorem read_arg {base : Nat} {t : TypeId} {s : Sh} {v : Value} {d : DataW H} {p : List MemPlace} (h : shArg P t = some s) (hv : Value.okWide P W .any base t v) (hf : DataW.Trod enc P W 0 (fun _ => true) held t v d p) (hB : bulkW d ≤ B) :
    ∃ u : T, VR (g0 P W) W u v ∧ HasSh B s u ∧ u.bk ≤ bulkW d := by
  obtain ⟨fuel, hf⟩ := hf
  have one : (∀ cs, v ≠ .agg cs) → v.cells.toList = [v] := by
    intro h; cases v <;> first | rfl | exact absurd rfl (h _)
  have sc : v.cells.toList = [v] → (match shOf P 9 t with | some [s] => some s | _ => none) = some s → ∃ u : T, VR (g0 P W) W u v ∧ HasSh B s u ∧ u.bk ≤ bulkW d := by
    intro hone h
    split at h
    · rename_i s' h3
      cases h
      obtain ⟨c1, us, c2, c3, c4, c5⟩ := reads (B := B) 9 t [s] h3 fuel _ d p hf hB
      rw [hone] at c2
      have hul : us.length = 1 := by have := c2.1; simpa using this
      obtain ⟨u, rfl⟩ : ∃ u, us = [u] := by
        cases us with
        | nil => simp at hul
        | cons u us' => cases us' with
          | nil => exact ⟨u, rfl⟩
          | cons _ _ => simp at hul
      exact ⟨u, c2.head, c4 0 s u rfl rfl, by simp only [bkL] at c5; omega⟩
    · cases h
  have ag : (∃ cs, v = .agg cs) → (match shOf P 9 t with | some l => some (Sh.ag l) | none => none) = some s → ∃ u : T, VR (g0 P W) W u v ∧ HasSh B s u ∧ u.bk ≤ bulkW d := by
    rintro ⟨cs, rfl⟩ h
    split at h
    · rename_i l h3
      cases h
      obtain ⟨c1, us, c2, c3, c4, c5⟩ := reads (B := B) 9 t l h3 fuel _ d p hf hB
      have hc : (Value.agg cs).cells.toList = cs.toList := rfl
      rw [hc] at c1 c2
      refine ⟨.agg us, .agg (by have := c2.1; simpa using this.symm) c3 (fun i t v a b => c2.2 i t v a (by simpa using b)), .ag (by rw [c2.1, c1]) c4, by have := bulk_one d; simp only [T.bk]; omega⟩
    · cases h
  simp only [shArg] at h
  split at h
  · rename_i hu
    exact sc (one (by rintro cs rfl; simp [Value.okWide, hu, Cell.okWide, Cell.ok] at hv)) h
  · rename_i hu
    exact sc (one (by rintro cs rfl; simp [Value.okWide, hu, Cell.okWide, Cell.ok] at hv)) h
  · rename_i hu
    exact sc (one (by rintro cs rfl; simp [Value.okWide, hu, Cell.okWide, Cell.ok] at hv)) h
  · rename_i hu
    exact sc (one (by rintro cs rfl; simp [Value.okWide, hu, Cell.okWide, Cell.ok] at hv)) h
  · rename_i hu
    exact ag (by cases v <;> first | exact ⟨_, rfl⟩ | simp [Value.okWide, hu] at hv) h
  · rename_i hu
    exact ag (by cases v <;> first | exact ⟨_, rfl⟩ | simp [Value.okWide, hu] at hv) h
  · cases h
theorem read_args {base : Nat} : ∀ (ts : List TypeId) (shs : List Sh) (args : List Value) (ds : List (DataW H)) (p : List MemPlace), shArgs P ts = some shs → (∀ (j : Nat) t v, ts[j]? = some t → args[j]? = some v → Value.okWide P W .any base t v) →
    DataW.TrodAll enc P W 0 (fun _ => true) held ts args ds p → bulkAllW ds ≤ B → ∃ aq : List T, VRs (g0 P W) W aq args ∧ HasShs B shs aq ∧ bkL aq ≤ bulkAllW ds
  | [], shs, args, ds, p, h, _, hA, _ => by
    cases args <;> cases ds <;> simp [DataW.TrodAll] at hA
    simp only [shArgs, Option.some.injEq] at h; subst h
    exact ⟨[], VRs.nil, .nil, by simp [bkL]⟩
  | t :: ts, shs, args, ds, p, h, hval, hA, hB => by
    cases args with
    | nil => cases ds <;> simp [DataW.TrodAll] at hA
    | cons v args =>
      cases ds with
      | nil => simp [DataW.TrodAll] at hA
      | cons d ds =>
        obtain ⟨p, q, hf, h2, _⟩ := hA
        simp only [shArgs] at h
        split at h
        · rename_i s l h3 h4
          cases h
          simp only [bulkAllW] at hB
          obtain ⟨aq, b1, b2, b3⟩ := read_args ts l args ds q h4 (fun j t v a b => hval (j + 1) t v (by simpa using a) (by simpa using b)) h2 (by omega)
          obtain ⟨u, c1, c2, c3⟩ := read_arg (B := B) (base := base) (d := d) (p := p) h3 (hval 0 t v rfl rfl) hf (by omega)
          refine ⟨u :: aq, VRs.cons c1 b1, .cons c2 b2, ?_⟩
          show T.bk u + bkL aq ≤ bulkW d + bulkAllW ds
          omega
        · cases h
end
end Go.Rmp
end

section
namespace Go.Rmp
open Go.ChangeShapes Go.RowKit
section
variable {H : Type} {enc : TypeId × Value → H} {P : Program} {W W' : World}
theorem trodAll_carry {sp : Nat → Bool} {held : Bool} : ∀ (ts : List TypeId) (vs : List Value) (ds : List (DataW H)) (ps : List MemPlace), DataW.TrodAll enc P W 0 sp held ts vs ds ps → (∀ p ∈ ps, W.sameAt W' p) → DataW.TrodAll enc P W' 0 sp held ts vs ds ps
  | [], [], [], _, h, _ => h
  | t :: ts, v :: vs, d :: ds, ps, ⟨p, q, ⟨n, hn⟩, h2, e⟩, hs => ⟨p, q, ⟨n, DataW.trod_carry n t _ _ hn (fun x hx => hs x (by rw [e]; exact List.mem_append_left _ hx))⟩, trodAll_carry ts vs ds q h2 (fun x hx => hs x (by rw [e]; exact List.mem_append_right _ hx)), e⟩
  | [], _ :: _, _, _, h, _ => h.elim
  | [], [], _ :: _, _, h, _ => h.elim
  | _ :: _, [], _, _, h, _ => h.elim
  | _ :: _, _ :: _, [], _, h, _ => h.elim
theorem keptBut_of {g : Ctx} {Hh : Heap} (h : SR W g Hh W') (S : MemPlace → Prop) : W.keptBut W' S := by
  refine ⟨h.env.1, h.env.2, fun i hi => ?_⟩
  rw [h.old i hi]
  exact (World.keptBut_refl W S).2.2 i hi
theorem frozen_old (h : ∀ r, r < W.heap.size → W'.heap[r]? = W.heap[r]?) {b o : Nat} (hb : b < W.heap.size) : W'.frozen? ⟨b, o, none⟩ = W.frozen? ⟨b, o, none⟩ := by
  unfold World.frozen?
  rw [h _ hb]
theorem law_calls {E : Env} (hE : EnvOk P E) {f : FuncId} {aq : List T} {args : List Value} (hv : VRs (g0 P W) W aq args) (hW : Go.Rmp.W E (.call f aq) [] (fun o _ => o = .val (.bool true))) :
    Calls P f args.toArray W fun e W' => e = .returned (.bool true) ∧ (∀ S, W.keptBut W' S) ∧ ∀ r, r < W.heap.size → W'.heap[r]? = W.heap[r]? := by
  obtain ⟨_, hc⟩ := Go.Rmp.W.sim hE hW W (g0 P W) W args (ck0 P W) (sr0 P W) hv
  refine (callsIn_wide.1 hc).mono fun e W' ⟨v, t, g', H', he, hq, _, sr, hvr, _⟩ => ?_
  cases hq
  cases hvr
  exact ⟨he, keptBut_of sr, sr.old⟩
theorem law_contractB {E : Env} (hE : EnvOk P E) {f : FuncId} {fn : Func} {s : ChangeSpec} {shs : List Sh} {B : Nat} {tb : TypeId} (K : Kids P (· < P.types.size)) (hz : ∀ t e, t < P.types.size → P.underlying t = some (.slice e) → 0 < P.cellsOf e)
    (hsh : shArgs P fn.params.toList = some shs) (hlt : ∀ t ∈ fn.params.toList, t < P.types.size) (hrt : fn.resultTypes = #[tb]) (htb : P.underlying tb = some .bool) (hvars : s.vars = [])
    (hfn : ∀ ds : List (DataW H), ds.length = fn.params.toList.length → s.fn H ds = { results := [.lit (.bool true)], args := ds })
    (hlaw : ∀ aq : List T, HasShs B shs aq → bkL aq ≤ B → Go.Rmp.W E (.call f aq) [] (fun o _ => o = .val (.bool true)))
    (base : Nat) (args : Array Value) (ds gs : List (DataW H)) (before : List MemPlace)
    (hval : ∀ (j : Nat) t v, fn.params[j]? = some t → args[j]? = some v → Value.okWide P W .any base t v)
    (hW : DataW.Whole enc P fn.params.toList s.vars false W args.toList ds gs before) (hB : bulkAllW (ds ++ gs) ≤ B) :
    Calls P f args W fun e W' => ∃ v, e = .returned v ∧ s.post enc P fn false true false false W args v W' := by
  have hW' := hW
  obtain ⟨p, q, hA, hV, hpq, hfz, hnd⟩ := hW
  rw [hvars] at hV
  obtain ⟨rfl, rfl⟩ : gs = [] ∧ q = [] := by
    cases gs with
    | nil => exact ⟨rfl, hV⟩
    | cons _ _ => exact hV.elim
  simp only [List.append_nil] at hpq hB
  subst hpq
  obtain ⟨aq, hvs, hss, hbk⟩ := read_args fn.params.toList shs args.toList ds before hsh (fun j t v a b => hval j t v (by simpa using a) (by simpa using b)) hA hB
  have hc := law_calls hE hvs (hlaw aq hss (Nat.le_trans hbk hB))
  rw [Array.toArray_toList] at hc
  refine hc.mono fun e W' ⟨he, hg, hold⟩ => ⟨_, he, ?_⟩
  have hlen : ds.length = fn.params.toList.length := (trodAll_length hA).2
  have hfn' := hfn ds hlen
  have hsp : ∀ p ∈ before, (fun b => decide (b < W.heap.size)) p.block = true := fun p hp => by simpa using hW'.lt p hp
  have hargs : ∀ sp : Nat → Bool, (∀ p ∈ before, sp p.block = true) → DataW.TrodAll enc P W' 0 sp true fn.params.toList args.toList (s.fn H (ds ++ [])).args before := by
    intro sp hsp
    rw [List.append_nil, hfn']
    refine DataW.TrodAll.respare K hz hlt (trodAll_carry _ _ _ _ hA fun x hx => ?_) hsp
    have hb := hW'.lt x hx
    cases x with
    | cell b o => simp only [World.sameAt, World.cell?]; rw [hold b hb]
    | map b => exact hold b hb
  have hres : ∀ (b : Nat) (sp : Nat → Bool) (hd : Bool), DataW.TrodAll enc P W' b sp hd fn.resultTypes.toList ((Value.bool true).resultList fn.resultTypes.size) (s.fn H (ds ++ [])).results [] := by
    intro b sp hd
    rw [List.append_nil, hfn', hrt]
    simp only [Value.resultList]
    exact trodAll_mk1 (shut_bool htb _)
  have hvars' : ∀ sp : Nat → Bool, DataW.TrodVars enc P W' sp s.vars (s.fn H (ds ++ [])).vars [] := by
    intro sp
    rw [List.append_nil, hfn', hvars]; rfl
  refine ⟨ds, [], before, [], before, [], hW', hres _ _ _, hargs _ hsp, hvars' _, World.keptBut_mono (fun p hp => ⟨hp, ?_⟩) (hg (fun p => p ∈ before)), fun _ => ?_⟩
  · exact Or.inr (by simpa using hp)
  · refine ⟨fun j t r hj hr => ?_, _, _, ([] ++ before) ++ [], ⟨[] ++ before, [], trodAll_append (hargs _ (fun _ _ => rfl)) (hres _ _ _), hvars' _, rfl, ?_, ?_⟩, ?_⟩
    · rw [hrt] at hj hr
      cases j with
      | zero => simp [Value.resultList] at hj hr; subst hj; subst hr; exact okWide_bool_mk htb _
      | succ j => simp at hj
    · intro b off hp
      have hp' : MemPlace.cell b off ∈ before := by simpa using hp
      have hb : b < W.heap.size := hW'.lt _ hp'
      rw [frozen_old hold hb]
      exact hfz b off hp'
    · intro ha; cases ha
    · intro p hp _
      simpa using hp
theorem law_contract {E : Env} (hE : EnvOk P E) {f : FuncId} {fn : Func} {s : ChangeSpec} {shs : List Sh} {B : Nat} {tb : TypeId} (K : Kids P (· < P.types.size)) (hz : ∀ t e, t < P.types.size → P.underlying t = some (.slice e) → 0 < P.cellsOf e)
    (hsh : shArgs P fn.params.toList = some shs) (hlt : ∀ t ∈ fn.params.toList, t < P.types.size) (hrt : fn.resultTypes = #[tb]) (htb : P.underlying tb = some .bool) (hvars : s.vars = [])
    (hfn : ∀ ds : List (DataW H), ds.length = fn.params.toList.length → s.fn H ds = { results := [.lit (.bool true)], args := ds })
    (hlaw : ∀ aq : List T, HasShs B shs aq → Go.Rmp.W E (.call f aq) [] (fun o _ => o = .val (.bool true)))
    (base : Nat) (args : Array Value) (ds gs : List (DataW H)) (before : List MemPlace)
    (hval : ∀ (j : Nat) t v, fn.params[j]? = some t → args[j]? = some v → Value.okWide P W .any base t v)
    (hW : DataW.Whole enc P fn.params.toList s.vars false W args.toList ds gs before) (hB : bulkAllW (ds ++ gs) ≤ B) :
    Calls P f args W fun e W' => ∃ v, e = .returned v ∧ s.post enc P fn false true false false W args v W' :=
  law_contractB hE K hz hsh hlt hrt htb hvars hfn (fun aq h _ => hlaw aq h) base args ds gs before hval hW hB
end
end Go.Rmp
end

section
namespace Go.Rmp
def stB (R : Regs) (H : Heap) : List Rd → Prop
  | [] => True
  | r :: l => (wants R r.g = true → evop R H r.op = some (R r.d, H)) ∧ stB R H l
theorem stB_ok {R : Regs} {H : Heap} : ∀ (l : List Rd), stB R H l → stable R H l
  | [], _ => fun r h => by cases h
  | x :: l, h => fun r hr => by
    rcases List.mem_cons.1 hr with rfl | hr
    · exact h.1
    · exact stB_ok l h.2 r hr
theorem updo_s (R : Regs) (d : Nat) (v : T) : updo R (some d) v = upd R d v := rfl
theorem updo_n (R : Regs) (v : T) : updo R none v = R := rfl
theorem upd_ap (R : Regs) (d : Nat) (v : T) (t : Nat) : upd R d v t = if t = d then v else R t := rfl
theorem regs0_0 (a : T) (l : List T) : regs0 (a :: l) 0 = a := rfl
theorem ev_r (R : Regs) (t : Nat) : X.ev R (.r t) = R t := rfl
theorem ev_c (R : Regs) (v : T) : X.ev R (.c v) = v := rfl
def nilsB (R : Regs) (g : Gd) (s : List Rd) : Bo → Prop
  | .eqr _ c x y => g = none ∧ s = [] ∧ c = .slice ∧ x.ev R = .sl .arg [] ∧ y.ev R = .sl .nil []
  | _ => False
structure YldB (E : Env) (R : Regs) (H : Heap) (x : X) (az : List X) (P : Heap → Bool → Prop) (b n : Nat) (R0 : Regs) (ps : List Nat) (asg body : C) (M1 M : Out → Heap → Prop) : Prop where
  hf : x.ev R = .yld b
  hb : H[b]? = some (.loop .ready none n R0 ps asg body)
  hn : az.length = ps.length
  h1 : W E (.code asg (setps R0 ps (az.map (X.ev R)))) H M1
  h1' : ∀ o H', M1 o H' → (∃ R1, o = .ex .normal R1) ∧ H'[b]? = some (.loop .ready none n R0 ps asg body)
  h2 : ∀ R1 H1, M1 (.ex .normal R1) H1 → W E (.code body R1) (H1.set b (.loop .busy none n R0 ps asg body)) M
  h2' : ∀ o H', M o H' → H'[b]? = some (.loop .busy none n R0 ps asg body)
  h3 : ∀ R' H', M (.ex .normal R') H' → P (H'.set b (.loop .ready none n R0 ps asg body)) true
  h4 : ∀ e R' H', M (.ex e R') H' → e ≠ .normal → P (H'.set b (.loop .done (some e) n R0 ps asg body)) false
def apsOf (R : Regs) (H : Heap) (b : Bo) (v : T) (H' : Heap) : Prop := ∃ n bytes t y bb len cs, b = .app n bytes false (.r t) y ∧ R t = .msl bb 0 len n ∧ H[bb]? = some (.cells cs) ∧ len * n = cs.length ∧ 0 < len ∧
  evop (upd R t (.sl (.own H.length len) (frzE cs 0 len n))) (H.set bb (.fz cs) ++ [.tok len]) b = some (v, H')
def wpB (E : Env) : List O → Regs → Heap → (Regs → Heap → Prop) → Prop
  | [], R, H, K => K R H
  | ⟨d, .b b, g, s⟩ :: l, R, H, K => match wants R g with
    | false => wpB E l (updo R d undefT) H K
    | true => match evop R H b with
      | some (v, H') => stB R H' s ∧ wpB E l (updo R d v) H' K
      | none => (nilsB R g s b ∧ ∀ t : Bool, wpB E l (updo R d (.bool t)) H K) ∨
        (∃ x bb bi es ix cur, b = .nxt x ∧ x.ev R = .ptr bi 0 ∧ H[bb]? = some (.rmap es ix bi cur) ∧ ∀ t H', NxtTo H bb bi es ix t H' → stB R H' s ∧ wpB E l (updo R d t) H' K) ∨
        ∃ v H', apsOf R H b v H' ∧ stB R H' s ∧ wpB E l (updo R d v) H' K
  | ⟨d, .call f az, g, s⟩ :: l, R, H, K => match wants R g with
    | false => wpB E l (updo R d undefT) H K
    | true => ∃ M : Out → Heap → Prop, W E (.call f (az.map (X.ev R))) H M ∧ ∀ v H', M (.val v) H' → stB R H' s ∧ wpB E l (updo R d v) H' K
  | ⟨d, .callv x az, g, s⟩ :: l, R, H, K => match wants R g with
    | false => wpB E l (updo R d undefT) H K
    | true => (∃ (f : Nat) (cs : List T) (M : Out → Heap → Prop), x.ev R = .fn f cs ∧ W E (.call f (az.map (X.ev R) ++ cs)) H M ∧ ∀ v H', M (.val v) H' → stB R H' s ∧ wpB E l (updo R d v) H' K) ∨
      ∃ b n R0 ps asg body M1 M, YldB E R H x az (fun H' t => stB R H' s ∧ wpB E l (updo R d (.bool t)) H' K) b n R0 ps asg body M1 M
theorem wpB_ok {E : Env} {Q : Out → Heap → Prop} : ∀ (l : List O) (R : Regs) (H : Heap), wpB E l R H (fun R' H' => Q (.ex .normal R') H') → W E (.ops l R) H Q
  | [], R, H, h => .nil h
  | ⟨d, .b b, g, s⟩ :: l, R, H, h => by
    simp only [wpB] at h
    split at h
    · rename_i hw; exact .no hw (wpB_ok l _ _ h)
    · rename_i hw
      split at h
      · rename_i v H' he; exact .op hw he (stB_ok _ h.1) (wpB_ok l _ _ h.2)
      · rcases h with h | ⟨x, bb, bi, es, ix, cur, rfl, hx, hb, h⟩ | ⟨v, H', ⟨n, bytes, t, y, bb, len, cs, rfl, ht, hb, hlen, h0, he⟩, h⟩
        · cases b with
          | eqr neg c x y =>
            obtain ⟨⟨hg, hs, hc, hx, hy⟩, h⟩ := h
            subst hg
            exact .nils hs (fun t => wpB_ok l _ _ (h t)) hx hy hc
          | _ => exact h.1.elim
        · exact .nxt hw hx hb (fun t H' hm => stB_ok _ (h t H' hm).1) fun t H' hm => wpB_ok l _ _ (h t H' hm).2
        · exact .aps hw ht hb hlen h0 he (stB_ok _ h.1) (wpB_ok l _ _ h.2)
  | ⟨d, .call f az, g, s⟩ :: l, R, H, h => by
    simp only [wpB] at h
    split at h
    · rename_i hw; exact .no hw (wpB_ok l _ _ h)
    · rename_i hw
      obtain ⟨M, h1, h2⟩ := h
      exact .call M hw h1 (fun v H' hm => stB_ok _ (h2 v H' hm).1) (fun v H' hm => wpB_ok l _ _ (h2 v H' hm).2)
  | ⟨d, .callv x az, g, s⟩ :: l, R, H, h => by
    simp only [wpB] at h
    split at h
    · rename_i hw; exact .no hw (wpB_ok l _ _ h)
    · rename_i hw
      rcases h with ⟨f, cs, M, hf, h1, h2⟩ | ⟨b, n, R0, ps, asg, body, M1, M, h⟩
      · exact .callv M hw hf h1 (fun v H' hm => stB_ok _ (h2 v H' hm).1) (fun v H' hm => wpB_ok l _ _ (h2 v H' hm).2)
      · exact .yld M1 M hw h.hf h.hb h.hn h.h1 h.h1' h.h2 h.h2' (fun R' H' hm => stB_ok _ (h.h3 R' H' hm).1) (fun R' H' hm => wpB_ok l _ _ (h.h3 R' H' hm).2) (fun e R' H' hm he => stB_ok _ (h.h4 e R' H' hm he).1) (fun e R' H' hm he => wpB_ok l _ _ (h.h4 e R' H' hm he).2)
def thenQ (K : Regs → Heap → Prop) (Q : Out → Heap → Prop) : Out → Heap → Prop
  | .ex .normal R, H => K R H
  | o, H => Q o H
def blockQ (id : Nat) (Q : Out → Heap → Prop) : Out → Heap → Prop
  | .ex (.exit i) R, H => if i = id then Q (.ex .normal R) H else Q (.ex (.exit i) R) H
  | o, H => Q o H
def wpC (E : Env) : C → Regs → Heap → (Out → Heap → Prop) → Prop
  | .skip, R, H, Q => Q (.ex .normal R) H
  | .ops l, R, H, Q => wpB E l R H fun R' H' => Q (.ex .normal R') H'
  | .seq a b, R, H, Q => wpC E a R H (thenQ (fun R' H' => wpC E b R' H' Q) Q)
  | .cond x a b, R, H, Q => match x.ev R with
    | .bool true => wpC E a R H Q
    | .bool false => wpC E b R H Q
    | _ => False
  | .block id a, R, H, Q => wpC E a R H (blockQ id Q)
  | .exit id, R, H, Q => Q (.ex (.exit id) R) H
  | .ret, R, H, Q => Q (.ex .ret R) H
  | .loop a, R, H, Q => W E (.code (.loop a) R) H Q
  | .rangeF n x ps a b, R, H, Q => W E (.code (.rangeF n x ps a b) R) H Q
theorem wpC_ok {E : Env} : ∀ (c : C) (R : Regs) (H : Heap) (Q : Out → Heap → Prop), wpC E c R H Q → W E (.code c R) H Q
  | .skip, R, H, Q, h => .skip h
  | .ops l, R, H, Q, h => .reg (wpB_ok l R H h)
  | .seq a b, R, H, Q, h => .seq _ (wpC_ok a R H _ h) (fun R' H' hm => wpC_ok b R' H' Q hm) (fun o H' hm hn => by
    cases o with
    | ex e R' => cases e with
      | normal => exact absurd rfl (hn R')
      | exit id => exact hm
      | ret => exact hm
    | val v => exact hm)
  | .cond x a b, R, H, Q, h => by
    simp only [wpC] at h
    split at h
    · rename_i hx; exact .cond true hx (wpC_ok a R H Q h)
    · rename_i hx; exact .cond false hx (wpC_ok b R H Q h)
    · exact h.elim
  | .block id a, R, H, Q, h => .block _ (wpC_ok a R H _ h) (fun R' H' hm => by simpa [blockQ] using hm) (fun o H' hm hn => by
    cases o with
    | ex e R' => cases e with
      | normal => exact hm
      | exit i =>
        simp only [blockQ] at hm
        split at hm
        · rename_i e; subst e; exact absurd rfl (hn R')
        · exact hm
      | ret => exact hm
    | val v => exact hm)
  | .exit id, R, H, Q, h => .exit h
  | .ret, R, H, Q, h => .ret h
  | .loop a, R, H, Q, h => h
  | .rangeF n x ps a b, R, H, Q, h => h
section
variable (E : Env) (R : Regs) (H : Heap) (K : Regs → Heap → Prop) (Q : Out → Heap → Prop) (l : List O) (d : Option Nat) (s : List Rd)
def isT : T → Bool
  | .bool c => c
  | _ => false
def isF : T → Bool
  | .bool c => !c
  | _ => false
def stepB (b : Bo) (g : Gd) (e : Option (T × Heap)) : Prop := match e with
  | some (v, H') => stB R H' s ∧ wpB E l (updo R d v) H' K
  | none => (nilsB R g s b ∧ ∀ t : Bool, wpB E l (updo R d (.bool t)) H K) ∨
    (∃ x bb bi es ix cur, b = .nxt x ∧ x.ev R = .ptr bi 0 ∧ H[bb]? = some (.rmap es ix bi cur) ∧ ∀ t H', NxtTo H bb bi es ix t H' → stB R H' s ∧ wpB E l (updo R d t) H' K) ∨
    ∃ v H', apsOf R H b v H' ∧ stB R H' s ∧ wpB E l (updo R d v) H' K
def grdB (b : Bo) (g : Gd) (w : Bool) : Prop := match w with
  | false => wpB E l (updo R d undefT) H K
  | true => stepB E R H K l d s b g (evop R H b)
def contB (v : T) (H' : Heap) : Prop := stB R H' s ∧ wpB E l (updo R d v) H' K
def callB (f : Nat) (az : List T) : Prop := ∃ M : Out → Heap → Prop, W E (.call f az) H M ∧ ∀ v H', M (.val v) H' → contB E R K l d s v H'
def grdC (f : Nat) (az : List X) (w : Bool) : Prop := match w with
  | false => wpB E l (updo R d undefT) H K
  | true => callB E R H K l d s f (az.map (X.ev R))
def callvB (t : T) (az : List X) : Prop := match t with
  | .fn f cs => callB E R H K l d s f (az.map (X.ev R) ++ cs)
  | _ => False
def normK (R : Regs) (H : Heap) : Prop := Q (.ex .normal R) H
def contC (b : C) (R : Regs) (H : Heap) : Prop := wpC E b R H Q
def condC (a b : C) (t : T) : Prop := match t with
  | .bool true => wpC E a R H Q
  | .bool false => wpC E b R H Q
  | _ => False
theorem b_nil : wpB E [] R H K = K R H := rfl
theorem b_b (b : Bo) : wpB E (⟨d, .b b, none, s⟩ :: l) R H K = stepB E R H K l d s b none (evop R H b) := rfl
theorem b_g (b : Bo) (g : Nat × Bool) : wpB E (⟨d, .b b, some g, s⟩ :: l) R H K = grdB E R H K l d s b (some g) (wants R (some g)) := by simp only [wpB, grdB]; rfl
theorem b_c (f : Nat) (az : List X) : wpB E (⟨d, .call f az, none, s⟩ :: l) R H K = callB E R H K l d s f (az.map (X.ev R)) := rfl
theorem b_cg (f : Nat) (az : List X) (g : Nat × Bool) : wpB E (⟨d, .call f az, some g, s⟩ :: l) R H K = grdC E R H K l d s f az (wants R (some g)) := by simp only [wpB, grdC]; rfl
theorem b_v {x : X} {az : List X} (h : callvB E R H K l d s (x.ev R) az) : wpB E (⟨d, .callv x az, none, s⟩ :: l) R H K := by
  unfold callvB at h
  split at h
  · rename_i f cs hx
    obtain ⟨M, h1, h2⟩ := h
    exact .inl ⟨f, cs, M, hx, h1, h2⟩
  · exact h.elim
theorem b_vg {g : Gd} {x : X} {az : List X} (hg : wants R g = true) (h : callvB E R H K l d s (x.ev R) az) : wpB E (⟨d, .callv x az, g, s⟩ :: l) R H K := by
  simp only [wpB, hg]
  unfold callvB at h
  split at h
  · rename_i f cs hx
    obtain ⟨M, h1, h2⟩ := h
    exact .inl ⟨f, cs, M, hx, h1, h2⟩
  · exact h.elim
theorem b_vf {g : Nat × Bool} {x : X} {az : List X} (hg : wants R (some g) = false) : wpB E (⟨d, .callv x az, some g, s⟩ :: l) R H K = wpB E l (updo R d undefT) H K := by
  simp only [wpB, hg]
theorem step_n (neg : Bool) (c : Cls) (x y : X) : stepB E R H K l d s (.eqr neg c x y) none none = ((s = [] ∧ c = .slice ∧ x.ev R = .sl .arg [] ∧ y.ev R = .sl .nil []) ∧ ∀ t : Bool, wpB E l (updo R d (.bool t)) H K) := by simp only [stepB, nilsB, apsOf, true_and, reduceCtorEq, false_and, exists_false, or_false]
theorem step_aps {n bytes t bb len : Nat} {y : X} {g : Gd} {cs : List T} {v : T} {H' : Heap} (ht : R t = .msl bb 0 len n) (hb : H[bb]? = some (.cells cs)) (hlen : len * n = cs.length) (h0 : 0 < len)
    (he : evop (upd R t (.sl (.own H.length len) (frzE cs 0 len n))) (H.set bb (.fz cs) ++ [.tok len]) (.app n bytes false (.r t) y) = some (v, H')) (h : stB R H' s ∧ wpB E l (updo R d v) H' K) : stepB E R H K l d s (.app n bytes false (.r t) y) g none :=
  .inr (.inr ⟨v, H', ⟨n, bytes, t, y, bb, len, cs, rfl, ht, hb, hlen, h0, he⟩, h⟩)
theorem step_s (b : Bo) (g : Gd) (v : T) (H' : Heap) : stepB E R H K l d s b g (some (v, H')) = (stB R H' s ∧ wpB E l (updo R d v) H' K) := rfl
theorem grd_t (b : Bo) (g : Gd) : grdB E R H K l d s b g true = stepB E R H K l d s b g (evop R H b) := rfl
theorem grd_f (b : Bo) (g : Gd) : grdB E R H K l d s b g false = wpB E l (updo R d undefT) H K := rfl
theorem grdc_t (f : Nat) (az : List X) : grdC E R H K l d s f az true = callB E R H K l d s f (az.map (X.ev R)) := rfl
theorem grdc_f (f : Nat) (az : List X) : grdC E R H K l d s f az false = wpB E l (updo R d undefT) H K := rfl
theorem callB_of {f : Nat} {az : List T} (M : Out → Heap → Prop) (h1 : W E (.call f az) H M) (h2 : ∀ v H', M (.val v) H' → stB R H' s ∧ wpB E l (updo R d v) H' K) : callB E R H K l d s f az := ⟨M, h1, h2⟩
theorem c_skip : wpC E .skip R H Q = Q (.ex .normal R) H := rfl
theorem c_ops : wpC E (.ops l) R H Q = wpB E l R H (normK Q) := rfl
theorem norm_ap : normK Q R H = Q (.ex .normal R) H := rfl
theorem c_seq (a b : C) : wpC E (.seq a b) R H Q = wpC E a R H (thenQ (contC E Q b) Q) := rfl
theorem c_cond (x : X) (a b : C) : wpC E (.cond x a b) R H Q = condC E R H Q a b (x.ev R) := rfl
theorem c_block (id : Nat) (a : C) : wpC E (.block id a) R H Q = wpC E a R H (blockQ id Q) := rfl
theorem c_exit (id : Nat) : wpC E (.exit id) R H Q = Q (.ex (.exit id) R) H := rfl
theorem c_ret : wpC E .ret R H Q = Q (.ex .ret R) H := rfl
theorem c_loop (a : C) : wpC E (.loop a) R H Q = W E (.code (.loop a) R) H Q := rfl
theorem c_range (n : Nat) (x : X) (ps : List Nat) (a b : C) : wpC E (.rangeF n x ps a b) R H Q = W E (.code (.rangeF n x ps a b) R) H Q := rfl
theorem cont_ap (b : C) : contC E Q b R H = wpC E b R H Q := rfl
theorem cond_t (a b : C) : condC E R H Q a b (.bool true) = wpC E a R H Q := rfl
theorem cond_f (a b : C) : condC E R H Q a b (.bool false) = wpC E b R H Q := rfl
theorem then_n (R : Regs) (H : Heap) : thenQ K Q (.ex .normal R) H = K R H := rfl
theorem then_r (R : Regs) (H : Heap) : thenQ K Q (.ex .ret R) H = Q (.ex .ret R) H := rfl
theorem then_e (id : Nat) (R : Regs) (H : Heap) : thenQ K Q (.ex (.exit id) R) H = Q (.ex (.exit id) R) H := rfl
theorem blk_n (id : Nat) (R : Regs) (H : Heap) : blockQ id Q (.ex .normal R) H = Q (.ex .normal R) H := rfl
theorem blk_r (id : Nat) (R : Regs) (H : Heap) : blockQ id Q (.ex .ret R) H = Q (.ex .ret R) H := rfl
theorem blk_e (id i : Nat) (R : Regs) (H : Heap) : blockQ id Q (.ex (.exit i) R) H = if i = id then Q (.ex .normal R) H else Q (.ex (.exit i) R) H := rfl
theorem want_t (t : Nat) : wants R (some (t, true)) = isT (R t) := by cases h : R t <;> simp [wants, isT, h]
theorem want_f (t : Nat) : wants R (some (t, false)) = isF (R t) := by cases h : R t <;> simp [wants, isF, h]
theorem isT_b (c : Bool) : isT (.bool c) = c := rfl
theorem isT_u : isT undefT = false := rfl
theorem isF_u : isF undefT = false := rfl
theorem isF_b (c : Bool) : isF (.bool c) = !c := rfl
end
theorem W.loopI {E : Env} {α : Type} {a : C} {R : Regs} {H : Heap} {Q : Out → Heap → Prop} (I : α → Regs → Heap → Prop) (μ : α → Nat) (x : α) (h0 : I x R H)
    (step : ∀ x R H, I x R H → wpC E a R H (thenQ (fun R' H' => ∃ y, μ y < μ x ∧ I y R' H') Q)) : W E (.code (.loop a) R) H Q := by
  have key : ∀ (n : Nat) (x : α) (R : Regs) (H : Heap), μ x = n → I x R H → W E (.code (.loop a) R) H Q := by
    intro n
    induction n using Nat.strongRecOn with
    | _ n ih =>
      intro x R H hn hI
      refine .loop _ (wpC_ok a R H _ (step x R H hI)) (fun R' H' hm => ?_) (fun o H' hm hno => ?_)
      · obtain ⟨y, hy, hI'⟩ := hm
        exact ih (μ y) (hn ▸ hy) y R' H' rfl hI'
      · cases o with
        | ex e R' => cases e with
          | normal => exact absurd rfl (hno R')
          | exit id => exact hm
          | ret => exact hm
        | val v => exact hm
  exact key _ x R H rfl h0
def endQ (res : List Rs) (Q : Out → Heap → Prop) : Out → Heap → Prop
  | .ex .normal R, H | .ex .ret R, H => match resT R H res with
    | some v => Q (.val v) H
    | none => False
  | _, _ => False
theorem W.fnI {E : Env} {f : Nat} {fn : Fn} {az : List T} {H : Heap} {Q : Out → Heap → Prop} (hf : E.fn f = some fn) (hr : fn.body.hasR = false) (hn : az.length = fn.np) (h : wpC E fn.body (regs0 az) H (endQ fn.res Q)) : W E (.call f az) H Q := by
  refine .fn _ hf hr hn (wpC_ok _ _ _ _ h) fun o H' hm => ?_
  cases o with
  | ex e R =>
    cases e with
    | normal => simp only [endQ] at hm; split at hm; exact ⟨R, .inl rfl, _, by assumption, hm⟩; exact hm.elim
    | exit id => exact hm.elim
    | ret => simp only [endQ] at hm; split at hm; exact ⟨R, .inr rfl, _, by assumption, hm⟩; exact hm.elim
  | val v => exact hm.elim
theorem W.use {E : Env} {j : J} {H : Heap} {Q Q' : Out → Heap → Prop} (h : W E j H Q) (hq : ∀ o H', Q o H' → Q' o H') : W E j H Q' := by
  induction h generalizing Q' with
  | skip h => exact .skip (hq _ _ h)
  | exit h => exact .exit (hq _ _ h)
  | ret h => exact .ret (hq _ _ h)
  | reg _ ih => exact .reg (ih hq)
  | seq M h1 h2 h3 _ ih2 => exact .seq M h1 (fun R' H' hm => ih2 R' H' hm hq) (fun o H' hm hn => hq _ _ (h3 o H' hm hn))
  | cond t hx _ ih => exact .cond t hx (ih hq)
  | block M h1 h2 h3 _ => exact .block M h1 (fun R' H' hm => hq _ _ (h2 R' H' hm)) (fun o H' hm hn => hq _ _ (h3 o H' hm hn))
  | loop M h1 h2 h3 _ ih2 => exact .loop M h1 (fun R' H' hm => ih2 R' H' hm hq) (fun o H' hm hn => hq _ _ (h3 o H' hm hn))
  | nil h => exact .nil (hq _ _ h)
  | no hg _ ih => exact .no hg (ih hq)
  | op hg he hs _ ih => exact .op hg he hs (ih hq)
  | call M hg h1 hs _ _ ih2 => exact .call M hg h1 hs (fun v H' hm => ih2 v H' hm hq)
  | callv M hg hf h1 hs _ _ ih2 => exact .callv M hg hf h1 hs (fun v H' hm => ih2 v H' hm hq)
  | yld M1 M hg hf hb hn h1 h1' h2 h2' hs3 _ hs4 _ _ _ ih3 ih4 => exact .yld M1 M hg hf hb hn h1 h1' h2 h2' hs3 (fun R' H' hm => ih3 R' H' hm hq) hs4 (fun e R' H' hm he => ih4 e R' H' hm he hq)
  | nils hs h hx hy hc ih => exact .nils hs (fun b => ih b hq) hx hy hc
  | rangeF M hx h1 h2 _ => exact .rangeF M hx h1 (fun v H' hm => let ⟨st, pe, a, b, c, d⟩ := h2 v H' hm; ⟨st, pe, a, b, c, hq _ _ d⟩)
  | fnr M hf hn h1 h2 _ => exact .fnr M hf hn h1 (fun o H' hm => let ⟨R', bs, a, b, c, d, v, e, f⟩ := h2 o H' hm; ⟨R', bs, a, b, c, d, v, e, hq _ _ f⟩)
  | fn M hf hr hn h1 h2 _ => exact .fn M hf hr hn h1 (fun o H' hm => let ⟨R', a, v, b, c⟩ := h2 o H' hm; ⟨R', a, v, b, hq _ _ c⟩)
  | revl i M hi h1 h2 _ => exact .revl i M hi h1 (fun v H' hm => hq _ _ (h2 v H' hm))
  | frz M h1 h2 _ => exact .frz M h1 (fun o H' hm => let ⟨v, b, cs, a, c, d, e⟩ := h2 o H' hm; ⟨v, b, cs, a, c, d, hq _ _ e⟩)
  | nxt hg hx hb hs _ ih => exact .nxt hg hx hb hs fun t H' hm => ih t H' hm hq
  | shr M h1 h2 _ => exact .shr M h1 (fun o H' hm => let ⟨v, b, cs, k, a, c, d, e⟩ := h2 o H' hm; ⟨v, b, cs, k, a, c, d, hq _ _ e⟩)
  | frza i hi hb _ ih => exact .frza i hi hb (ih hq)
  | fza hk hb _ ih => exact .fza hk hb (ih hq)
  | vw hl hv _ ih => exact .vw hl hv (ih hq)
  | aps hg ht hb hlen h0 he hs _ ih => exact .aps hg ht hb hlen h0 he hs (ih hq)
  | prim h => exact .prim (E.mono _ _ _ _ _ h fun t H' hm => hq _ _ hm)
end Go.Rmp
end

section
namespace Go.Rmp
def Ret (v : T) (H : Heap) : Out → Heap → Prop := fun o H' => o = .val v ∧ H' = H
theorem ret_val (v v' : T) (H H' : Heap) : Ret v H (.val v') H' = (v' = v ∧ H' = H) := by simp [Ret]
theorem regs0_1 (a b : T) (l : List T) : regs0 (a :: b :: l) 1 = b := rfl
theorem regs0_2 (a b c : T) (l : List T) : regs0 (a :: b :: c :: l) 2 = c := rfl
theorem regs0_3 (a b c d : T) (l : List T) : regs0 (a :: b :: c :: d :: l) 3 = d := rfl
theorem regs0_4 (a b c d e : T) (l : List T) : regs0 (a :: b :: c :: d :: e :: l) 4 = e := rfl
def RetG (v : T) (H : Heap) : Out → Heap → Prop := fun o H' => o = .val v ∧ ∃ l, H' = H ++ l
theorem retg_val (v v' : T) (H l : Heap) : RetG v H (.val v') (H ++ l) = (v' = v) := by simp [RetG]
theorem retg_same (v v' : T) (H : Heap) : RetG v H (.val v') H = (v' = v) := by
  simp only [RetG, Out.val.injEq, eq_iff_iff]
  exact ⟨fun h => h.1, fun h => ⟨h, [], by simp⟩⟩
theorem natOf_nat (k : IntKind) (n : Nat) : natOf (.int k (n : Int)) = some n := by simp [natOf]
theorem wrap64 {n : Int} (h : -9223372036854775808 ≤ n ∧ n < 9223372036854775808) : IntKind.i64.wrap n = n := by
  unfold IntKind.wrap
  simp only [IntKind.signed, IntKind.bits]
  simp
  omega
theorem wrapu64 {n : Int} (h : 0 ≤ n ∧ n < 18446744073709551616) : IntKind.u64.wrap n = n := by
  unfold IntKind.wrap
  simp only [IntKind.signed, IntKind.bits]
  simp
  omega
theorem wrap_succ {i : Nat} (h : i < 9223372036854775807) : IntKind.i64.wrap ((i : Int) + 1) = ((i + 1 : Nat) : Int) := by rw [wrap64 (by omega)]; simp
theorem iad_map {α : Type} {l : List α} {enc : α → List T} {k : SK} {i n : Nat} {x : α} (h : l[i]? = some x) (hn : (enc x).length = n) (h0 : n ≠ 0) : iadT n i (.sl k (l.map enc)) = some (.iptr (enc x)) := by
  simp [iadT, h, hn, h0]
theorem val1 (v : T) : valOf false [v] = some v := rfl
theorem valA (cs : List T) : valOf true cs = some (.agg cs) := rfl
theorem dlt (a b : Nat) : decide ((a : Int) < (b : Int)) = decide (a < b) := by simp
theorem dle (a b : Nat) : decide ((a : Int) ≤ (b : Int)) = decide (a ≤ b) := by simp
theorem deq (a b : Nat) : ((a : Int) == (b : Int)) = decide (a = b) := by rw [Bool.eq_iff_iff]; simp; omega
theorem dne (a b : Nat) : ((a : Int) != (b : Int)) = !decide (a = b) := by rw [Bool.eq_iff_iff]; simp; omega
end Go.Rmp
end

section
namespace Go.Rmp
theorem bl_irr : ∀ (a : List UInt8), Op.bytesLess a a = false
  | [] => rfl
  | x :: a => by simp [Op.bytesLess, bl_irr a]
theorem bl_trans : ∀ (a b c : List UInt8), Op.bytesLess a b = true → Op.bytesLess b c = true → Op.bytesLess a c = true
  | _, [], _, h, _ => by cases ‹List UInt8› <;> simp [Op.bytesLess] at h
  | _, _ :: _, [], _, h => by simp [Op.bytesLess] at h
  | [], _ :: _, _ :: _, _, _ => rfl
  | x :: a, y :: b, z :: c, h1, h2 => by
    simp only [Op.bytesLess, Bool.or_eq_true, decide_eq_true_eq, Bool.and_eq_true, beq_iff_eq] at h1 h2 ⊢
    rcases h1 with h1 | ⟨rfl, h1⟩
    · rcases h2 with h2 | ⟨rfl, h2⟩
      · exact .inl (UInt8.lt_trans h1 h2)
      · exact .inl h1
    · rcases h2 with h2 | ⟨rfl, h2⟩
      · exact .inl h2
      · exact .inr ⟨rfl, bl_trans a b c h1 h2⟩
theorem bl_tri : ∀ (a b : List UInt8), Op.bytesLess a b = false → Op.bytesLess b a = false → a = b
  | [], [], _, _ => rfl
  | [], _ :: _, h, _ => by simp [Op.bytesLess] at h
  | _ :: _, [], _, h => by simp [Op.bytesLess] at h
  | x :: a, y :: b, h1, h2 => by
    simp only [Op.bytesLess, Bool.or_eq_false_iff, decide_eq_false_iff_not, Bool.and_eq_false_iff, beq_eq_false_iff_ne] at h1 h2
    have e : x = y := by
      have a1 := h1.1; have a2 := h2.1
      exact UInt8.le_antisymm (UInt8.not_lt.1 a2) (UInt8.not_lt.1 a1)
    subst e
    rw [bl_tri a b (h1.2.resolve_left (fun h => h rfl)) (h2.2.resolve_left (fun h => h rfl))]
theorem toList_inj {a b : ByteArray} (h : a.toList = b.toList) : a = b := by
  have e : ∀ c : ByteArray, c.toList = c.data.toList := fun c => Go.ByteArray.toList_eq c
  rw [e, e] at h
  cases a; cases b
  simp only [ByteArray.mk.injEq]
  exact Array.toList_inj.1 h
theorem strEq_eq (a b : ByteArray) : strEq a b = decide (a = b) := by
  unfold strEq
  rw [Bool.eq_iff_iff]
  simp only [beq_iff_eq, decide_eq_true_eq]
  exact ⟨toList_inj, fun h => by rw [h]⟩
theorem lt_irr (a : ByteArray) : strLt a a = false := bl_irr _
theorem lt_trans' {a b c : ByteArray} (h1 : strLt a b = true) (h2 : strLt b c = true) : strLt a c = true := bl_trans _ _ _ h1 h2
theorem lt_tri {a b : ByteArray} (h1 : strLt a b = false) (h2 : strLt b a = false) : a = b := toList_inj (bl_tri _ _ h1 h2)
theorem lt_asymm {a b : ByteArray} (h : strLt a b = true) : strLt b a = false := by
  cases e : strLt b a with
  | false => rfl
  | true => have := lt_trans' h e; rw [lt_irr] at this; cases this
theorem not_le (a b : ByteArray) : (!(strLt b a || strEq b a)) = strLt a b := by
  cases h : strLt a b with
  | true =>
    have h1 := lt_asymm h
    have h2 : strEq b a = false := by rw [strEq_eq]; simp; rintro rfl; rw [lt_irr] at h; cases h
    simp [h1, h2]
  | false =>
    cases h1 : strLt b a with
    | true => simp
    | false => have := lt_tri h h1; subst this; simp [strEq_eq]
end Go.Rmp
end

section
namespace Go.Rmp
def At (H : Heap) (P : Heap → Prop) : Prop := P H
theorem At.i {H : Heap} {P : Heap → Prop} (h : P H) : At H P := h
def Ext (H H' : Heap) : Prop := ∃ m, H' = H ++ m
theorem Ext.rfl' {H : Heap} : Ext H H := ⟨[], by simp⟩
theorem Ext.trans {H H' H'' : Heap} (h : Ext H H') (h' : Ext H' H'') : Ext H H'' := by
  obtain ⟨a, rfl⟩ := h; obtain ⟨b, rfl⟩ := h'; exact ⟨a ++ b, by simp⟩
theorem Ext.app {H H' : Heap} (h : Ext H H') (l : Heap) : Ext H (H' ++ l) := h.trans ⟨l, rfl⟩
theorem Ext.set {H H' : Heap} (h : Ext H H') {b : Nat} (hb : H.length ≤ b) (x : B) : Ext H (H'.set b x) := by
  obtain ⟨m, rfl⟩ := h
  exact ⟨m.set (b - H.length) x, by rw [List.set_append_right _ _ hb]⟩
theorem Ext.get {H H' : Heap} (h : Ext H H') {b : Nat} {x : B} (hx : H[b]? = some x) : H'[b]? = some x := by
  obtain ⟨m, rfl⟩ := h
  have := (List.getElem?_eq_some_iff.1 hx).1
  rw [List.getElem?_append_left this]; exact hx
theorem Ext.len {H H' : Heap} (h : Ext H H') : H.length ≤ H'.length := by obtain ⟨m, rfl⟩ := h; simp
theorem glt {H : Heap} {b : Nat} {x : B} (hx : H[b]? = some x) : b < H.length := (List.getElem?_eq_some_iff.1 hx).1
theorem g_tail {H l : Heap} {x : B} {b : Nat} (h : b = H.length) : (H ++ x :: l)[b]? = some x := by subst h; simp
theorem g_app {H l : Heap} {b : Nat} (h : b < H.length) : (H ++ l)[b]? = H[b]? := by rw [List.getElem?_append_left h]
theorem g_eq {H : Heap} {x : B} {b : Nat} (h : b < H.length) : (H.set b x)[b]? = some x := by simp [h]
theorem g_ne {H : Heap} {x : B} {b c : Nat} (h : b ≠ c) : (H.set b x)[c]? = H[c]? := by simp [h]
theorem s_tail {H l : Heap} {x y : B} {b : Nat} (h : b = H.length) : (H ++ x :: l).set b y = H ++ y :: l := by subst h; simp
theorem s_app {H l : Heap} {x : B} {b : Nat} (h : b < H.length) : (H ++ l).set b x = H.set b x ++ l := by rw [List.set_append_left _ _ h]
theorem l_app {H l : Heap} {b : Nat} (h : b < H.length) : (b < (H ++ l).length) = True := by simp; omega
theorem l_set {H : Heap} {x : B} {b c : Nat} : (b < (H.set c x).length) = (b < H.length) := by simp
theorem e_set {H : Heap} {x : B} {b c : Nat} : (b = (H.set c x).length) = (b = H.length) := by simp
def ldcB (n off : Nat) : Option B → Option (List T)
  | some (.cells cs) => if off + n ≤ cs.length then some ((cs.drop off).take n) else none
  | some (.fz cs) => if off + n ≤ cs.length then some ((cs.drop off).take n) else none
  | _ => none
theorem ldc_ptr (H : Heap) (n b off : Nat) : ldc H n (.ptr b off) = ldcB n off H[b]? := by
  simp only [ldc, ldcB]; rfl
theorem ldc_iptr (H : Heap) (n : Nat) (cs : List T) : ldc H n (.iptr cs) = if n ≤ cs.length then some (cs.take n) else none := rfl
theorem ldcB_c (n off : Nat) (cs : List T) : ldcB n off (some (.cells cs)) = if off + n ≤ cs.length then some ((cs.drop off).take n) else none := rfl
def stcB (H : Heap) (b : Nat) (vs : List T) (off : Nat) : Option B → Option Heap
  | some (.cells cs) => if off + vs.length ≤ cs.length then some (H.set b (.cells (cs.take off ++ vs ++ cs.drop (off + vs.length)))) else none
  | _ => none
theorem stc_ptr (H : Heap) (vs : List T) (b off : Nat) : stc H vs (.ptr b off) = stcB H b vs off H[b]? := by
  simp only [stc, stcB]; rfl
theorem stcB_c (H : Heap) (b : Nat) (vs : List T) (off : Nat) (cs : List T) : stcB H b vs off (some (.cells cs)) = if off + vs.length ≤ cs.length then some (H.set b (.cells (cs.take off ++ vs ++ cs.drop (off + vs.length)))) else none := rfl
theorem hset_tail (H l : Heap) (x y : B) : (H ++ x :: l).set H.length y = H ++ y :: l := s_tail rfl
theorem fad_ptr (off b o : Nat) : fadT off (.ptr b o) = some (.ptr b (o + off)) := rfl
def exitQ (id : Nat) (P : Regs → Heap → Prop) (Q : Out → Heap → Prop) : Out → Heap → Prop
  | .ex (.exit i) R, H => if i = id then P R H else Q (.ex (.exit i) R) H
  | o, H => Q o H
theorem ex_n (id : Nat) (P : Regs → Heap → Prop) (Q : Out → Heap → Prop) (R : Regs) (H : Heap) : exitQ id P Q (.ex .normal R) H = Q (.ex .normal R) H := rfl
theorem ex_r (id : Nat) (P : Regs → Heap → Prop) (Q : Out → Heap → Prop) (R : Regs) (H : Heap) : exitQ id P Q (.ex .ret R) H = Q (.ex .ret R) H := rfl
theorem ex_e (id i : Nat) (P : Regs → Heap → Prop) (Q : Out → Heap → Prop) (R : Regs) (H : Heap) : exitQ id P Q (.ex (.exit i) R) H = if i = id then P R H else Q (.ex (.exit i) R) H := rfl
theorem W.loopE {E : Env} {α : Type} {a : C} {R : Regs} {H : Heap} {Q : Out → Heap → Prop} (id : Nat) (I : α → Regs → Heap → Prop) (μ : α → Nat) (x : α) (P : Regs → Heap → Prop) (h0 : I x R H)
    (step : ∀ x R H, I x R H → wpC E a R H (thenQ (fun R' H' => ∃ y, μ y < μ x ∧ I y R' H') (exitQ id P Q))) (rest : ∀ R H, P R H → Q (.ex (.exit id) R) H) : W E (.code (.loop a) R) H Q :=
  W.use (W.loopI I μ x h0 step) fun o H' h => by
    cases o with
    | ex e R' => cases e with
      | exit i => simp only [exitQ] at h; split at h; rename_i e; subst e; exact rest _ _ h; exact h
      | normal => exact h
      | ret => exact h
    | val v => exact h
def mlook {α β : Type} [DecidableEq α] (es : List (α × β)) (k : α) : Option β := (es.find? fun e => decide (k = e.1)).map (·.2)
def mput {α β : Type} [DecidableEq α] (es : List (α × β)) (k : α) (v : β) : List (α × β) :=
  match es.findIdx? fun e => decide (k = e.1) with
  | some i => es.set i (k, v)
  | none => es ++ [(k, v)]
section
variable {α β : Type} [DecidableEq α]
theorem mlook_cons (e : α × β) (es : List (α × β)) (k : α) : mlook (e :: es) k = if k = e.1 then some e.2 else mlook es k := by
  unfold mlook; rw [List.find?_cons]; by_cases h : k = e.1 <;> simp [h]
theorem mlook_idx (es : List (α × β)) (k : α) : mlook es k = match es.findIdx? fun e => decide (k = e.1) with
    | some i => (es[i]?).map (·.2)
    | none => none := by
  induction es with
  | nil => rfl
  | cons e es ih =>
    rw [mlook_cons, List.findIdx?_cons]
    by_cases h : k = e.1
    · simp [h]
    · simp only [h, if_false, decide_false, Bool.false_eq_true, ih]
      cases List.findIdx? (fun e => decide (k = e.1)) es <;> simp
theorem idx_some {es : List (α × β)} {k : α} {i : Nat} (h : (es.findIdx? fun e => decide (k = e.1)) = some i) : ∃ v, es[i]? = some (k, v) := by
  rw [List.findIdx?_eq_some_iff_getElem] at h
  obtain ⟨hi, h, -⟩ := h
  refine ⟨es[i].2, ?_⟩
  rw [List.getElem?_eq_getElem hi]
  simp only [decide_eq_true_eq] at h
  rw [h]
end
def encK {α : Type} (ek : α → T) (es : List (α × T)) : List (T × T) := es.map fun e => (ek e.1, e.2)
structure KeyOk {α : Type} [DecidableEq α] (kt : KT) (ek : α → T) : Prop where
  has : ∀ a, (ek a).hasK kt = true
  eq : ∀ a b, keyEq (ek a) (ek b) = some (decide (a = b))
section
variable {α : Type} [DecidableEq α] {kt : KT} {ek : α → T}
theorem mfindK (ho : KeyOk kt ek) (k : α) : ∀ es : List (α × T), mfind (ek k) (encK ek es) = some (es.findIdx? fun e => decide (k = e.1))
  | [] => rfl
  | e :: es => by
    have ih := mfindK ho k es
    simp only [encK] at ih ⊢
    simp only [List.map_cons, mfind, ho.eq, List.findIdx?_cons]
    cases h : decide (k = e.1)
    · simp [ih]
    · simp
def lkpT (o : Option T) (z : T) (ok : Bool) : T := match o with
  | some v => if ok then .tup [v, .bool true] else v
  | none => if ok then .tup [z, .bool false] else z
def lkpB (kt : KT) (z : T) (ok : Bool) (H : Heap) (mb : Option B) (k : T) : Option (T × Heap) := match mb with
  | some (.map es) => if k.hasK kt then match mfind k es with
    | some (some i) => match es[i]? with
      | some e => some (if ok then .tup [e.2, .bool true] else e.2, H)
      | none => none
    | some none => some (if ok then .tup [z, .bool false] else z, H)
    | none => none else none
  | some (.rmap es _ _ _) => if k.hasK kt then match mfind k es with
    | some (some i) => match es[i]? with
      | some e => some (if ok then .tup [e.2, .bool true] else e.2, H)
      | none => none
    | some none => some (if ok then .tup [z, .bool false] else z, H)
    | none => none else none
  | _ => none
def lkpV (kt : KT) (z : T) (ok : Bool) (H : Heap) (m k : T) : Option (T × Heap) := match m with
  | .map b => lkpB kt z ok H H[b]? k
  | .nilm => if k.hasK kt then some (if ok then .tup [z, .bool false] else z, H) else none
  | _ => none
theorem ev_lkp (R : Regs) (H : Heap) (kt : KT) (z : T) (ok : Bool) (m k : X) : evop R H (.lkp kt z ok m k) = lkpV kt z ok H (m.ev R) (k.ev R) := by
  unfold lkpV lkpB
  simp only [evop]
  cases h1 : (k.ev R).hasK kt
  · simp only [Bool.false_eq_true, if_false]
    cases m.ev R with
    | map b => simp only; split <;> rfl
    | _ => rfl
  · simp only [if_true]
    cases m.ev R with
    | map b =>
      simp only [mapEs]
      cases H[b]? with
      | none => rfl
      | some x => cases x <;> rfl
    | nilm => simp only [mapEs, mfind]
    | _ => rfl
theorem lkpV_map (kt : KT) (z : T) (ok : Bool) (H : Heap) (b : Nat) (k : T) : lkpV kt z ok H (.map b) k = lkpB kt z ok H H[b]? k := rfl
theorem lkpB_K (ho : KeyOk kt ek) (z : T) (ok : Bool) (H : Heap) (es : List (α × T)) (s : α) : lkpB kt z ok H (some (.map (encK ek es))) (ek s) = some (lkpT (mlook es s) z ok, H) := by
  simp only [lkpB, ho.has, mfindK ho, if_true, mlook_idx]
  cases h : List.findIdx? (fun e => decide (s = e.1)) es with
  | none => cases ok <;> rfl
  | some i =>
    obtain ⟨v, hv⟩ := idx_some h
    have : (encK ek es)[i]? = some (ek s, v) := by simp [encK, hv]
    simp only [this, hv, lkpT, Option.map_some]
def upmB (kt : KT) (H : Heap) (b : Nat) (mb : Option B) (k v : T) : Option (T × Heap) := match mb with
  | some (.map es) => if k.hasK kt then match mfind k es with
    | some (some i) => some (undefT, H.set b (.map (es.set i (k, v))))
    | some none => some (undefT, H.set b (.map (es ++ [(k, v)])))
    | none => none else none
  | _ => none
def upmV (kt : KT) (H : Heap) (m k v : T) : Option (T × Heap) := match m with
  | .map b => upmB kt H b H[b]? k v
  | _ => none
theorem ev_upm (R : Regs) (H : Heap) (kt : KT) (m k v : X) : evop R H (.upm kt m k v) = upmV kt H (m.ev R) (k.ev R) (v.ev R) := by
  unfold upmV upmB
  simp only [evop]
  cases m.ev R with
  | map b =>
    simp only
    cases h1 : (k.ev R).hasK kt
    · simp only [Bool.false_eq_true, if_false]; split <;> rfl
    · simp only [if_true]
      cases H[b]? with
      | none => rfl
      | some x => cases x <;> rfl
  | _ => rfl
def delB (kt : KT) (H : Heap) (b : Nat) (mb : Option B) (k : T) : Option (T × Heap) := match mb with
  | some (.map es) => if k.hasK kt then match mfind k es with
    | some (some i) => some (.tup [], H.set b (.map (es.eraseIdx i)))
    | some none => some (.tup [], H)
    | none => none else none
  | _ => none
def delV (kt : KT) (H : Heap) (m k : T) : Option (T × Heap) := match m with
  | .map b => delB kt H b H[b]? k
  | _ => none
theorem ev_del (R : Regs) (H : Heap) (kt : KT) (m k : X) : evop R H (.del kt m k) = delV kt H (m.ev R) (k.ev R) := by
  unfold delV delB
  simp only [evop]
  cases m.ev R with
  | map b =>
    simp only
    cases h1 : (k.ev R).hasK kt
    · simp only [Bool.false_eq_true, if_false]; split <;> rfl
    · simp only [if_true]
      cases H[b]? with
      | none => rfl
      | some x => cases x <;> rfl
  | _ => rfl
theorem delV_map (kt : KT) (H : Heap) (b : Nat) (k : T) : delV kt H (.map b) k = delB kt H b H[b]? k := rfl
def rngB (H : Heap) (b : Nat) : Option B → Option (T × Heap)
  | some (.map es) => some (.ptr H.length 0, H.set b (.rmap es (List.range es.length) H.length none) ++ [.itr b])
  | some (.rmap es _ _ _) => some (.ptr H.length 0, H.set b (.rmap es (List.range es.length) H.length none) ++ [.itr b])
  | _ => none
def rngV (H : Heap) : T → Option (T × Heap)
  | .map b => rngB H b H[b]?
  | _ => none
theorem ev_rng (R : Regs) (H : Heap) (x : X) : evop R H (.rng x) = rngV H (x.ev R) := by
  simp only [evop]
  cases x.ev R with
  | map b =>
    simp only [mapEs, rngV]
    cases H[b]? with
    | none => rfl
    | some y => cases y <;> rfl
  | _ => rfl
theorem rngV_map (H : Heap) (b : Nat) : rngV H (.map b) = rngB H b H[b]? := rfl
theorem rngB_M (H : Heap) (b : Nat) (es : List (T × T)) : rngB H b (some (.map es)) = some (.ptr H.length 0, H.set b (.rmap es (List.range es.length) H.length none) ++ [.itr b]) := rfl
theorem ev_nxt (R : Regs) (H : Heap) (x : X) : evop R H (.nxt x) = none := rfl
def entC (H : Heap) (bi : Nat) : Option B → Option (T × Heap)
  | some (.rmap es _ bi' (some c)) => if bi' = bi then (es[c]?).map fun e => (.tup [e.1, e.2], H) else none
  | _ => none
def entB (H : Heap) (bi : Nat) : Option B → Option (T × Heap)
  | some (.itr b) => entC H bi H[b]?
  | _ => none
def entV (H : Heap) : T → Option (T × Heap)
  | .ptr bi 0 => entB H bi H[bi]?
  | _ => none
theorem ev_ent (R : Regs) (H : Heap) (x : X) : evop R H (.ent x) = entV H (x.ev R) := by
  simp only [evop]
  cases x.ev R with
  | ptr bi o =>
    cases o with
    | zero =>
      simp only [entV]
      cases H[bi]? with
      | none => rfl
      | some y => cases y with
        | itr b =>
          simp only [entB]
          cases H[b]? with
          | none => rfl
          | some z => cases z with
            | rmap es ix bi' cur => cases cur <;> rfl
            | _ => rfl
        | _ => rfl
    | succ _ => rfl
  | _ => rfl
theorem entV_ptr (H : Heap) (bi : Nat) : entV H (.ptr bi 0) = entB H bi H[bi]? := rfl
theorem entB_I (H : Heap) (bi b : Nat) : entB H bi (some (.itr b)) = entC H bi H[b]? := rfl
theorem entC_R (H : Heap) (bi : Nat) (es : List (T × T)) (ix : List Nat) (c : Nat) : entC H bi (some (.rmap es ix bi (some c))) = (es[c]?).map fun e => (.tup [e.1, e.2], H) := by simp only [entC, if_true]
def clrB (H : Heap) (b off len n n' : Nat) (z : List T) : Option B → Option (T × Heap)
  | some (.cells cs) => if n' = n ∧ z.length = n ∧ off + len * n ≤ cs.length then some (undefT, H.set b (.cells (cs.take off ++ (List.replicate len z).flatten ++ cs.drop (off + len * n)))) else none
  | _ => none
def clrV (H : Heap) (n : Nat) (z : List T) : T → Option (T × Heap)
  | .msl b off len n' => clrB H b off len n n' z H[b]?
  | _ => none
theorem ev_clr (R : Regs) (H : Heap) (n : Nat) (z : List T) (x : X) : evop R H (.clr n z x) = clrV H n z (x.ev R) := by
  simp only [evop]
  cases x.ev R with
  | msl b off len n' =>
    simp only [clrV]
    cases H[b]? with
    | none => rfl
    | some y => cases y <;> rfl
  | _ => rfl
theorem clrV_msl (H : Heap) (n : Nat) (z : List T) (b off len n' : Nat) : clrV H n z (.msl b off len n') = clrB H b off len n n' z H[b]? := rfl
theorem upmV_map (kt : KT) (H : Heap) (b : Nat) (k v : T) : upmV kt H (.map b) k v = upmB kt H b H[b]? k v := rfl
theorem upmB_K (ho : KeyOk kt ek) (H : Heap) (b : Nat) (es : List (α × T)) (s : α) (v : T) : upmB kt H b (some (.map (encK ek es))) (ek s) v = some (undefT, H.set b (.map (encK ek (mput es s v)))) := by
  simp only [upmB, ho.has, mfindK ho, if_true, mput]
  cases h : List.findIdx? (fun e => decide (s = e.1)) es with
  | none => simp [encK]
  | some i => simp [encK]
end
theorem kStr : KeyOk (.sc .str) T.str := ⟨fun _ => rfl, fun a b => by simp only [keyEq, eqSc, strEq_eq]⟩
def kU (n : Nat) : T := .int .u64 n
theorem kNat : KeyOk (.sc .int) kU := ⟨fun _ => rfl, fun a b => by simp only [kU, keyEq, eqSc, if_true, deq]⟩
theorem lkpB_M (z : T) (ok : Bool) (H : Heap) (es : List (ByteArray × T)) (s : ByteArray) : lkpB (.sc .str) z ok H (some (.map (encK T.str es))) (.str s) = some (lkpT (mlook es s) z ok, H) := lkpB_K kStr z ok H es s
theorem lkpB_N (z : T) (ok : Bool) (H : Heap) (es : List (Nat × T)) (s : Nat) : lkpB (.sc .int) z ok H (some (.map (encK kU es))) (.int .u64 s) = some (lkpT (mlook es s) z ok, H) := lkpB_K kNat z ok H es s
theorem upmB_M (H : Heap) (b : Nat) (es : List (ByteArray × T)) (s : ByteArray) (v : T) : upmB (.sc .str) H b (some (.map (encK T.str es))) (.str s) v = some (undefT, H.set b (.map (encK T.str (mput es s v)))) := upmB_K kStr H b es s v
theorem upmB_N (H : Heap) (b : Nat) (es : List (Nat × T)) (s : Nat) (v : T) : upmB (.sc .int) H b (some (.map (encK kU es))) (.int .u64 s) v = some (undefT, H.set b (.map (encK kU (mput es s v)))) := upmB_K kNat H b es s v
theorem lkp_some (v z : T) : lkpT (some v) z false = v := rfl
theorem lkp_none (z : T) : lkpT none z false = z := rfl
theorem lkp_some2 (v z : T) : lkpT (some v) z true = .tup [v, .bool true] := rfl
theorem lkp_none2 (z : T) : lkpT none z true = .tup [z, .bool false] := rfl
end Go.Rmp
end

section
namespace Go.Rmp
theorem cells_agg (l : List T) : (T.agg l).cells? = some l := rfl
theorem cells_int (k : IntKind) (n : Int) : (T.int k n).cells? = some [.int k n] := rfl
theorem cells_str (s : ByteArray) : (T.str s).cells? = some [.str s] := rfl
theorem cells_bool (s : Bool) : (T.bool s).cells? = some [.bool s] := rfl
theorem cells_sl (k : SK) (l : List (List T)) : (T.sl k l).cells? = some [.sl k l] := rfl
theorem cells_msl (a b c d : Nat) : (T.msl a b c d).cells? = some [.msl a b c d] := rfl
theorem cells_map (b : Nat) : (T.map b).cells? = some [.map b] := rfl
theorem cells_ptr (a b : Nat) : (T.ptr a b).cells? = some [.ptr a b] := rfl
theorem cells_nilm : (T.nilm).cells? = some [.nilm] := rfl
theorem cells_nilp : (T.nilp).cells? = some [.nilp] := rfl
theorem tup1 (v : T) : tupT [v] = v := rfl
theorem tup2 (v w : T) : tupT [v, w] = .tup [v, w] := rfl
theorem tup3 (v w x : T) : tupT [v, w, x] = .tup [v, w, x] := rfl
theorem er_int (k : IntKind) (n : Int) : (T.int k n).erase = .int k n := rfl
theorem er_str (s : ByteArray) : (T.str s).erase = .str s := rfl
theorem er_bool (s : Bool) : (T.bool s).erase = .bool s := rfl
theorem er_sl (k : SK) (l : List (List T)) : (T.sl k l).erase = .sl .arg l := rfl
theorem er_ptr (a b : Nat) : (T.ptr a b).erase = .ptr a b := rfl
theorem er_map (b : Nat) : (T.map b).erase = .map b := rfl
theorem er_nilm : (T.nilm).erase = .nilm := rfl
theorem er_nilp : (T.nilp).erase = .nilp := rfl
theorem el_sl (H : Heap) (n : Nat) (k : SK) (es : List (List T)) : elemsOf H n (.sl k es) = if es.all (·.length == n) then some es else none := rfl
theorem want_n (R : Regs) : wants R Option.none = true := rfl
theorem tr_imp (p : Prop) : (True → p) = p := by simp
theorem im_tr (p : Prop) : (p → True) = True := by simp
theorem imp_t (p : Prop) : (true = true → p) = p := by simp
theorem imp_f (p : Prop) : (false = true → p) = True := by simp
theorem un_not (b : Bool) : unT .not (.bool b) = some (.bool !b) := rfl
theorem bi_add (k : IntKind) (a b : Int) : binT .add (.int k a) (.int k b) = some (.int k (k.wrap (a + b))) := by simp [binT]
theorem bi_sub (k : IntKind) (a b : Int) : binT .sub (.int k a) (.int k b) = some (.int k (k.wrap (a - b))) := by simp [binT]
theorem bi_mul (k : IntKind) (a b : Int) : binT .mul (.int k a) (.int k b) = some (.int k (k.wrap (a * b))) := by simp [binT]
theorem bi_quo (k : IntKind) (a b : Int) : binT .quo (.int k a) (.int k b) = if b = 0 then none else some (.int k (k.wrap (a.tdiv b))) := by simp [binT]
theorem bi_rem (k : IntKind) (a b : Int) : binT .rem (.int k a) (.int k b) = if b = 0 then none else some (.int k (a.tmod b)) := by simp [binT]
theorem bi_shl (k k' : IntKind) (a b : Int) : binT .shl (.int k a) (.int k' b) = if b < 0 then none else some (.int k (k.wrap (a * 2 ^ (min b.toNat k.bits)))) := by simp [binT]
theorem bi_shr (k k' : IntKind) (a b : Int) : binT .shr (.int k a) (.int k' b) = if b < 0 then none else some (.int k (a.fdiv (2 ^ (min b.toNat k.bits)))) := by simp [binT]
theorem bi_and (k : IntKind) (a b : Int) : binT .and (.int k a) (.int k b) = some (.int k (k.wrap (BitVec.ofInt k.bits a &&& BitVec.ofInt k.bits b).toNat)) := by simp [binT]
theorem bi_or (k : IntKind) (a b : Int) : binT .or (.int k a) (.int k b) = some (.int k (k.wrap (BitVec.ofInt k.bits a ||| BitVec.ofInt k.bits b).toNat)) := by simp [binT]
theorem bi_xor (k : IntKind) (a b : Int) : binT .xor (.int k a) (.int k b) = some (.int k (k.wrap (BitVec.ofInt k.bits a ^^^ BitVec.ofInt k.bits b).toNat)) := by simp [binT]
theorem bi_eql (k : IntKind) (a b : Int) : binT .eql (.int k a) (.int k b) = some (.bool (a == b)) := by simp [binT]
theorem bi_neq (k : IntKind) (a b : Int) : binT .neq (.int k a) (.int k b) = some (.bool (a != b)) := by simp [binT]
theorem bi_lss (k : IntKind) (a b : Int) : binT .lss (.int k a) (.int k b) = some (.bool (a < b)) := by simp [binT]
theorem bi_leq (k : IntKind) (a b : Int) : binT .leq (.int k a) (.int k b) = some (.bool (a ≤ b)) := by simp [binT]
theorem bi_gtr (k : IntKind) (a b : Int) : binT .gtr (.int k a) (.int k b) = some (.bool (b < a)) := by simp [binT]
theorem bi_geq (k : IntKind) (a b : Int) : binT .geq (.int k a) (.int k b) = some (.bool (b ≤ a)) := by simp [binT]
theorem bs_eql (a b : ByteArray) : binT .eql (.str a) (.str b) = some (.bool (decide (a = b))) := by simp [binT, strEq_eq]
theorem bs_neq (a b : ByteArray) : binT .neq (.str a) (.str b) = some (.bool (!decide (a = b))) := by simp [binT, strEq_eq]
theorem bs_lss (a b : ByteArray) : binT .lss (.str a) (.str b) = some (.bool (strLt a b)) := by rfl
theorem bs_leq (a b : ByteArray) : binT .leq (.str a) (.str b) = some (.bool (!strLt b a)) := by have := not_le b a; simp only [binT, Option.some.injEq, T.bool.injEq]; rw [← this]; simp
theorem bs_gtr (a b : ByteArray) : binT .gtr (.str a) (.str b) = some (.bool (strLt b a)) := by have := not_le b a; simp only [binT, Option.some.injEq, T.bool.injEq]; exact this
theorem bs_geq (a b : ByteArray) : binT .geq (.str a) (.str b) = some (.bool (!strLt a b)) := by rfl
theorem bs_add (a b : ByteArray) : binT .add (.str a) (.str b) = if a.size + b.size ≤ 9223372036854775807 then some (.str (a ++ b)) else none := rfl
theorem lit_lt (a b : Nat) : decide ((a : Int) < (no_index (OfNat.ofNat b))) = decide (a < OfNat.ofNat b) := dlt a b
theorem lit_gt (a b : Nat) : decide ((no_index (OfNat.ofNat b) : Int) < (a : Int)) = decide (OfNat.ofNat b < a) := dlt b a
theorem lit_le (a b : Nat) : decide ((a : Int) ≤ (no_index (OfNat.ofNat b))) = decide (a ≤ OfNat.ofNat b) := dle a b
theorem lit_ge (a b : Nat) : decide ((no_index (OfNat.ofNat b) : Int) ≤ (a : Int)) = decide (OfNat.ofNat b ≤ a) := dle b a
theorem lit_eq (a b : Nat) : ((a : Int) == (no_index (OfNat.ofNat b))) = decide (a = OfNat.ofNat b) := deq a b
theorem lit_ne (a b : Nat) : ((a : Int) != (no_index (OfNat.ofNat b))) = !decide (a = OfNat.ofNat b) := dne a b
set_option linter.defProp false in
theorem litB_2 (n : Nat) (a b : T) (z cs : List T) : litB n (a :: b :: z) cs = .cells cs := by
  have : litz n (a :: b :: z) = false := by
    unfold litz
    split
    · rename_i h; cases h
    · rfl
  simp only [litB, this, Bool.false_eq_true, if_false]
theorem litB_u64 (n : Nat) (a : Int) (cs : List T) : litB n [.int .u64 a] cs = .cells cs := rfl
theorem litB_i64 (n : Nat) (a : Int) (cs : List T) : litB n [.int .i64 a] cs = .cells cs := rfl
theorem litB_str (n : Nat) (a : ByteArray) (cs : List T) : litB n [.str a] cs = .cells cs := rfl
theorem litB_sl (n : Nat) (k : SK) (es : List (List T)) (cs : List T) : litB n [.sl k es] cs = .cells cs := rfl
theorem litB_0 (a : Int) (cs : List T) : litB 0 [.int .u8 a] cs = .cells cs := rfl
set_option maxRecDepth 5000 in
theorem S1 : type_of% (And.intro (@litB_2) <| And.intro (@litB_u64) <| And.intro (@litB_i64) <| And.intro (@litB_str) <| And.intro (@litB_sl) <| And.intro (@litB_0) <| And.intro (@b_vf) <| And.intro (@evop.eq_37) <| And.intro (@evop.eq_38) <| And.intro (@evop.eq_43) <| And.intro (@evop.eq_44) <| And.intro (@evop.eq_45) <| And.intro (@ex_n) <| And.intro (@ex_r) <| And.intro (@ex_e) <| And.intro (@bnd.eq_1) <| And.intro (@bnd.eq_2) <| And.intro (@want_n) <| And.intro (@tr_imp) <| And.intro (@im_tr) <| And.intro (@imp_t) <| And.intro (@imp_f) <| And.intro (@step_n) <| And.intro (@List.nil_append.{0}) <| And.intro (@List.append_nil.{0}) <| And.intro (@List.cons_append.{0}) <| And.intro (@er_int) <| And.intro (@er_str) <| And.intro (@er_bool) <| And.intro (@er_sl) <| And.intro (@er_ptr) <| And.intro (@er_map) <| And.intro (@er_nilm) <| And.intro (@er_nilp) <| And.intro (@el_sl) <| And.intro (@partsT.eq_1) <| And.intro (@partsT.eq_2) <| And.intro (@fillT.eq_1) <| And.intro (@fillT.eq_2) <| And.intro (@fillE.eq_1) <| And.intro (@fillE.eq_2) <| And.intro (@fillM.eq_1) <| And.intro (@fillM.eq_2) <| And.intro (@List.replicate_zero.{0}) <| And.intro (@List.replicate_succ.{0}) <| And.intro (@List.set_cons_zero.{0}) <| And.intro (@List.set_cons_succ.{0}) <| And.intro (@List.all_cons.{0}) <| And.intro (@List.all_nil.{0}) <| And.intro (@Bool.and_true) <| And.intro (@Bool.true_and) <| And.intro (@ldc_iptr) <| And.intro (@ldc_ptr) <| And.intro (@ldcB_c) <| And.intro (@stc_ptr) <| And.intro (@stcB_c) <| And.intro (@fad_ptr) <| And.intro (@lit_lt) <| And.intro (@lit_gt) <| And.intro (@lit_le) <| And.intro (@lit_ge) <| And.intro (@lit_eq) <| And.intro (@lit_ne) <| And.intro (@b_nil) <| And.intro (@b_b) <| And.intro (@b_g) <| And.intro (@b_c) <| And.intro (@b_cg) <| And.intro (@step_s) <| And.intro (@grd_t) <| And.intro (@grd_f) <| And.intro (@grdc_t) <| And.intro (@grdc_f) <| And.intro (@c_skip) <| And.intro (@c_ops) <| And.intro (@norm_ap) <| And.intro (@c_seq) <| And.intro (@c_cond) <| And.intro (@c_block) <| And.intro (@c_exit) <| And.intro (@c_ret) <| And.intro (@c_loop) <| And.intro (@c_range) <| And.intro (@cont_ap) <| And.intro (@cond_t) <| And.intro (@cond_f) <| And.intro (@then_n) <| And.intro (@then_r) <| And.intro (@then_e) <| And.intro (@blk_n) <| And.intro (@blk_r) <| And.intro (@blk_e) <| And.intro (@Bool.false_eq_true) <| And.intro (@want_t) <| And.intro (@want_f) <| And.intro (@isT_b) <| And.intro (@isF_b) <| And.intro (@isT_u) <| And.intro (@isF_u) <| And.intro (@retg_val) <| And.intro (@retg_same) <| And.intro (@List.length_cons.{0}) <| And.intro (@List.length_nil.{0}) <| And.intro (@List.drop_succ_cons.{0}) <| And.intro (@List.drop_zero.{0}) <| And.intro (@List.take_succ_cons.{0}) <| And.intro (@List.take_zero.{0}) <| And.intro (@cells_agg) <| And.intro (@cells_int) <| And.intro (@cells_str) <| And.intro (@cells_bool) <| And.intro (@cells_sl) <| And.intro (@cells_msl) <| And.intro (@cells_map) <| And.intro (@cells_ptr) <| And.intro (@cells_nilm) <| And.intro (@cells_nilp) <| And.intro (@fadT.eq_1) <| And.intro (@fadT.eq_2) <| And.intro (@Nat.zero_add) <| And.intro (@ev_r) <| And.intro (@ev_c) <| And.intro (@stB.eq_1) <| And.intro (@stB.eq_2) <| And.intro (@updo_s) <| And.intro (@updo_n) <| And.intro (@upd_ap) <| And.intro (@regs0_0) <| And.intro (@regs0_1) <| And.intro (@regs0_2) <| And.intro (@regs0_3) <| And.intro (@regs0_4) <| And.intro (@true_and) <| And.intro (@and_true) <| And.intro (@Option.map_some.{0,0}) <| And.intro (@Option.bind_some.{0,0}) <| And.intro (@un_not) <| And.intro (@lenT.eq_1) <| And.intro (@lenT.eq_2) <| And.intro (@lenT.eq_3) <| And.intro (@lenT.eq_4) <| And.intro (@lenT.eq_5) <| And.intro (@natOf_nat) <| And.intro (@val1) <| And.intro (@valA) <| And.intro (@endQ.eq_1) <| And.intro (@endQ.eq_2) <| And.intro (@resT.eq_1) <| And.intro (@resL.eq_1) <| And.intro (@resL.eq_2) <| And.intro (@resV.eq_1) <| And.intro (@resV.eq_2) <| And.intro (@tup1) <| And.intro (@tup2) <| And.intro (@tup3) <| And.intro (@dlt) <| And.intro (@dle) <| And.intro (@deq) <| And.intro (@dne) <| And.intro (@List.map_cons.{0,0}) <| And.intro (@List.map_nil.{0,0}) <| And.intro (@decide_true) <| And.intro (@decide_false) <| And.intro (@strEq_eq) <| And.intro (@Bool.not_true) <| And.intro (@Bool.not_false) <| And.intro (@beq_self_eq_true.{0}) <| And.intro (@bne_self_eq_false.{0}) <| And.intro (@List.getElem?_cons_zero.{0}) <| And.intro (@List.getElem?_cons_succ.{0}) <| And.intro (@List.getElem?_nil.{0}) <| And.intro (@List.length_map.{0,0}) <| And.intro (@ret_val) <| And.intro (@T.bool.injEq) <| And.intro (@T.int.injEq) <| And.intro (@T.str.injEq) <| And.intro (@T.tup.injEq) <| And.intro (@evop.eq_1) <| And.intro (@evop.eq_2) <| And.intro (@evop.eq_3) <| And.intro (@evop.eq_4) <| And.intro (@evop.eq_5) <| And.intro (@evop.eq_6) <| And.intro (@evop.eq_7) <| And.intro (@evop.eq_8) <| And.intro (@evop.eq_9) <| And.intro (@evop.eq_10) <| And.intro (@evop.eq_11) <| And.intro (@evop.eq_12) <| And.intro (@evop.eq_13) <| And.intro (@evop.eq_14) <| And.intro (@evop.eq_15) <| And.intro (@evop.eq_16) <| And.intro (@evop.eq_17) <| And.intro (@evop.eq_18) <| And.intro (@evop.eq_19) <| And.intro (@evop.eq_20) <| And.intro (@evop.eq_21) <| And.intro (@evop.eq_22) <| And.intro (@evop.eq_23) <| And.intro (@evop.eq_24) <| And.intro (@evop.eq_25) <| And.intro (@evop.eq_26) <| And.intro (@ev_del) <| And.intro (@delV_map) <| And.intro (@ev_rng) <| And.intro (@rngV_map) <| And.intro (@rngB_M) <| And.intro (@ev_nxt) <| And.intro (@ev_ent) <| And.intro (@entV_ptr) <| And.intro (@entB_I) <| And.intro (@entC_R) <| And.intro (@ev_clr) <| And.intro (@clrV_msl) <| And.intro (@evop.eq_30) <| And.intro (@evop.eq_31) <| And.intro (@evop.eq_32) <| And.intro (@evop.eq_33) <| And.intro (@evop.eq_34) <| And.intro (@evop.eq_35) <| And.intro (@evop.eq_36) <| And.intro (@ev_lkp) <| And.intro (@ev_upm) <| And.intro (@lkpV_map) <| And.intro (@lkpB_M) <| And.intro (@lkpB_N) <| And.intro (@upmV_map) <| And.intro (@upmB_M) <| And.intro (@upmB_N) <| And.intro (@lkp_some) <| And.intro (@lkp_none) <| And.intro (@lkp_some2) <| And.intro (@lkp_none2) <| And.intro (@bi_add) <| And.intro (@bi_sub) <| And.intro (@bi_mul) <| And.intro (@bi_quo) <| And.intro (@bi_rem) <| And.intro (@bi_shl) <| And.intro (@bi_shr) <| And.intro (@bi_and) <| And.intro (@bi_or) <| And.intro (@bi_xor) <| And.intro (@bi_eql) <| And.intro (@bi_neq) <| And.intro (@bi_lss) <| And.intro (@bi_leq) <| And.intro (@bi_gtr) <| And.intro (@bi_geq) <| And.intro (@bs_eql) <| And.intro (@bs_neq) <| And.intro (@bs_lss) <| And.intro (@bs_leq) <| And.intro (@bs_gtr) <| And.intro (@bs_geq) <| (@bs_add)) := And.intro (@litB_2) <| And.intro (@litB_u64) <| And.intro (@litB_i64) <| And.intro (@litB_str) <| And.intro (@litB_sl) <| And.intro (@litB_0) <| And.intro (@b_vf) <| And.intro (@evop.eq_37) <| And.intro (@evop.eq_38) <| And.intro (@evop.eq_43) <| And.intro (@evop.eq_44) <| And.intro (@evop.eq_45) <| And.intro (@ex_n) <| And.intro (@ex_r) <| And.intro (@ex_e) <| And.intro (@bnd.eq_1) <| And.intro (@bnd.eq_2) <| And.intro (@want_n) <| And.intro (@tr_imp) <| And.intro (@im_tr) <| And.intro (@imp_t) <| And.intro (@imp_f) <| And.intro (@step_n) <| And.intro (@List.nil_append.{0}) <| And.intro (@List.append_nil.{0}) <| And.intro (@List.cons_append.{0}) <| And.intro (@er_int) <| And.intro (@er_str) <| And.intro (@er_bool) <| And.intro (@er_sl) <| And.intro (@er_ptr) <| And.intro (@er_map) <| And.intro (@er_nilm) <| And.intro (@er_nilp) <| And.intro (@el_sl) <| And.intro (@partsT.eq_1) <| And.intro (@partsT.eq_2) <| And.intro (@fillT.eq_1) <| And.intro (@fillT.eq_2) <| And.intro (@fillE.eq_1) <| And.intro (@fillE.eq_2) <| And.intro (@fillM.eq_1) <| And.intro (@fillM.eq_2) <| And.intro (@List.replicate_zero.{0}) <| And.intro (@List.replicate_succ.{0}) <| And.intro (@List.set_cons_zero.{0}) <| And.intro (@List.set_cons_succ.{0}) <| And.intro (@List.all_cons.{0}) <| And.intro (@List.all_nil.{0}) <| And.intro (@Bool.and_true) <| And.intro (@Bool.true_and) <| And.intro (@ldc_iptr) <| And.intro (@ldc_ptr) <| And.intro (@ldcB_c) <| And.intro (@stc_ptr) <| And.intro (@stcB_c) <| And.intro (@fad_ptr) <| And.intro (@lit_lt) <| And.intro (@lit_gt) <| And.intro (@lit_le) <| And.intro (@lit_ge) <| And.intro (@lit_eq) <| And.intro (@lit_ne) <| And.intro (@b_nil) <| And.intro (@b_b) <| And.intro (@b_g) <| And.intro (@b_c) <| And.intro (@b_cg) <| And.intro (@step_s) <| And.intro (@grd_t) <| And.intro (@grd_f) <| And.intro (@grdc_t) <| And.intro (@grdc_f) <| And.intro (@c_skip) <| And.intro (@c_ops) <| And.intro (@norm_ap) <| And.intro (@c_seq) <| And.intro (@c_cond) <| And.intro (@c_block) <| And.intro (@c_exit) <| And.intro (@c_ret) <| And.intro (@c_loop) <| And.intro (@c_range) <| And.intro (@cont_ap) <| And.intro (@cond_t) <| And.intro (@cond_f) <| And.intro (@then_n) <| And.intro (@then_r) <| And.intro (@then_e) <| And.intro (@blk_n) <| And.intro (@blk_r) <| And.intro (@blk_e) <| And.intro (@Bool.false_eq_true) <| And.intro (@want_t) <| And.intro (@want_f) <| And.intro (@isT_b) <| And.intro (@isF_b) <| And.intro (@isT_u) <| And.intro (@isF_u) <| And.intro (@retg_val) <| And.intro (@retg_same) <| And.intro (@List.length_cons.{0}) <| And.intro (@List.length_nil.{0}) <| And.intro (@List.drop_succ_cons.{0}) <| And.intro (@List.drop_zero.{0}) <| And.intro (@List.take_succ_cons.{0}) <| And.intro (@List.take_zero.{0}) <| And.intro (@cells_agg) <| And.intro (@cells_int) <| And.intro (@cells_str) <| And.intro (@cells_bool) <| And.intro (@cells_sl) <| And.intro (@cells_msl) <| And.intro (@cells_map) <| And.intro (@cells_ptr) <| And.intro (@cells_nilm) <| And.intro (@cells_nilp) <| And.intro (@fadT.eq_1) <| And.intro (@fadT.eq_2) <| And.intro (@Nat.zero_add) <| And.intro (@ev_r) <| And.intro (@ev_c) <| And.intro (@stB.eq_1) <| And.intro (@stB.eq_2) <| And.intro (@updo_s) <| And.intro (@updo_n) <| And.intro (@upd_ap) <| And.intro (@regs0_0) <| And.intro (@regs0_1) <| And.intro (@regs0_2) <| And.intro (@regs0_3) <| And.intro (@regs0_4) <| And.intro (@true_and) <| And.intro (@and_true) <| And.intro (@Option.map_some.{0,0}) <| And.intro (@Option.bind_some.{0,0}) <| And.intro (@un_not) <| And.intro (@lenT.eq_1) <| And.intro (@lenT.eq_2) <| And.intro (@lenT.eq_3) <| And.intro (@lenT.eq_4) <| And.intro (@lenT.eq_5) <| And.intro (@natOf_nat) <| And.intro (@val1) <| And.intro (@valA) <| And.intro (@endQ.eq_1) <| And.intro (@endQ.eq_2) <| And.intro (@resT.eq_1) <| And.intro (@resL.eq_1) <| And.intro (@resL.eq_2) <| And.intro (@resV.eq_1) <| And.intro (@resV.eq_2) <| And.intro (@tup1) <| And.intro (@tup2) <| And.intro (@tup3) <| And.intro (@dlt) <| And.intro (@dle) <| And.intro (@deq) <| And.intro (@dne) <| And.intro (@List.map_cons.{0,0}) <| And.intro (@List.map_nil.{0,0}) <| And.intro (@decide_true) <| And.intro (@decide_false) <| And.intro (@strEq_eq) <| And.intro (@Bool.not_true) <| And.intro (@Bool.not_false) <| And.intro (@beq_self_eq_true.{0}) <| And.intro (@bne_self_eq_false.{0}) <| And.intro (@List.getElem?_cons_zero.{0}) <| And.intro (@List.getElem?_cons_succ.{0}) <| And.intro (@List.getElem?_nil.{0}) <| And.intro (@List.length_map.{0,0}) <| And.intro (@ret_val) <| And.intro (@T.bool.injEq) <| And.intro (@T.int.injEq) <| And.intro (@T.str.injEq) <| And.intro (@T.tup.injEq) <| And.intro (@evop.eq_1) <| And.intro (@evop.eq_2) <| And.intro (@evop.eq_3) <| And.intro (@evop.eq_4) <| And.intro (@evop.eq_5) <| And.intro (@evop.eq_6) <| And.intro (@evop.eq_7) <| And.intro (@evop.eq_8) <| And.intro (@evop.eq_9) <| And.intro (@evop.eq_10) <| And.intro (@evop.eq_11) <| And.intro (@evop.eq_12) <| And.intro (@evop.eq_13) <| And.intro (@evop.eq_14) <| And.intro (@evop.eq_15) <| And.intro (@evop.eq_16) <| And.intro (@evop.eq_17) <| And.intro (@evop.eq_18) <| And.intro (@evop.eq_19) <| And.intro (@evop.eq_20) <| And.intro (@evop.eq_21) <| And.intro (@evop.eq_22) <| And.intro (@evop.eq_23) <| And.intro (@evop.eq_24) <| And.intro (@evop.eq_25) <| And.intro (@evop.eq_26) <| And.intro (@ev_del) <| And.intro (@delV_map) <| And.intro (@ev_rng) <| And.intro (@rngV_map) <| And.intro (@rngB_M) <| And.intro (@ev_nxt) <| And.intro (@ev_ent) <| And.intro (@entV_ptr) <| And.intro (@entB_I) <| And.intro (@entC_R) <| And.intro (@ev_clr) <| And.intro (@clrV_msl) <| And.intro (@evop.eq_30) <| And.intro (@evop.eq_31) <| And.intro (@evop.eq_32) <| And.intro (@evop.eq_33) <| And.intro (@evop.eq_34) <| And.intro (@evop.eq_35) <| And.intro (@evop.eq_36) <| And.intro (@ev_lkp) <| And.intro (@ev_upm) <| And.intro (@lkpV_map) <| And.intro (@lkpB_M) <| And.intro (@lkpB_N) <| And.intro (@upmV_map) <| And.intro (@upmB_M) <| And.intro (@upmB_N) <| And.intro (@lkp_some) <| And.intro (@lkp_none) <| And.intro (@lkp_some2) <| And.intro (@lkp_none2) <| And.intro (@bi_add) <| And.intro (@bi_sub) <| And.intro (@bi_mul) <| And.intro (@bi_quo) <| And.intro (@bi_rem) <| And.intro (@bi_shl) <| And.intro (@bi_shr) <| And.intro (@bi_and) <| And.intro (@bi_or) <| And.intro (@bi_xor) <| And.intro (@bi_eql) <| And.intro (@bi_neq) <| And.intro (@bi_lss) <| And.intro (@bi_leq) <| And.intro (@bi_gtr) <| And.intro (@bi_geq) <| And.intro (@bs_eql) <| And.intro (@bs_neq) <| And.intro (@bs_lss) <| And.intro (@bs_leq) <| And.intro (@bs_gtr) <| And.intro (@bs_geq) <| (@bs_add)
theorem S2 : type_of% (And.intro (@not_false_eq_true) <| And.intro (@ne_eq.{1}) <| And.intro (@Nat.lt_succ_self) <| And.intro (@g_tail) <| And.intro (@g_app) <| And.intro (@g_eq) <| And.intro (@g_ne) <| And.intro (@s_tail) <| And.intro (@s_app) <| And.intro (@l_app) <| And.intro (@l_set) <| And.intro (@e_set) <| And.intro (@List.nil_append.{0}) <| And.intro (@List.append_nil.{0}) <| And.intro (@List.cons_append.{0}) (@List.drop_nil.{0})) := And.intro (@not_false_eq_true) <| And.intro (@ne_eq.{1}) <| And.intro (@Nat.lt_succ_self) <| And.intro (@g_tail) <| And.intro (@g_app) <| And.intro (@g_eq) <| And.intro (@g_ne) <| And.intro (@s_tail) <| And.intro (@s_app) <| And.intro (@l_app) <| And.intro (@l_set) <| And.intro (@e_set) <| And.intro (@List.nil_append.{0}) <| And.intro (@List.append_nil.{0}) <| And.intro (@List.cons_append.{0}) (@List.drop_nil.{0})
end Go.Rmp
end

section
namespace Go.Rmp
section
variable {α : Type} {enc : α → List T} {n : Nat}
def msC (enc : α → List T) (xs : List α) : List T := xs.flatMap enc
theorem msC_len (hn : ∀ x, (enc x).length = n) : ∀ xs : List α, (msC enc xs).length = xs.length * n
  | [] => by simp [msC]
  | x :: xs => by
    have := msC_len hn xs
    simp only [msC, List.flatMap_cons, List.length_append, hn, List.length_cons] at this ⊢
    rw [this, Nat.add_mul]; omega
theorem msC_drop (hn : ∀ x, (enc x).length = n) : ∀ (xs : List α) (i : Nat), (msC enc xs).drop (i * n) = msC enc (xs.drop i)
  | xs, 0 => by simp
  | [], i + 1 => by simp [msC]
  | x :: xs, i + 1 => by
    have := msC_drop hn xs i
    simp only [msC, List.flatMap_cons, List.drop_succ_cons] at this ⊢
    rw [show (i + 1) * n = (enc x).length + i * n by rw [hn, Nat.add_mul]; omega, List.drop_append, List.drop_eq_nil_of_le (by omega)]
    simp [this]
theorem msC_take (hn : ∀ x, (enc x).length = n) : ∀ (xs : List α) (i : Nat), (msC enc xs).take (i * n) = msC enc (xs.take i)
  | xs, 0 => by simp [msC]
  | [], i + 1 => by simp [msC]
  | x :: xs, i + 1 => by
    have := msC_take hn xs i
    simp only [msC, List.flatMap_cons, List.take_succ_cons] at this ⊢
    rw [show (i + 1) * n = (enc x).length + i * n by rw [hn, Nat.add_mul]; omega, List.take_append, List.take_of_length_le (by omega)]
    simp [this]
theorem msC_get (hn : ∀ x, (enc x).length = n) {xs : List α} {i : Nat} {x : α} (hx : xs[i]? = some x) (off m : Nat) (h : off + m ≤ n) : ldcB m (i * n + off) (some (.cells (msC enc xs))) = some (((enc x).drop off).take m) := by
  have hi := (List.getElem?_eq_some_iff.1 hx).1
  have h1 : i * n + n ≤ xs.length * n := by rw [← Nat.succ_mul]; exact Nat.mul_le_mul_right n hi
  have e : (msC enc xs).drop (i * n) = enc x ++ msC enc (xs.drop (i + 1)) := by
    rw [msC_drop hn, List.drop_eq_getElem_cons hi]
    have : xs[i] = x := (List.getElem?_eq_some_iff.1 hx).2
    rw [this]; rfl
  rw [ldcB_c, if_pos (by rw [msC_len hn]; omega), ← List.drop_drop, e, List.drop_append, List.take_append, hn]
  rw [show m - ((enc x).drop off).length = 0 by rw [List.length_drop, hn]; omega]
  simp
theorem msC_set (hn : ∀ x, (enc x).length = n) {xs : List α} {i : Nat} {x y : α} (hx : xs[i]? = some x) (H : Heap) (b : Nat) (vs : List T) (off : Nat) (h : off + vs.length ≤ n) (hy : enc y = (enc x).take off ++ vs ++ (enc x).drop (off + vs.length)) :
    stcB H b vs (i * n + off) (some (.cells (msC enc xs))) = some (H.set b (.cells (msC enc (xs.set i y)))) := by
  have hi := (List.getElem?_eq_some_iff.1 hx).1
  have hxi : xs[i] = x := (List.getElem?_eq_some_iff.1 hx).2
  have h1 : i * n + n ≤ xs.length * n := by rw [← Nat.succ_mul]; exact Nat.mul_le_mul_right n hi
  rw [stcB_c, if_pos (by rw [msC_len hn]; omega)]
  have e : (msC enc xs).drop (i * n) = enc x ++ msC enc (xs.drop (i + 1)) := by
    rw [msC_drop hn, List.drop_eq_getElem_cons hi, hxi]; rfl
  have t : (msC enc xs).take (i * n + off) = msC enc (xs.take i) ++ (enc x).take off := by
    rw [List.take_add, msC_take hn, e, List.take_append, hn, show off - n = 0 by omega]; simp
  have d : (msC enc xs).drop (i * n + off + vs.length) = (enc x).drop (off + vs.length) ++ msC enc (xs.drop (i + 1)) := by
    rw [Nat.add_assoc, ← List.drop_drop, e, List.drop_append, hn, show off + vs.length - n = 0 by omega]; simp
  rw [t, d]
  have : xs.set i y = xs.take i ++ y :: xs.drop (i + 1) := by rw [List.set_eq_take_append_cons_drop, if_pos hi]
  rw [this]
  simp only [msC, List.flatMap_append, List.flatMap_cons, hy, List.append_assoc]
theorem msC_rep (k : Nat) (z : α) : (List.replicate k (enc z)).flatten = msC enc (List.replicate k z) := by
  induction k with
  | zero => rfl
  | succ k ih => simp only [List.replicate_succ, List.flatten_cons, ih, msC, List.flatMap_cons]
end
theorem iad_m (n i b off len : Nat) : iadT n i (.msl b off len n) = if i < len then if n = 0 then none else some (.ptr b (off + i * n)) else none := by
  simp only [iadT, true_and, ne_eq]
  by_cases h : i < len <;> by_cases h' : n = 0 <;> simp [h, h']
def Apd (n0 : Nat) (H : Heap) (k : SK) : Prop := k = .nil ∨ k = .full ∨ ∃ t e, k = .own t e ∧ n0 ≤ t ∧ H[t]? = some (.tok e)
structure Stay (n0 : Nat) (H : Heap) (k : SK) (H' : Heap) : Prop where
  len : H.length ≤ H'.length
  get : ∀ b x, H[b]? = some x → (∀ e, k ≠ .own b e) → H'[b]? = some x
  ext : ∀ H0 : Heap, H0.length ≤ n0 → Ext H0 H → Ext H0 H'
theorem Stay.cells {n0 : Nat} {H H' : Heap} {k : SK} (h : Stay n0 H k H') (ha : Apd n0 H k) {b : Nat} {x : B} (hx : H[b]? = some x) (ht : ∀ e, x ≠ .tok e) : H'[b]? = some x := h.get b x hx fun e he => by
  rcases ha with h | h | ⟨t, e', h, _, h'⟩
  · rw [he] at h; cases h
  · rw [he] at h; cases h
  · rw [he] at h; cases h; rw [hx] at h'; cases h'; exact ht _ rfl
theorem app_ok {n0 : Nat} {H : Heap} {k : SK} {bytes : Nat} (es new : List (List T)) (hk : Apd n0 H k) (hn0 : n0 ≤ H.length) (hnew : new ≠ []) (hr : roomOk (es.length + new.length) bytes = true) :
    ∃ k' H', appT H bytes k es new = some (.sl k' (es ++ new.map (·.map T.erase)), H') ∧ Apd n0 H' k' ∧ Stay n0 H k H' := by
  unfold appT
  cases new with
  | nil => exact absurd rfl hnew
  | cons c new =>
    simp only [hr, if_true]
    rcases hk with rfl | rfl | ⟨t, e, rfl, ht, hg⟩
    · exact ⟨_, _, rfl, .inr (.inr ⟨_, _, rfl, hn0, g_tail rfl⟩), ⟨by simp, fun b x hx _ => by rw [g_app (glt hx)]; exact hx, fun H0 _ h => h.app _⟩⟩
    · exact ⟨_, _, rfl, .inr (.inr ⟨_, _, rfl, hn0, g_tail rfl⟩), ⟨by simp, fun b x hx _ => by rw [g_app (glt hx)]; exact hx, fun H0 _ h => h.app _⟩⟩
    · simp only [hg, if_true]
      refine ⟨_, _, rfl, .inr (.inr ⟨_, _, rfl, ht, g_eq (glt hg)⟩), ⟨by simp, fun b x hx hne => ?_, fun H0 h0 h => h.set (Nat.le_trans h0 ht) _⟩⟩
      have : t ≠ b := fun h => hne e (by rw [h])
      rw [g_ne this]; exact hx
theorem apd_nil (n0 : Nat) (H : Heap) : Apd n0 H .nil := .inl rfl
theorem Apd.ext {n0 : Nat} {H H' : Heap} {k : SK} (h : Apd n0 H k) (hx : Ext H H') : Apd n0 H' k := by
  rcases h with h | h | ⟨t, e, h, h1, h2⟩
  · exact .inl h
  · exact .inr (.inl h)
  · exact .inr (.inr ⟨t, e, h, h1, hx.get h2⟩)
theorem Apd.set {n0 : Nat} {H : Heap} {k : SK} (h : Apd n0 H k) {c : Nat} {x : B} (hx : H[c]? = some x) (ht : ∀ e, x ≠ .tok e) (y : B) : Apd n0 (H.set c y) k := by
  rcases h with h | h | ⟨t, e, h, h1, h2⟩
  · exact .inl h
  · exact .inr (.inl h)
  · refine .inr (.inr ⟨t, e, h, h1, ?_⟩)
    have : c ≠ t := fun he => by subst he; rw [hx] at h2; cases h2; exact ht _ rfl
    rw [g_ne this]; exact h2
theorem all_map {α : Type} {enc : α → List T} {n : Nat} (hn : ∀ x, (enc x).length = n) (l : List α) : (l.map enc).all (fun c => c.length == n) = true := by simp [hn]
def Mut {α : Type} (enc : α → List T) (n n0 : Nat) (H : Heap) (t : T) (l : List α) : Prop :=
  (l = [] ∧ t = .sl .nil []) ∨ ∃ b, t = .msl b 0 l.length n ∧ H[b]? = some (.cells (msC enc l)) ∧ n0 ≤ b
theorem mut_nil {α : Type} (enc : α → List T) (n n0 : Nat) (H : Heap) : Mut enc n n0 H (.sl .nil []) [] := .inl ⟨rfl, rfl⟩
theorem Mut.ext {α : Type} {enc : α → List T} {n n0 : Nat} {H H' : Heap} {t : T} {l : List α} (h : Mut enc n n0 H t l) (hx : Ext H H') : Mut enc n n0 H' t l := by
  rcases h with h | ⟨b, h1, h2, h3⟩
  · exact .inl h
  · exact .inr ⟨b, h1, hx.get h2, h3⟩
theorem Mut.len {α : Type} {enc : α → List T} {n n0 : Nat} {H : Heap} {t : T} {l : List α} (h : Mut enc n n0 H t l) : lenT H .sl t = some l.length := by
  rcases h with ⟨rfl, rfl⟩ | ⟨b, rfl, _, _⟩ <;> rfl
structure StayM (n0 : Nat) (H : Heap) (t : T) (H' : Heap) : Prop where
  len : H.length ≤ H'.length
  get : ∀ b x, H[b]? = some x → (∀ off len n, t ≠ .msl b off len n) → H'[b]? = some x
  ext : ∀ H0 : Heap, H0.length ≤ n0 → Ext H0 H → Ext H0 H'
theorem appM_ok {α : Type} {enc : α → List T} {n n0 : Nat} (hn : ∀ x, (enc x).length = n) {H : Heap} {t : T} {l : List α} {bytes : Nat} (new : List α) (h : Mut enc n n0 H t l) (hn0 : n0 ≤ H.length) (hnew : new ≠ []) (hr : roomOk (l.length + new.length) bytes = true) :
    ∃ t' H', appM H n bytes t (new.map enc) = some (t', H') ∧ Mut enc n n0 H' t' (l ++ new) ∧ StayM n0 H t H' := by
  have hfl : (new.map enc).flatten = msC enc new := by simp [msC, List.flatMap]
  have happ : ∀ l : List α, msC enc l ++ msC enc new = msC enc (l ++ new) := fun l => by simp [msC]
  unfold appM
  cases new with
  | nil => exact absurd rfl hnew
  | cons c new =>
    rcases h with ⟨rfl, rfl⟩ | ⟨b, rfl, hb, hb0⟩
    · simp only [List.map_cons, List.length_cons, List.length_nil, List.length_map, Nat.zero_add] at hr hfl ⊢
      simp only [hr, and_true, if_true]
      refine ⟨_, _, rfl, .inr ⟨H.length, by simp, ?_, hn0⟩, ⟨by simp, fun b x hx _ => by rw [g_app (glt hx)]; exact hx, fun H0 _ h => h.app _⟩⟩
      rw [g_tail rfl, hfl]; rfl
    · have hc : l.length * n = (msC enc l).length := (msC_len hn l).symm
      simp only [List.map_cons, List.length_cons, List.length_map] at hr hfl ⊢
      simp only [hb, hc, hr, and_self, if_true]
      refine ⟨_, _, rfl, .inr ⟨H.length, by simp, ?_, hn0⟩, ⟨by simp, fun b' x hx hne => ?_, fun H0 h0 h => (h.set (Nat.le_trans h0 hb0) _).app _⟩⟩
      · rw [g_tail (by simp), hfl, happ]
      · have hbb : b ≠ b' := fun e => hne 0 l.length n (by rw [e])
        rw [g_app (by rw [List.length_set]; exact glt hx), g_ne hbb]; exact hx
theorem frzE_ms {α : Type} {enc : α → List T} {n : Nat} (hn : ∀ x, (enc x).length = n) (l : List α) : frzE (msC enc l) 0 l.length n = l.map enc := by
  unfold frzE
  refine List.ext_getElem? fun i => ?_
  by_cases hi : i < l.length
  · have := msC_get hn (List.getElem?_eq_getElem hi) 0 n (by omega)
    rw [ldcB_c] at this
    split at this
    · simp only [Option.some.injEq, Nat.add_zero, List.drop_zero] at this
      simp only [List.getElem?_map, List.getElem?_range hi, Option.map_some, Nat.zero_add, this, List.getElem?_eq_getElem hi]
      rw [List.take_of_length_le (by rw [hn]; omega)]
    · cases this
  · rw [List.getElem?_eq_none (by simp; omega), List.getElem?_eq_none (by simp; omega)]
theorem W.frz1 {α : Type} {enc : α → List T} {n : Nat} (hn : ∀ x, (enc x).length = n) {E : Env} {f : Nat} {az : List T} {H : Heap} {l : List α} {Q : Out → Heap → Prop}
    (h : W E (.call f az) H (fun o H' => ∃ b, o = .val (.msl b 0 l.length n) ∧ H'[b]? = some (.cells (msC enc l)) ∧ Q (.val (.sl .arg (l.map enc))) (H'.set b .dead))) : W E (.call f az) H Q := by
  refine .frz _ h fun o H' ⟨b, ho, hb, hq⟩ => ⟨_, b, _, ho, rfl, hb, ?_⟩
  have hc : 0 + l.length * n ≤ (msC enc l).length := by rw [msC_len hn]; omega
  simp only [frzV, Go.Rmp.frz1, hc, and_self, if_true, frzE_ms hn]
  exact hq
end Go.Rmp
end

section
namespace Go.Rmp
set_option maxRecDepth 10000
abbrev o1 (d : Nat) (b : Bo) : O := ⟨some d, .b b, none, []⟩
def insIR (n bytes : Nat) (z : List T) (fr : Nat) : Fn := ⟨95, 3, [.t 6],
  C.seq (.ops [o1 6 (.mov (.c (.sl .nil [])))]) <|
  C.seq (.ops [o1 10 (.mov (.r 0)), o1 11 (.mov (.r 1)), o1 12 (.sll n (.r 10) (some (.r 11)) none none)]) <|
  C.seq (.ops [o1 13 (.mov (.r 2)), o1 14 (.len .sl (.r 13)), o1 7 (.mov (.r 14))]) <|
  C.seq (C.seq (.ops [o1 15 (.mov (.r 7)), o1 16 (.bin .eql (.r 15) (.c (.int .i64 0)))]) <|
  .cond (.r 16)
    (C.seq (.ops [o1 17 (.mov (.r 0)), o1 6 (.mov (.r 17))]) <|
    .ret)
    (.skip)) <|
  C.seq (.ops [o1 18 (.mov (.r 0)), o1 19 (.len .sl (.r 18)), o1 8 (.mov (.r 19))]) <|
  C.seq (C.seq (.ops [o1 20 (.mov (.r 1)), o1 21 (.mov (.r 8)), o1 22 (.bin .eql (.r 20) (.r 21))]) <|
  .cond (.r 22)
    (C.seq (.ops [o1 23 (.mov (.r 0)), o1 24 (.mov (.r 2)), o1 25 (.app n bytes true (.r 23) (.r 24)), o1 6 (.mov (.r 25))]) <|
    .ret)
    (.skip)) <|
  C.seq (C.seq (.ops [o1 26 (.mov (.r 8)), o1 27 (.mov (.r 7)), o1 28 (.bin .add (.r 26) (.r 27)), o1 29 (.mov (.r 0)), o1 30 (.cap (.r 29)), o1 31 (.bin .gtr (.r 28) (.r 30))]) <|
  .cond (.r 31)
    (C.seq (.ops [o1 32 (.mov (.r 0)), o1 33 (.mov (.r 1)), o1 34 (.sll n (.r 32) none (some (.r 33)) none), o1 35 (.mov (.r 8)), o1 36 (.mov (.r 7)), o1 37 (.bin .add (.r 35) (.r 36)), o1 38 (.mov (.r 1)), o1 39 (.bin .sub (.r 37) (.r 38)), o1 40 (.apz n bytes z (.r 34) (.r 39)), o1 9 (.mov (.r 40))]) <|
    C.seq (.ops [o1 41 (.mov (.r 9)), o1 42 (.mov (.r 1)), o1 43 (.sll n (.r 41) (some (.r 42)) none none), o1 44 (.mov (.r 2)), o1 45 (.cpy n (.r 43) (.r 44))]) <|
    C.seq (.ops [o1 46 (.mov (.r 9)), o1 47 (.mov (.r 1)), o1 48 (.mov (.r 7)), o1 49 (.bin .add (.r 47) (.r 48)), o1 50 (.sll n (.r 46) (some (.r 49)) none none), o1 51 (.mov (.r 0)), o1 52 (.mov (.r 1)), o1 53 (.sll n (.r 51) (some (.r 52)) none none), o1 54 (.cpy n (.r 50) (.r 53))]) <|
    C.seq (.ops [o1 55 (.mov (.r 9)), o1 6 (.mov (.r 55))]) <|
    .ret)
    (.skip)) <|
  C.seq (.ops [o1 56 (.mov (.r 0)), o1 57 (.mov (.r 8)), o1 58 (.mov (.r 7)), o1 59 (.bin .add (.r 57) (.r 58)), o1 60 (.sll n (.r 56) none (some (.r 59)) none), o1 0 (.mov (.r 60))]) <|
  C.seq (C.seq (.ops [o1 61 (.mov (.r 2)), o1 62 (.mov (.r 0)), o1 63 (.mov (.r 1)), o1 64 (.mov (.r 7)), o1 65 (.bin .add (.r 63) (.r 64)), o1 66 (.sll n (.r 62) (some (.r 65)) none none), o1 67 (.ovl n (.r 61) (.r 66)), o1 68 (.un .not (.r 67))]) <|
  .cond (.r 68)
    (C.seq (.ops [o1 69 (.mov (.r 0)), o1 70 (.mov (.r 1)), o1 71 (.mov (.r 7)), o1 72 (.bin .add (.r 70) (.r 71)), o1 73 (.sll n (.r 69) (some (.r 72)) none none), o1 74 (.mov (.r 0)), o1 75 (.mov (.r 1)), o1 76 (.sll n (.r 74) (some (.r 75)) none none), o1 77 (.cpy n (.r 73) (.r 76))]) <|
    C.seq (.ops [o1 78 (.mov (.r 0)), o1 79 (.mov (.r 1)), o1 80 (.sll n (.r 78) (some (.r 79)) none none), o1 81 (.mov (.r 2)), o1 82 (.cpy n (.r 80) (.r 81))]) <|
    C.seq (.ops [o1 83 (.mov (.r 0)), o1 6 (.mov (.r 83))]) <|
    .ret)
    (.skip)) <|
  C.seq (.ops [o1 84 (.mov (.r 0)), o1 85 (.mov (.r 8)), o1 86 (.sll n (.r 84) (some (.r 85)) none none), o1 87 (.mov (.r 2)), o1 88 (.cpy n (.r 86) (.r 87))]) <|
  C.seq (.ops [o1 89 (.mov (.r 0)), o1 90 (.mov (.r 1)), o1 91 (.sll n (.r 89) (some (.r 90)) none none), o1 92 (.mov (.r 7)), ⟨some 93, .call fr [(.r 91), (.r 92)], none, []⟩]) <|
  C.seq (.ops [o1 94 (.mov (.r 0)), o1 6 (.mov (.r 94))]) <|
  .ret⟩
section
variable {α : Type} {enc : α → List T} {n : Nat}
theorem elemsK_ms (hn : ∀ x, (enc x).length = n) {H : Heap} {b : Nat} {xs : List α} (hb : H[b]? = some (.cells (msC enc xs))) (j k l c : Nat) (hjk : j + k ≤ xs.length) :
    elemsK H n k (.msl b (j * n) l n) = some (((xs.drop j).take k).map enc) ∧ elemsK H n k (.mslc b (j * n) l n c) = some (((xs.drop j).take k).map enc) := by
  have hm : j * n + k * n ≤ (msC enc xs).length := by rw [msC_len hn, ← Nat.add_mul]; exact Nat.mul_le_mul_right n hjk
  have e : (List.range k).map (fun i => ((msC enc xs).drop (j * n + i * n)).take n) = ((xs.drop j).take k).map enc := by
    have h1 := frzE_ms hn ((xs.drop j).take k)
    have hl : ((xs.drop j).take k).length = k := by simp; omega
    rw [hl] at h1
    rw [← h1]
    unfold frzE
    refine List.map_congr_left fun i hi => ?_
    have hi := List.mem_range.1 hi
    rw [Nat.zero_add, ← msC_take hn, ← msC_drop hn, List.drop_take, List.drop_drop, List.take_take]
    congr 1
    have : i * n + n ≤ k * n := by rw [← Nat.succ_mul]; exact Nat.mul_le_mul_right n hi
    omega
  simp -implicitDefEqProofs only [elemsK, hb, hm, and_self, if_true, e]
theorem cpy_ms (hn : ∀ x, (enc x).length = n) (hn0 : n ≠ 0) {H : Heap} {b : Nat} {xs ys : List α} {y : T} {ly len : Nat} (hb : H[b]? = some (.cells (msC enc xs))) (j c : Nat) (hj : j ≤ xs.length) (hly : lenM y = some ly) (hy : elemsK H n (min ly len) y = some (ys.map enc)) (hyl : ys.length = min ly len) :
    cpyT H n (.msl b (j * n) len n) y = some (.int .i64 (min ly len : Nat), H.set b (.cells (msC enc (xs.take j ++ ys ++ xs.drop (j + ys.length))))) ∧
    cpyT H n (.mslc b (j * n) len n c) y = some (.int .i64 (min ly len : Nat), H.set b (.cells (msC enc (xs.take j ++ ys ++ xs.drop (j + ys.length))))) := by
  have h1 : j * n ≤ (msC enc xs).length := by rw [msC_len hn]; exact Nat.mul_le_mul_right n hj
  have e : (msC enc xs).take (j * n) ++ (ys.map enc).flatten ++ (msC enc xs).drop (j * n + (min ly len) * n) = msC enc (xs.take j ++ ys ++ xs.drop (j + ys.length)) := by
    rw [← hyl, ← Nat.add_mul, msC_take hn, msC_drop hn]
    simp [msC, List.flatMap]
  simp -implicitDefEqProofs only [cpyT, hly, hb, hy, h1, hn0, ne_eq, not_false_eq_true, and_self, if_true, e]
theorem apz_ms (hn : ∀ x, (enc x).length = n) (hn0 : n ≠ 0) {H : Heap} {b bytes : Nat} {xs : List α} (zv : α) (hb : H[b]? = some (.cells (msC enc xs))) (i k c : Nat) (hi : i ≤ xs.length) (hk : 0 < k) (hc : c < i + k) (hr : roomOk (i + k) bytes = true) :
    apzT H n bytes (enc zv) (.mslc b 0 i n c) k = some (.msl H.length 0 (i + k) n, H ++ [.cells (msC enc (xs.take i ++ List.replicate k zv))]) := by
  have h1 := (elemsK_ms hn hb 0 i i c (by omega)).2
  rw [Nat.zero_mul] at h1
  have e : ((xs.take i).map enc).flatten ++ (List.replicate k (enc zv)).flatten = msC enc (xs.take i ++ List.replicate k zv) := by
    rw [msC_rep]; simp [msC, List.flatMap]
  simp -implicitDefEqProofs only [List.drop_zero] at h1
  simp -implicitDefEqProofs only [apzT, h1, hn0, ne_eq, not_false_eq_true, hk, hc, hn, hr, and_self, if_true, e]
theorem elems_one (hn : ∀ x, (enc x).length = n) {H : Heap} {bv : Nat} {v : α} (hv : H[bv]? = some (.cells (enc v))) : elemsOf H n (.msl bv 0 1 n) = some [enc v] := by
  have h1 : 0 + 1 * n ≤ (enc v).length := by rw [hn]; omega
  simp -implicitDefEqProofs only [elemsOf, hv, h1, and_self, if_true]
  have : (List.range 1).map (fun i => ((enc v).drop (0 + i * n)).take n) = [enc v] := by
    simp [List.range_succ, List.take_of_length_le (Nat.le_of_eq (hn v))]
  rw [this]
structure StayI (n0 : Nat) (H : Heap) (t : T) (H' : Heap) : Prop where
  len : H.length ≤ H'.length
  get : ∀ b x, H[b]? = some x → (∀ off len n, t ≠ .msl b off len n) → H'[b]? = some x
  ext : ∀ H0 : Heap, H0.length ≤ n0 → Ext H0 H → Ext H0 H'
def InsQ (enc : α → List T) (n n0 : Nat) (H : Heap) (t : T) (ys : List α) : Out → Heap → Prop := fun o H' => ∃ b', o = .val (.msl b' 0 ys.length n) ∧ H'[b']? = some (.cells (msC enc ys)) ∧ n0 ≤ b' ∧ StayI n0 H t H' ∧ (H.length ≤ b' ∨ ∃ off len n, t = .msl b' off len n)
theorem appM_fr {H H' : Heap} {n bytes b off len m : Nat} {x : T} {new : List (List T)} (h : appM H n bytes x new = some (.msl b off len m, H')) (hn : new ≠ []) : H.length ≤ b := by
  unfold appM at h
  split at h
  · exact absurd rfl hn
  · split at h
    · split at h
      · simp at h; omega
      · cases h
    · split at h
      · simp at h; omega
      · cases h
    · split at h
      · split at h
        · simp at h; omega
        · cases h
      · cases h
    · cases h
theorem ins_nil {E : Env} {f bytes fr : Nat} (hn : ∀ x, (enc x).length = n) (hn0 : n ≠ 0) (zv : α) (hf : E.fn f = some (insIR n bytes (enc zv) fr)) (n0 bv : Nat) (v : α) (H : Heap) (hH : n0 ≤ H.length) (hv : H[bv]? = some (.cells (enc v))) (hr : roomOk 1 bytes = true) :
    W E (.call f [.sl .nil [], .int .i64 0, .msl bv 0 1 n]) H (InsQ enc n n0 H (.sl .nil []) [v]) := by
  refine W.fnI hf rfl rfl ?_
  have h1 := elems_one hn hv
  obtain ⟨t', H', ha, hm, hst⟩ := appM_ok (enc := enc) hn (bytes := bytes) [v] (mut_nil enc n n0 H) hH (by simp) (by simpa using hr)
  simp -implicitDefEqProofs only [List.map_cons, List.map_nil] at ha
  have hfr := fun b' ml (e : t' = T.msl b' 0 ml n) => appM_fr (e ▸ ha) (by simp)
  have n0' : natOf (.int .i64 0) = some 0 := rfl
  have z0 : ((0 : Nat) : Int) = 0 := rfl
  simp -implicitDefEqProofs only [insIR, o1, reduceIte, q6, q7, q8, q9, j3, j4, j5, j6, j7, S1, z0, n0', Nat.le_refl, and_self, SK.cut, h1, fgt, ha]
  rcases hm with ⟨h0, _⟩ | ⟨b', rfl, hb', hbn⟩
  · simp at h0
  · exact ⟨b', rfl, hb', hbn, ⟨hst.len, hst.get, hst.ext⟩, .inl (hfr _ _ rfl)⟩
theorem ins_msl {E : Env} {f bytes fr : Nat} (hn : ∀ x, (enc x).length = n) (hn0 : n ≠ 0) (zv : α) (hf : E.fn f = some (insIR n bytes (enc zv) fr)) (n0 bv b i : Nat) (v : α) (xs : List α) (H : Heap) (hH : n0 ≤ H.length) (hv : H[bv]? = some (.cells (enc v))) (hb : H[b]? = some (.cells (msC enc xs))) (hbn : n0 ≤ b) (hne : bv ≠ b)
    (hi : i ≤ xs.length) (hl : xs.length < 4611686018427387903) (hr : roomOk (xs.length + 1) bytes = true) :
    W E (.call f [.msl b 0 xs.length n, .int .i64 i, .msl bv 0 1 n]) H (InsQ enc n n0 H (.msl b 0 xs.length n) (xs.take i ++ v :: xs.drop i)) := by
  have hyl : (xs.take i ++ v :: xs.drop i).length = xs.length + 1 := by simp; omega
  refine W.revl (b := b) (off := 0) (len := xs.length) (n := n) 0 (fun o H' => ∃ t b', o = .val t ∧ fgt t = .msl b' 0 (xs.length + 1) n ∧ H'[b']? = some (.cells (msC enc (xs.take i ++ v :: xs.drop i))) ∧ n0 ≤ b' ∧ StayI n0 H (.msl b 0 xs.length n) H' ∧ (H.length ≤ b' ∨ ∃ off len m, (.msl b 0 xs.length n : T) = .msl b' off len m)) rfl (fun c hc => ?_) ?_
  rotate_left
  · rintro t H' ⟨t', b', ht, hfg, h1, h2, h3⟩
    cases ht
    exact ⟨b', by rw [hfg, hyl], h1, h2, h3⟩
  refine W.fnI hf rfl rfl ?_
  have h1 := elems_one hn hv
  have w1 : IntKind.i64.wrap ((xs.length : Int) + ((1 : Nat) : Int)) = ((xs.length + 1 : Nat) : Int) := by rw [wrap64 (by omega)]; omega
  have w2 : IntKind.i64.wrap ((i : Int) + ((1 : Nat) : Int)) = ((i + 1 : Nat) : Int) := by rw [wrap64 (by omega)]; omega
  have lb := glt hb
  have lv := glt hv
  by_cases hil : i = xs.length
  · subst hil
    obtain ⟨t', H', ha, hm, hst⟩ := appM_ok (enc := enc) (n0 := n0) (t := .msl b 0 xs.length n) hn (bytes := bytes) [v] (.inr ⟨b, rfl, hb, hbn⟩) hH (by simp) (by simpa using hr)
    simp -implicitDefEqProofs only [List.map_cons, List.map_nil] at ha
    have hfr := fun b' ml (e : t' = T.msl b' 0 ml n) => appM_fr (e ▸ ha) (by simp)
    simp -implicitDefEqProofs only [insIR, o1, reduceIte, q6, q7, q8, q9, j3, j4, j5, j6, j7, S1, natOf_nat, Nat.le_refl, hc, and_self, h1, fgt, ha]
    rcases hm with ⟨h0, _⟩ | ⟨b', rfl, hb', hbn'⟩
    · simp at h0
    · refine ⟨_, b', rfl, by simp [fgt], ?_, hbn', ⟨hst.len, hst.get, hst.ext⟩, .inl (hfr _ _ rfl)⟩
      rw [hb']; simp
  · have hlt : i < xs.length := by omega
    have hne' : ¬ ((i : Int) = (xs.length : Int)) := by omega
    have ic : (i < c ∨ i = 0) = True := by simp; omega
    have i1 : (i + 1 < c ∨ i + 1 = 0) = (i + 1 < c) := by simp
    have mi : min 1 (xs.length + 1 - i) = 1 := by omega
    have hevk := elemsK_ms hn (xs := [v]) (b := bv) (H := H)
    by_cases hcap : c < xs.length + 1
    · have hcl : c = xs.length := by omega
      subst hcl
      have w3 : IntKind.i64.wrap (((xs.length + 1 : Nat) : Int) - (i : Int)) = ((xs.length + 1 - i : Nat) : Int) := by rw [wrap64 (by omega)]; omega
      have hsum : i + (xs.length + 1 - i) = xs.length + 1 := by omega
      have ha := apz_ms (bytes := bytes) hn hn0 zv hb i (xs.length + 1 - i) xs.length hi (by omega) (by omega) (by rw [hsum]; exact hr)
      rw [hsum] at ha
      have c0 : (0 < xs.length ∨ True) = True := by simp
      have e1 : ¬ (i = xs.length + 1) := by omega
      have e2 : ¬ (i + 1 = xs.length + 1) := by omega
      have hle : i ≤ xs.length + 1 := by omega
      have hle2 : i + 1 ≤ xs.length + 1 := by omega
      have hbt : (H ++ [B.cells (msC enc (xs.take i ++ List.replicate (xs.length + 1 - i) zv))])[H.length]? = some (.cells (msC enc (xs.take i ++ List.replicate (xs.length + 1 - i) zv))) := g_tail rfl
      have hvt : (H ++ [B.cells (msC enc (xs.take i ++ List.replicate (xs.length + 1 - i) zv))])[bv]? = some (.cells (msC enc [v])) := by rw [g_app lv, hv]; simp [msC]
      have hk1 := (elemsK_ms hn hvt 0 1 1 0 (by simp)).1
      simp -implicitDefEqProofs only [Nat.zero_mul, List.drop_zero] at hk1
      have hcp1 := (cpy_ms hn hn0 (ys := [v]) (y := .msl bv 0 1 n) (ly := 1) (len := xs.length + 1 - i) hbt i 0 (by simp; omega) rfl (by rw [mi]; simpa using hk1) (by simp; omega)).1
      rw [mi] at hcp1
      have hx2 : (xs.take i ++ List.replicate (xs.length + 1 - i) zv).take i ++ [v] ++ (xs.take i ++ List.replicate (xs.length + 1 - i) zv).drop (i + [v].length) = xs.take i ++ v :: List.replicate (xs.length - i) zv := by
        have t1 : (xs.take i).length = i := by simp; omega
        have t2 : i + 1 - i = 1 := by omega
        have t3 : xs.length + 1 - i - 1 = xs.length - i := by omega
        rw [List.take_append_of_le_length (by omega), List.take_of_length_le (by omega), List.drop_append, List.drop_eq_nil_of_le (by simp; omega), t1]
        simp [t2, t3]
      rw [hx2, hset_tail] at hcp1
      have hbt2 : (H ++ [B.cells (msC enc (xs.take i ++ v :: List.replicate (xs.length - i) zv))])[H.length]? = some (.cells (msC enc (xs.take i ++ v :: List.replicate (xs.length - i) zv))) := g_tail rfl
      have hb2 : (H ++ [B.cells (msC enc (xs.take i ++ v :: List.replicate (xs.length - i) zv))])[b]? = some (.cells (msC enc xs)) := by rw [g_app lb, hb]
      have hk2 := (elemsK_ms hn hb2 i (xs.length - i) (xs.length - i) (xs.length - i) (by omega)).2
      have hdl : ((xs.drop i).take (xs.length - i)) = xs.drop i := List.take_of_length_le (by simp)
      rw [hdl] at hk2
      have mi2 : min (xs.length - i) (xs.length + 1 - (i + 1)) = xs.length - i := by omega
      have hcp2 := (cpy_ms hn hn0 (ys := xs.drop i) (y := .mslc b (i * n) (xs.length - i) n (xs.length - i)) (ly := xs.length - i) (len := xs.length + 1 - (i + 1)) hbt2 (i + 1) 0 (by simp; omega) rfl (by rw [mi2]; exact hk2) (by simp)).1
      have hx3 : (xs.take i ++ v :: List.replicate (xs.length - i) zv).take (i + 1) ++ xs.drop i ++ (xs.take i ++ v :: List.replicate (xs.length - i) zv).drop (i + 1 + (xs.drop i).length) = xs.take i ++ v :: xs.drop i := by
        have t1 : (xs.take i).length = i := by simp; omega
        have t2 : i + 1 - i = 1 := by omega
        have d1 : (xs.take i ++ v :: List.replicate (xs.length - i) zv).drop (i + 1 + (xs.drop i).length) = [] := List.drop_eq_nil_of_le (by rw [List.length_append, t1]; simp; omega)
        have d2 : (xs.take i).take (i + 1) = xs.take i := List.take_of_length_le (by omega)
        rw [d1, List.take_append, d2, t1, t2]
        simp
      rw [hx3, hset_tail] at hcp2
      simp -implicitDefEqProofs only [insIR, o1, reduceIte, q6, q7, q8, q9, j3, j4, j5, j6, j7, S1, natOf_nat, Nat.le_refl, hc, and_self, hi, ic, hne', hil, w1, w2, w3, hcap, Nat.zero_le, Nat.zero_mul, Nat.sub_zero, c0, ha, hle, hle2, e1, e2, hcp1, hcp2, or_true, if_true]
      exact ⟨_, H.length, rfl, rfl, g_tail rfl, hH, ⟨by simp, fun b' x hx _ => by rw [g_app (glt hx)]; exact hx, fun H0 _ h => h.app _⟩, .inl (Nat.le_refl _)⟩
    · have hcap' : xs.length + 1 ≤ c := by omega
      have hcap2 : ¬ c < xs.length + 1 := hcap
      have e1 : ¬ (i = xs.length + 1) := by omega
      have hle : i ≤ xs.length + 1 := by omega
      have hle2 : i + 1 ≤ xs.length + 1 := by omega
      have c0 : (0 < c ∨ True) = True := by simp
      have c1 : i + 1 < c := by omega
      have c2 : i < c := by omega
      have hlen0 : 0 < (msC enc xs).length := by rw [msC_len hn]; exact Nat.mul_pos (by omega) (by omega)
      have hov : ovlT H n (.msl bv 0 1 n) (.mslc b ((i + 1) * n) (xs.length + 1 - (i + 1)) n (c - (i + 1))) = some (.bool false, H) := by
        simp -implicitDefEqProofs only [ovlT, hv, hb, ne_eq, hne, not_false_eq_true, hlen0, and_self, if_true]
      have hk2 := (elemsK_ms hn hb i (xs.length - i) (xs.length + 1 - i) (c - i) (by omega)).2
      have hdl : ((xs.drop i).take (xs.length - i)) = xs.drop i := List.take_of_length_le (by simp)
      rw [hdl] at hk2
      have mi2 : min (xs.length + 1 - i) (xs.length + 1 - (i + 1)) = xs.length - i := by omega
      have hcp1 := (cpy_ms hn hn0 (ys := xs.drop i) (y := .mslc b (i * n) (xs.length + 1 - i) n (c - i)) (ly := xs.length + 1 - i) (len := xs.length + 1 - (i + 1)) hb (i + 1) (c - (i + 1)) (by omega) rfl (by rw [mi2]; exact hk2) (by rw [mi2]; simp)).2
      have hx1 : xs.take (i + 1) ++ xs.drop i ++ xs.drop (i + 1 + (xs.drop i).length) = xs.take (i + 1) ++ xs.drop i := by
        have d1 : xs.drop (i + 1 + (xs.drop i).length) = [] := List.drop_eq_nil_of_le (by rw [List.length_drop]; omega)
        rw [d1, List.append_nil]
      rw [hx1] at hcp1
      have hb2 : (H.set b (.cells (msC enc (xs.take (i + 1) ++ xs.drop i))))[b]? = some (.cells (msC enc (xs.take (i + 1) ++ xs.drop i))) := g_eq lb
      have hvt : (H.set b (.cells (msC enc (xs.take (i + 1) ++ xs.drop i))))[bv]? = some (.cells (msC enc [v])) := by rw [g_ne (Ne.symm hne), hv]; simp [msC]
      have hk1 := (elemsK_ms hn hvt 0 1 1 0 (by simp)).1
      simp -implicitDefEqProofs only [Nat.zero_mul, List.drop_zero] at hk1
      have hcp2 := (cpy_ms hn hn0 (ys := [v]) (y := .msl bv 0 1 n) (ly := 1) (len := xs.length + 1 - i) hb2 i (c - i) (by simp; omega) rfl (by rw [mi]; simpa using hk1) (by simp; omega)).2
      rw [mi] at hcp2
      have hx2 : (xs.take (i + 1) ++ xs.drop i).take i ++ [v] ++ (xs.take (i + 1) ++ xs.drop i).drop (i + [v].length) = xs.take i ++ v :: xs.drop i := by
        have t1 : (xs.take (i + 1)).length = i + 1 := by simp; omega
        rw [List.take_append_of_le_length (by omega), List.take_take, List.drop_append, List.drop_eq_nil_of_le (by simp; omega), t1]
        have t2 : min i (i + 1) = i := by omega
        simp [t2]
      rw [hx2, List.set_set] at hcp2
      simp -implicitDefEqProofs only [insIR, o1, reduceIte, q6, q7, q8, q9, j3, j4, j5, j6, j7, S1, natOf_nat, Nat.le_refl, hc, and_self, hi, ic, hne', hil, w1, w2, hcap', hcap2, Nat.zero_le, Nat.zero_mul, Nat.sub_zero, c0, c1, c2, true_or, hov, hle, hle2, e1, hcp1, hcp2, or_true, if_true]
      refine ⟨_, b, rfl, rfl, g_eq lb, hbn, ⟨by simp, fun b' x hx hne2 => ?_, fun H0 h0 h => h.set (Nat.le_trans h0 hbn) _⟩, .inr ⟨_, _, _, rfl⟩⟩
      have : b ≠ b' := fun e => hne2 0 xs.length n (by rw [e])
      rw [g_ne this]; exact hx
end
end Go.Rmp
end

section
namespace Go.Rmp
def wro : List O → List Nat
  | [] => []
  | o :: l => match o.d with
    | some d => d :: wro l
    | none => wro l
def wr : C → List Nat
  | .skip => []
  | .ops l => wro l
  | .seq a b => wr a ++ wr b
  | .cond _ a b => wr a ++ wr b
  | .block _ a => wr a
  | .loop a => wr a
  | .exit _ => []
  | .ret => []
  | .rangeF n _ _ _ _ => [n]
def wrJ : J → List Nat
  | .code c _ => wr c
  | .ops l _ => wro l
  | .call _ _ => []
def regJ : J → Regs
  | .code _ R => R
  | .ops _ R => R
  | .call _ _ => fun _ => undefT
def Kp (j : J) (o : Out) : Prop := match j with
  | .call _ _ => True
  | j => ∀ e R', o = .ex e R' → ∀ t, t ∉ wrJ j → R' t = regJ j t
theorem updo_nx {R : Regs} {d : Option Nat} {v : T} {t : Nat} (h : ∀ x, d = some x → t ≠ x) : updo R d v t = R t := by
  cases d with
  | none => rfl
  | some x => simp [updo, upd, h x rfl]
theorem wro_cons {o : O} {l : List O} {t : Nat} (h : t ∉ wro (o :: l)) : (∀ x, o.d = some x → t ≠ x) ∧ t ∉ wro l := by
  unfold wro at h
  cases e : o.d with
  | none => rw [e] at h; exact ⟨fun x hx => (by cases hx), h⟩
  | some d => rw [e] at h; simp only [List.mem_cons, not_or] at h; exact ⟨fun x hx => (by cases hx; exact h.1), h.2⟩
theorem kp_ops {o : O} {l : List O} {R : Regs} {v : T} {x : Out} (h : Kp (.ops l (updo R o.d v)) x) : Kp (.ops (o :: l) R) x := fun e R' he t ht => by
  obtain ⟨h1, h2⟩ := wro_cons ht
  rw [h e R' he t h2]
  exact updo_nx h1
theorem kp_c {c : C} {R : Regs} {e : Ex} {R' : Regs} (h : ∀ t, t ∉ wr c → R' t = R t) : Kp (.code c R) (.ex e R') := fun e' R2 he t ht => by
  injection he with h1 h2
  rw [← h2]; exact h t ht
theorem kp_o {l : List O} {R : Regs} {e : Ex} {R' : Regs} (h : ∀ t, t ∉ wro l → R' t = R t) : Kp (.ops l R) (.ex e R') := fun e' R2 he t ht => by
  injection he with h1 h2
  rw [← h2]; exact h t ht
theorem W.keep {E : Env} {j : J} {H : Heap} {Q : Out → Heap → Prop} (h : W E j H Q) : W E j H (fun o H' => Q o H' ∧ Kp j o) := by
  induction h with
  | skip h => exact .skip ⟨h, kp_c fun _ _ => rfl⟩
  | exit h => exact .exit ⟨h, kp_c fun _ _ => rfl⟩
  | ret h => exact .ret ⟨h, kp_c fun _ _ => rfl⟩
  | reg _ ih => exact .reg (ih.use fun o H' h => ⟨h.1, h.2⟩)
  | @seq a b R H Q M h1 h2 h3 ih1 ih2 =>
    refine .seq _ ih1 (fun R' H' hm => (ih2 R' H' hm.1).use fun o H2 h => ⟨h.1, fun e R2 he t ht => ?_⟩) (fun o H' hm hn => ⟨h3 o H' hm.1 hn, fun e R2 he t ht => ?_⟩)
    · have ht' : t ∉ wr a ∧ t ∉ wr b := by simpa [wrJ, wr] using ht
      rw [h.2 e R2 he t ht'.2]; exact hm.2 _ _ rfl t ht'.1
    · have ht' : t ∉ wr a ∧ t ∉ wr b := by simpa [wrJ, wr] using ht
      exact hm.2 e R2 he t ht'.1
  | @cond x a b R H Q t hx h ih =>
    refine .cond t hx (ih.use fun o H' h => ⟨h.1, fun e R2 he t' ht => ?_⟩)
    have ht' : t' ∉ wr a ∧ t' ∉ wr b := by simpa [wrJ, wr] using ht
    refine h.2 e R2 he t' ?_
    cases t
    · exact ht'.2
    · exact ht'.1
  | block M h1 h2 h3 ih =>
    exact .block _ ih (fun R' H' hm => ⟨h2 R' H' hm.1, kp_c fun t ht => hm.2 _ _ rfl t ht⟩) (fun o H' hm hn => ⟨h3 o H' hm.1 hn, fun e R2 he t ht => hm.2 e R2 he t ht⟩)
  | loop M h1 h2 h3 ih1 ih2 =>
    refine .loop _ ih1 (fun R' H' hm => (ih2 R' H' hm.1).use fun o H2 h => ⟨h.1, fun e R2 he t ht => ?_⟩) (fun o H' hm hn => ⟨h3 o H' hm.1 hn, fun e R2 he t ht => hm.2 e R2 he t ht⟩)
    rw [h.2 e R2 he t ht]; exact hm.2 _ _ rfl t ht
  | nil h => exact .nil ⟨h, kp_o fun _ _ => rfl⟩
  | no hg _ ih => exact .no hg (ih.use fun o H' h => ⟨h.1, kp_ops h.2⟩)
  | op hg he hs _ ih => exact .op hg he hs (ih.use fun o H' h => ⟨h.1, kp_ops (o := ⟨_, .b _, _, _⟩) h.2⟩)
  | aps hg ht hb hlen h0 he hs _ ih => exact .aps hg ht hb hlen h0 he hs (ih.use fun o H' h => ⟨h.1, kp_ops (o := ⟨_, .b _, _, _⟩) h.2⟩)
  | call M hg h1 hs _ _ ih2 => exact .call M hg h1 hs (fun v H' hm => (ih2 v H' hm).use fun o H' h => ⟨h.1, kp_ops (o := ⟨_, .call _ _, _, _⟩) h.2⟩)
  | callv M hg hf h1 hs _ _ ih2 => exact .callv M hg hf h1 hs (fun v H' hm => (ih2 v H' hm).use fun o H' h => ⟨h.1, kp_ops (o := ⟨_, .callv _ _, _, _⟩) h.2⟩)
  | yld M1 M hg hf hb hn h1 h1' h2 h2' hs3 _ hs4 _ _ _ ih3 ih4 => exact .yld M1 M hg hf hb hn h1 h1' h2 h2' hs3 (fun R' H' hm => (ih3 R' H' hm).use fun o H' h => ⟨h.1, kp_ops (o := ⟨_, .callv _ _, _, _⟩) h.2⟩) hs4 (fun e R' H' hm he => (ih4 e R' H' hm he).use fun o H' h => ⟨h.1, kp_ops (o := ⟨_, .callv _ _, _, _⟩) h.2⟩)
  | nils hs h hx hy hc ih => exact .nils hs (fun b => (ih b).use fun o H' h => ⟨h.1, kp_ops (o := ⟨_, .b _, _, _⟩) h.2⟩) hx hy hc
  | @rangeF n x ps asg body R H Q f cs M hx h1 h2 _ =>
    refine .rangeF M hx h1 (fun v H' hm => let ⟨st, pe, a, b, c, d⟩ := h2 v H' hm; ⟨st, pe, a, b, c, d, kp_c fun t ht => ?_⟩)
    have ht : t ≠ n := by simpa [wrJ, wr] using ht
    simp [upd, ht, regJ]
  | fnr M hf hn h1 h2 _ => exact .fnr M hf hn h1 (fun o H' hm => let ⟨R', bs, a, b, c, d, v, e, f⟩ := h2 o H' hm; ⟨R', bs, a, b, c, d, v, e, f, trivial⟩)
  | fn M hf hr hn h1 h2 _ => exact .fn M hf hr hn h1 (fun o H' hm => let ⟨R', a, v, b, c⟩ := h2 o H' hm; ⟨R', a, v, b, c, trivial⟩)
  | revl i M hi h1 h2 _ => exact .revl i M hi h1 (fun v H' hm => ⟨h2 v H' hm, trivial⟩)
  | frz M h1 h2 _ => exact .frz M h1 (fun o H' hm => let ⟨v, b, cs, a, c, d, e⟩ := h2 o H' hm; ⟨v, b, cs, a, c, d, e, trivial⟩)
  | nxt hg hx hb hs _ ih => exact .nxt hg hx hb hs fun t H' hm => (ih t H' hm).use fun o H' h => ⟨h.1, kp_ops (o := ⟨_, .b _, _, _⟩) h.2⟩
  | shr M h1 h2 _ => exact .shr M h1 (fun o H' hm => let ⟨v, b, cs, k, a, c, d, e⟩ := h2 o H' hm; ⟨v, b, cs, k, a, c, d, e, trivial⟩)
  | frza i hi hb _ ih => exact .frza i hi hb (ih.use fun o H' h => ⟨h.1, trivial⟩)
  | fza hk hb _ ih => exact .fza hk hb (ih.use fun o H' h => ⟨h.1, trivial⟩)
  | vw hl hv _ ih => exact .vw hl hv (ih.use fun o H' h => ⟨h.1, trivial⟩)
  | prim h => exact .prim (E.mono _ _ _ _ _ h fun t H' hm => ⟨hm, trivial⟩)
def mkR : List (Nat × T) → Regs → Regs
  | [], R => R
  | (t, v) :: l, R => upd (mkR l R) t v
theorem mkR_nil (R : Regs) : mkR [] R = R := rfl
theorem mkR_cons (t : Nat) (v : T) (l : List (Nat × T)) (R : Regs) : mkR ((t, v) :: l) R = upd (mkR l R) t v := rfl
def agree : List (Nat × T) → Regs → Prop
  | [], _ => True
  | (t, v) :: l, R => R t = v ∧ agree l R
def okV (vs : List (Nat × T)) (w : List Nat) : Bool := vs.all fun p => !w.elem p.1
theorem upd_id {R : Regs} {t : Nat} {v : T} (h : R t = v) : upd R t v = R := by
  funext x; by_cases e : x = t
  · subst e; simp [upd, h]
  · simp [upd, e]
theorem mkR_agree : ∀ (vs : List (Nat × T)) (R : Regs), agree vs R → mkR vs R = R
  | [], _, _ => rfl
  | (t, v) :: l, R, h => by rw [mkR_cons, mkR_agree l R h.2, upd_id h.1]
theorem agree_of : ∀ (vs : List (Nat × T)) (R R' : Regs), agree vs R → (∀ p ∈ vs, R' p.1 = R p.1) → agree vs R'
  | [], _, _, _, _ => trivial
  | (t, v) :: l, R, R', h, k => ⟨(k (t, v) List.mem_cons_self).trans h.1, agree_of l R R' h.2 fun p hp => k p (List.mem_cons_of_mem _ hp)⟩
theorem okV_mem {vs : List (Nat × T)} {w : List Nat} (h : okV vs w = true) : ∀ p ∈ vs, p.1 ∉ w := fun p hp hw => by
  have := (List.all_eq_true.1 h) p hp
  simp [hw] at this
theorem W.loopV {E : Env} {α : Type} {a : C} {R : Regs} {H : Heap} {Q : Out → Heap → Prop} (vs : List (Nat × T)) (I : α → Regs → Heap → Prop) (μ : α → Nat) (x : α)
    (h0 : I x R H) (step : ∀ x R H, I x R H → wpC E a (mkR vs R) H (thenQ (fun R' H' => ∃ y, μ y < μ x ∧ I y R' H') Q))
    (hv : agree vs R := by repeat' (first | exact trivial | refine And.intro rfl ?_)) (hw : okV vs (wr a) = true := by rfl) : W E (.code (.loop a) R) H Q := by
  have key : ∀ (n : Nat) (x : α) (R : Regs) (H : Heap), μ x = n → I x R H → agree vs R → W E (.code (.loop a) R) H Q := by
    intro n
    induction n using Nat.strongRecOn with
    | _ n ih =>
      intro x R H hn hI hag
      have hs := step x R H hI
      rw [mkR_agree vs R hag] at hs
      refine .loop _ (wpC_ok a R H _ hs).keep (fun R' H' hm => ?_) (fun o H' hm hno => ?_)
      · obtain ⟨⟨y, hy, hI'⟩, hk⟩ := hm
        exact ih (μ y) (hn ▸ hy) y R' H' rfl hI' (agree_of vs R R' hag fun p hp => hk _ _ rfl p.1 (okV_mem hw p hp))
      · cases o with
        | ex e R' => cases e with
          | normal => exact absurd rfl (hno R')
          | exit id => exact hm.1
          | ret => exact hm.1
        | val v => exact hm.1
  exact key _ x R H rfl h0 hv
end Go.Rmp
end

section
namespace Go.Rmp
def tb : T → Option Nat
  | .msl c _ _ _ => some c
  | _ => none
end Go.Rmp
end

section
namespace Go.Rmp
def PrL (H H' : Heap) : Prop := ∀ (b : Nat) st p n R ps a c, H[b]? = some (B.loop st p n R ps a c) → ∃ st' p', H'[b]? = some (B.loop st' p' n R ps a c)
theorem PrL.refl (H : Heap) : PrL H H := fun _ _ _ _ _ _ _ _ h => ⟨_, _, h⟩
theorem PrL.trans {H H' H2 : Heap} (h : PrL H H') (h' : PrL H' H2) : PrL H H2 := fun b st p n R ps a c hb => by
  obtain ⟨st', p', h1⟩ := h b st p n R ps a c hb
  exact h' b st' p' n R ps a c h1
theorem PrL.app (H l : Heap) : PrL H (H ++ l) := fun _ _ _ _ _ _ _ _ h => ⟨_, _, get_ext h⟩
theorem PrL.set {H : Heap} {b : Nat} {x : B} (y : B) (hb : H[b]? = some x) (hx : ∀ st p n R ps a c, x ≠ .loop st p n R ps a c) : PrL H (H.set b y) := fun b' st p n R ps a c h => by
  by_cases e : b' = b
  · subst e; rw [hb] at h; cases h; exact absurd rfl (hx _ _ _ _ _ _ _)
  · exact ⟨st, p, by rw [List.getElem?_set_ne (fun h => e h.symm)]; exact h⟩
theorem PrL.ifset {H : Heap} {b : Nat} {st : LSt} {p : Option Ex} {n : Nat} {R : Regs} {ps : List Nat} {a c : C} (st' : LSt) (p' : Option Ex) (hb : H[b]? = some (.loop st p n R ps a c)) : PrL H (H.set b (.loop st' p' n R ps a c)) := fun b' st1 p1 n1 R1 ps1 a1 c1 h => by
  by_cases e : b' = b
  · subst e; rw [hb] at h; cases h
    exact ⟨st', p', by rw [List.getElem?_set_self (List.getElem?_eq_some_iff.1 hb).1]⟩
  · exact ⟨st1, p1, by rw [List.getElem?_set_ne (fun h => e h.symm)]; exact h⟩
theorem stc_prl {H H' : Heap} {vs : List T} {t : T} (h : stc H vs t = some H') : PrL H H' := by
  unfold stc at h
  split at h
  · split at h
    · rename_i hb
      split at h
      · cases h; exact PrL.set _ hb (by intros; simp)
      · cases h
    · cases h
  · cases h
theorem appT_prl {H H' : Heap} {bytes : Nat} {k : SK} {es new : List (List T)} {v : T} (h : appT H bytes k es new = some (v, H')) : PrL H H' := by
  unfold appT at h
  split at h
  · cases h; exact PrL.refl _
  · split at h
    · split at h
      · cases h; exact PrL.app _ _
      · cases h; exact PrL.app _ _
      · split at h
        · rename_i hb
          split at h
          · cases h; exact PrL.set _ hb (by intros; simp)
          · cases h
        · cases h
      · cases h
    · cases h
theorem appM_prl {H H' : Heap} {n bytes : Nat} {x : T} {new : List (List T)} {v : T} (h : appM H n bytes x new = some (v, H')) : PrL H H' := by
  unfold appM at h
  split at h
  · split at h
    · cases h; exact PrL.refl _
    · cases h
  · split at h
    · split at h
      · cases h; exact PrL.app _ _
      · cases h
    · split at h
      · cases h; exact PrL.app _ _
      · cases h
    · split at h
      · rename_i hb
        split at h
        · cases h; exact (PrL.set .dead hb (by intros; simp)).trans (PrL.app _ _)
        · cases h
      · cases h
    · cases h
theorem cpy_prl {H H' : Heap} {n : Nat} {x y v : T} (h : cpyT H n x y = some (v, H')) : PrL H H' := by
  unfold cpyT at h
  split at h
  · split at h
    · rename_i hb _
      split at h
      · cases h; exact PrL.set _ hb (by intros; simp)
      · cases h
    · cases h
  · split at h
    · rename_i hb _
      split at h
      · cases h; exact PrL.set _ hb (by intros; simp)
      · cases h
    · cases h
  · cases h
theorem map_prl {α : Type} {o : Option α} {f : α → T} {H H' : Heap} {v : T} (h : o.map (fun x => (f x, H)) = some (v, H')) : PrL H H' := by
  cases o with
  | none => cases h
  | some x => cases h; exact PrL.refl _
theorem evop_prl {R : Regs} {H H' : Heap} {b : Bo} {v : T} (h : evop R H b = some (v, H')) : PrL H H' := by
  cases hk : klB b with
  | pure => rw [(evop_pure hk h).1]; exact PrL.refl _
  | read => rw [(evop_read hk h).1]; exact PrL.refl _
  | make => cases b <;> simp only [klB] at hk <;> (try (cases hk; done)) <;> simp only [evop] at h
            · split at hk <;> cases hk
            · cases h; exact PrL.app _ _
            · cases h; exact PrL.app _ _
  | eff =>
    cases b <;> simp only [klB] at hk <;> (try (cases hk; done)) <;> simp only [evop] at h
    case eqr => exact map_prl h
    case cvb m x =>
      split at h
      · split at h
        · split at h
          · cases h; exact PrL.set _ (by assumption) (fun _ _ _ _ _ _ _ e => by cases e)
          · cases h
        · cases h
      · split at h
        · cases h; exact PrL.refl _
        · cases h
      · cases h
    case box x =>
      cases hc : (x.ev R).cells? with
      | none => rw [hc] at h; cases h
      | some cs => rw [hc] at h; cases h; exact PrL.app _ _
    case st =>
      split at h
      · split at h
        · rw [Option.map_eq_some_iff] at h
          obtain ⟨H2, h1, h2⟩ := h
          cases h2; exact stc_prl h1
        · cases h
      · cases h
    case upm =>
      split at h
      · split at h
        · split at h
          · rename_i hb
            split at h
            · cases h; exact PrL.set _ hb (by intros; simp)
            · cases h; exact PrL.set _ hb (by intros; simp)
            · cases h
          · cases h
        · cases h
      · cases h
    case del =>
      split at h
      · split at h
        · split at h
          · rename_i hb
            split at h
            · cases h; exact PrL.set _ hb (by intros; simp)
            · cases h; exact PrL.refl _
            · cases h
          · cases h
        · cases h
      · cases h
    case app =>
      split at h
      · split at h
        · exact appM_prl h
        · split at h
          · split at h
            · exact appT_prl h
            · cases h
          · cases h
      · cases h
    case mks =>
      split at h
      · split at h
        · split at h
          · cases h; exact PrL.app _ _
          · split at h
            · cases h; exact PrL.refl _
            · cases h; exact PrL.app _ _
        · cases h
      · cases h
    case cap =>
      split at h
      · cases h; exact PrL.refl _
      · cases h
    case cpy => exact cpy_prl h
    case rng x =>
      split at h
      · rename_i bb _
        simp only [mapEs] at h
        split at h
        · rename_i hb; cases h; exact (PrL.set _ hb (by intros; simp)).trans (PrL.app _ _)
        · rename_i hb; cases h; exact (PrL.set _ hb (by intros; simp)).trans (PrL.app _ _)
        · cases h
      · cases h
    case nxt => cases h
    case ent =>
      split at h
      · split at h
        · split at h
          · split at h
            · exact map_prl h
            · cases h
          · cases h
        · cases h
      · cases h
    case clr =>
      split at h
      · split at h
        · rename_i hb
          split at h
          · cases h; exact PrL.set _ hb (by intros; simp)
          · cases h
        · cases h
      · cases h
    case ovl =>
      unfold ovlT at h
      split at h
      · split at h
        · split at h
          · cases h; exact PrL.refl _
          · cases h
        · cases h
      · cases h
    case apz =>
      rw [Option.bind_eq_some_iff] at h
      obtain ⟨k, _, h⟩ := h
      unfold apzT at h
      split at h
      · split at h
        · split at h
          · cases h; exact PrL.app _ _
          · cases h
        · cases h
      · cases h
    case bsm =>
      rw [Option.bind_eq_some_iff] at h
      obtain ⟨k, _, h⟩ := h
      split at h
      · cases h; exact PrL.app _ _
      · cases h
    case slr =>
      split at h
      · split at h
        · cases h; exact PrL.refl _
        · cases h
      · cases h
inductive RTr where
  | lf
  | nd (v : T) (l r : RTr)
  | ov (d : Nat) (v : T) (t : RTr)
noncomputable def RTr.get (t : RTr) : Nat → T :=
  RTr.rec (motive := fun _ => Nat → T) (fun _ => undefT) (fun v _ _ gl gr n => Nat.casesOn (motive := fun _ => T) n v fun m => bif Nat.beq (Nat.mod m 2) 0 then gl (Nat.div m 2) else gr (Nat.div m 2)) (fun d v _ g n => bif Nat.beq n d then v else g n) t
noncomputable def RTr.set (t : RTr) : Nat → T → RTr :=
  RTr.rec (motive := fun _ => Nat → T → RTr) (fun n v => .ov n v .lf) (fun x l r gl gr n v => Nat.casesOn (motive := fun _ => RTr) n (.nd v l r) fun m => bif Nat.beq (Nat.mod m 2) 0 then .nd x (gl (Nat.div m 2) v) r else .nd x l (gr (Nat.div m 2) v)) (fun d x t g n v => bif Nat.beq n d then .ov d v t else .ov d x (g n v)) t
def RTr.full : Nat → RTr
  | 0 => .lf
  | n + 1 => .nd undefT (RTr.full n) (RTr.full n)
noncomputable abbrev lk (t : RTr) : Regs := t.get
theorem RTr.full_get : ∀ (k n : Nat), (RTr.full k).get n = undefT
  | 0, n => rfl
  | k + 1, 0 => rfl
  | k + 1, n + 1 => by
    show (bif Nat.beq (Nat.mod n 2) 0 then (RTr.full k).get (Nat.div n 2) else (RTr.full k).get (Nat.div n 2)) = _
    cases Nat.beq (Nat.mod n 2) 0
    · exact RTr.full_get k _
    · exact RTr.full_get k _
theorem lk_set (t : RTr) : ∀ (d : Nat) (v : T) (n : Nat), (t.set d v).get n = if n = d then v else t.get n := by
  induction t with
  | lf =>
    intro d v n
    show (bif Nat.beq n d then v else undefT) = if n = d then v else undefT
    cases h : Nat.beq n d
    · rw [if_neg (Nat.ne_of_beq_eq_false h)]; rfl
    · rw [if_pos (Nat.eq_of_beq_eq_true h)]; rfl
  | nd x l r ihl ihr =>
    intro d v n
    cases d with
    | zero => cases n with
      | zero => rfl
      | succ n => rw [if_neg (by omega)]; rfl
    | succ d =>
      have hs : (RTr.nd x l r).set (d + 1) v = bif Nat.beq (Nat.mod d 2) 0 then .nd x (l.set (Nat.div d 2) v) r else .nd x l (r.set (Nat.div d 2) v) := rfl
      rw [hs]
      have hg : ∀ a b, (RTr.nd x a b).get (n) = Nat.casesOn (motive := fun _ => T) n x fun m => bif Nat.beq (Nat.mod m 2) 0 then a.get (Nat.div m 2) else b.get (Nat.div m 2) := fun _ _ => rfl
      cases n with
      | zero => rw [if_neg (by omega)]; cases Nat.beq (Nat.mod d 2) 0 <;> rfl
      | succ n =>
        have e1 : Nat.mod d 2 = d % 2 := rfl
        have e2 : Nat.mod n 2 = n % 2 := rfl
        have e3 : Nat.div d 2 = d / 2 := rfl
        have e4 : Nat.div n 2 = n / 2 := rfl
        cases hd : Nat.beq (Nat.mod d 2) 0
        · have hd' := Nat.ne_of_beq_eq_false hd
          simp only [cond_false]
          rw [hg, hg]
          cases hn : Nat.beq (Nat.mod n 2) 0
          · have hn' := Nat.ne_of_beq_eq_false hn
            simp only [hn, cond_false]
            rw [ihr]
            by_cases e : n = d
            · subst e; simp
            · rw [if_neg (by omega), if_neg (by omega)]
          · have hn' := Nat.eq_of_beq_eq_true hn
            simp only [hn, cond_true]
            rw [if_neg (by omega)]
        · have hd' := Nat.eq_of_beq_eq_true hd
          simp only [cond_true]
          rw [hg, hg]
          cases hn : Nat.beq (Nat.mod n 2) 0
          · have hn' := Nat.ne_of_beq_eq_false hn
            simp only [hn, cond_false]
            rw [if_neg (by omega)]
          · have hn' := Nat.eq_of_beq_eq_true hn
            simp only [hn, cond_true]
            rw [ihl]
            by_cases e : n = d
            · subst e; simp
            · rw [if_neg (by omega), if_neg (by omega)]
  | ov d0 x t ih =>
    intro d v n
    have hs : (RTr.ov d0 x t).set d v = bif Nat.beq d d0 then .ov d0 v t else .ov d0 x (t.set d v) := rfl
    have hg : ∀ y a, (RTr.ov d0 y a).get n = bif Nat.beq n d0 then y else a.get n := fun _ _ => rfl
    rw [hs]
    cases h1 : Nat.beq d d0
    · have h1' := Nat.ne_of_beq_eq_false h1
      simp only [cond_false]
      rw [hg, hg]
      cases h2 : Nat.beq n d0
      · simp only [cond_false]; rw [ih]
      · have h2' := Nat.eq_of_beq_eq_true h2
        simp only [cond_true]; rw [if_neg (by omega)]
    · have h1' := Nat.eq_of_beq_eq_true h1
      simp only [cond_true]
      rw [hg, hg]
      cases h2 : Nat.beq n d0
      · have h2' := Nat.ne_of_beq_eq_false h2
        simp only [cond_false]; rw [if_neg (by omega)]
      · have h2' := Nat.eq_of_beq_eq_true h2
        simp only [cond_true]; rw [if_pos (by omega)]
noncomputable def setO (L : RTr) (d : Option Nat) (v : T) : RTr := match d with | some d => L.set d v | none => L
theorem lk_upd (L : RTr) (d : Nat) (v : T) : lk (L.set d v) = upd (lk L) d v := funext fun t => lk_set L d v t
theorem lk_setO (L : RTr) (d : Option Nat) (v : T) : lk (setO L d v) = updo (lk L) d v := by
  cases d with
  | none => rfl
  | some d => exact lk_upd L d v
noncomputable def setA (L : RTr) : Nat → List T → RTr
  | _, [] => L
  | i, v :: vs => setA (L.set i v) (i + 1) vs
theorem setA_get : ∀ (vs : List T) (L : RTr) (i n : Nat), (setA L i vs).get n = if i ≤ n ∧ n < i + vs.length then vs.getD (n - i) undefT else L.get n
  | [], L, i, n => by simp only [setA, List.length_nil]; rw [if_neg (by omega)]
  | v :: vs, L, i, n => by
    simp only [setA, List.length_cons]
    rw [setA_get vs, lk_set]
    by_cases h1 : n = i
    · subst h1
      rw [if_neg (by omega), if_pos rfl, if_pos (by omega)]; simp
    · by_cases h2 : i + 1 ≤ n ∧ n < i + 1 + vs.length
      · rw [if_pos h2, if_pos (by omega)]
        have : n - i = (n - (i + 1)) + 1 := by omega
        rw [this]; simp
      · rw [if_neg h2, if_neg h1, if_neg (by omega)]
noncomputable def trOf (az : List T) : RTr := setA (RTr.full 9) 0 az
theorem lk_0 (az : List T) : lk (trOf az) = regs0 az := by
  funext n
  show (setA (RTr.full 9) 0 az).get n = az.getD n undefT
  rw [setA_get, RTr.full_get]
  by_cases h : n < az.length
  · rw [if_pos (by omega)]; simp
  · rw [if_neg (by omega)]; simp [List.getElem?_eq_none (Nat.le_of_not_lt h)]
noncomputable def setPs (L : RTr) : List Nat → List T → RTr
  | p :: ps, v :: vs => setPs (L.set p v) ps vs
  | _, _ => L
theorem lk_ps : ∀ (ps : List Nat) (L : RTr) (vs : List T), lk (setPs L ps vs) = setps (lk L) ps vs
  | [], L, vs => by cases vs <;> rfl
  | p :: ps, L, [] => rfl
  | p :: ps, L, v :: vs => by simp only [setPs, setps]; rw [lk_ps ps, lk_upd]
def wrapE (k : IntKind) (n : Int) : Int := match k, n with
  | .i64, .ofNat a => bif Nat.ble a 9223372036854775807 then n else k.wrap n
  | .u64, .ofNat a => .ofNat (Nat.mod a 18446744073709551616)
  | .u32, .ofNat a => .ofNat (Nat.mod a 4294967296)
  | .u8, .ofNat a => .ofNat (Nat.mod a 256)
  | k, n => k.wrap n
theorem wrapE_eq (k : IntKind) (n : Int) : wrapE k n = k.wrap n := by
  unfold wrapE
  split
  · rename_i a
    cases h : Nat.ble a 9223372036854775807
    · rfl
    · have := Nat.le_of_ble_eq_true h
      simp only [cond_true]
      rw [wrap64 (by have : (Int.ofNat a) = (a : Int) := rfl; omega)]
  · simp [IntKind.wrap, IntKind.signed, IntKind.bits]; rfl
  · simp [IntKind.wrap, IntKind.signed, IntKind.bits]; rfl
  · simp [IntKind.wrap, IntKind.signed, IntKind.bits]; rfl
  · rfl
def addE (k : IntKind) (x : Int) (k' : IntKind) (y : Int) : Option T := if k = k' then some (.int k (wrapE k (x + y))) else none
def subE (k : IntKind) (x : Int) (k' : IntKind) (y : Int) : Option T := if k = k' then some (.int k (wrapE k (x - y))) else none
def mulE (k : IntKind) (x : Int) (k' : IntKind) (y : Int) : Option T := if k = k' then some (.int k (wrapE k (x * y))) else none
def lssE (k : IntKind) (x : Int) (k' : IntKind) (y : Int) : Option T := if k = k' then some (.bool (x < y)) else none
def leqE (k : IntKind) (x : Int) (k' : IntKind) (y : Int) : Option T := if k = k' then some (.bool (x ≤ y)) else none
def gtrE (k : IntKind) (x : Int) (k' : IntKind) (y : Int) : Option T := if k = k' then some (.bool (x > y)) else none
def geqE (k : IntKind) (x : Int) (k' : IntKind) (y : Int) : Option T := if k = k' then some (.bool (x ≥ y)) else none
def eqlE (k : IntKind) (x : Int) (k' : IntKind) (y : Int) : Option T := if k = k' then some (.bool (x == y)) else none
def neqE (k : IntKind) (x : Int) (k' : IntKind) (y : Int) : Option T := if k = k' then some (.bool (x != y)) else none
def andE (k : IntKind) (x : Int) (k' : IntKind) (y : Int) : Option T := if k = k' then some (.int k (wrapE k (BitVec.ofInt k.bits x &&& BitVec.ofInt k.bits y).toNat)) else none
def orE (k : IntKind) (x : Int) (k' : IntKind) (y : Int) : Option T := if k = k' then some (.int k (wrapE k (BitVec.ofInt k.bits x ||| BitVec.ofInt k.bits y).toNat)) else none
def xorE (k : IntKind) (x : Int) (k' : IntKind) (y : Int) : Option T := if k = k' then some (.int k (wrapE k (BitVec.ofInt k.bits x ^^^ BitVec.ofInt k.bits y).toNat)) else none
def quoE (k : IntKind) (x : Int) (k' : IntKind) (y : Int) : Option T := if k = k' then if y = 0 then none else some (.int k (wrapE k (x.tdiv y))) else none
def remE (k : IntKind) (x : Int) (k' : IntKind) (y : Int) : Option T := if k = k' then if y = 0 then none else some (.int k (x.tmod y)) else none
def shlE (k : IntKind) (x : Int) (y : Int) : Option T := if y < 0 then none else some (.int k (wrapE k (x * 2 ^ (min y.toNat k.bits))))
def shrE (k : IntKind) (x : Int) (y : Int) : Option T := if y < 0 then none else some (.int k (x.fdiv (2 ^ (min y.toNat k.bits))))
def intE (op : BinOp) (k : IntKind) (x : Int) (k' : IntKind) (y : Int) : Option T := match op with
  | .add => addE k x k' y
  | .sub => subE k x k' y
  | .mul => mulE k x k' y
  | .lss => lssE k x k' y
  | .leq => leqE k x k' y
  | .gtr => gtrE k x k' y
  | .geq => geqE k x k' y
  | .eql => eqlE k x k' y
  | .neq => neqE k x k' y
  | .and => andE k x k' y
  | .or => orE k x k' y
  | .xor => xorE k x k' y
  | .quo => quoE k x k' y
  | .rem => remE k x k' y
  | .shl => shlE k x y
  | .shr => shrE k x y
  | op => binT op (.int k x) (.int k' y)
def binE (op : BinOp) (a b : T) : Option T := match a, b with
  | .int k x, .int k' y => intE op k x k' y
  | a, b => binT op a b
theorem binE_eq (op : BinOp) (a b : T) : binE op a b = binT op a b := by
  unfold binE
  split
  · unfold intE
    split <;> simp only [addE, subE, mulE, lssE, leqE, gtrE, geqE, eqlE, neqE, andE, orE, xorE, quoE, remE, shlE, shrE, wrapE_eq, binT]
  · rfl
def withH (o : Option T) (H : Heap) : Option (T × Heap) := match o with
  | some v => some (v, H)
  | none => none
theorem withH_eq (o : Option T) (H : Heap) : withH o H = o.map (·, H) := by cases o <;> rfl
def ldE (R : Regs) (H : Heap) (n : Nat) (ag : Bool) (x : X) : Option (T × Heap) := match ldc H n (x.ev R) with
  | some cs => withH (valOf ag cs) H
  | none => none
def stE (R : Regs) (H : Heap) (n : Nat) (a v : X) : Option (T × Heap) := match (v.ev R).cells? with
  | some vs => if vs.length = n then (match stc H vs (a.ev R) with | some H' => some (undefT, H') | none => none) else none
  | none => none
def extE (R : Regs) (H : Heap) (i : Nat) (x : X) : Option (T × Heap) := match x.ev R with
  | .tup vs => withH vs[i]? H
  | _ => none
def pickE (R : Regs) (H : Heap) (c a b : X) : Option (T × Heap) := match c.ev R with
  | .bool t => some (if t then a.ev R else b.ev R, H)
  | _ => none
def lenE (R : Regs) (H : Heap) (k : Lc) (x : X) : Option (T × Heap) := match lenT H k (x.ev R) with
  | some n => some (.int .i64 (n : Int), H)
  | none => none
def iadE (R : Regs) (H : Heap) (n : Nat) (x i : X) : Option (T × Heap) := match natOf (i.ev R) with
  | some i => withH (iadT n i (x.ev R)) H
  | none => none
def cviE (R : Regs) (H : Heap) (k : IntKind) (x : X) : Option (T × Heap) := match x.ev R with
  | .int _ n => some (.int k (wrapE k n), H)
  | _ => none
def evopE (R : Regs) (H : Heap) (b : Bo) : Option (T × Heap) := match b with
  | .mov x => some (x.ev R, H)
  | .bin op x y => withH (binE op (x.ev R) (y.ev R)) H
  | .ld n ag x => ldE R H n ag x
  | .st n a v => stE R H n a v
  | .fad off x => withH (fadT off (x.ev R)) H
  | .ext i x => extE R H i x
  | .pick c a b => pickE R H c a b
  | .len k x => lenE R H k x
  | .iad n x i => iadE R H n x i
  | .un op x => withH (unT op (x.ev R)) H
  | .cvi k x => cviE R H k x
  | .alloc z => some (.ptr H.length 0, H ++ [.cells z])
  | b => evop R H b
theorem evopE_eq (R : Regs) (H : Heap) (b : Bo) : evopE R H b = evop R H b := by
  unfold evopE
  split
  · rfl
  · simp only [evop, withH_eq, binE_eq]
  · rename_i n ag x
    simp only [evop, ldE, withH_eq]
    cases ldc H n (x.ev R) <;> rfl
  · rename_i n a v
    simp only [evop, stE]
    cases (v.ev R).cells? with
    | none => rfl
    | some vs =>
      simp only
      split
      · cases stc H vs (a.ev R) <;> rfl
      · rfl
  · simp only [evop, withH_eq]
  · rename_i i x
    simp only [evop, extE, withH_eq]
    cases x.ev R <;> rfl
  · rename_i c a b
    simp only [evop, pickE]
    cases c.ev R <;> rfl
  · rename_i k x
    simp only [evop, lenE]
    cases lenT H k (x.ev R) <;> rfl
  · rename_i n x i
    simp only [evop, iadE, withH_eq]
    cases natOf (i.ev R) <;> rfl
  · simp only [evop, withH_eq]
  · rename_i k x
    simp only [evop, cviE, wrapE_eq]
    cases x.ev R <;> rfl
  · rfl
  · rfl
def eqb1 : T → T → Bool
  | .int k a, .int k' b => decide (k = k') && decide (a = b)
  | .bool a, .bool b => a == b
  | .str a, .str b => strEq a b
  | .nilp, .nilp => true
  | .nilm, .nilm => true
  | .ptr a b, .ptr a' b' => decide (a = a') && decide (b = b')
  | .map b, .map b' => decide (b = b')
  | .msl a b c d, .msl a' b' c' d' => decide (a = a') && decide (b = b') && decide (c = c') && decide (d = d')
  | _, _ => false
theorem eqb1_ok {a b : T} (h : eqb1 a b = true) : a = b := by
  unfold eqb1 at h
  split at h <;> simp_all [strEq_eq]
def all2 {α : Type} (p : α → α → Bool) : List α → List α → Bool
  | [], [] => true
  | a :: l, b :: m => p a b && all2 p l m
  | _, _ => false
theorem all2_ok {α : Type} {p : α → α → Bool} (hp : ∀ a b, p a b = true → a = b) : ∀ (a b : List α), all2 p a b = true → a = b
  | [], [], _ => rfl
  | a :: l, b :: m, h => by
    simp only [all2, Bool.and_eq_true] at h
    rw [hp _ _ h.1, all2_ok hp _ _ h.2]
def eqbF : Nat → T → T → Bool
  | 0, a, b => eqb1 a b
  | n + 1, a, b => match a, b with
    | .sl k es, .sl k' es' => decide (k = k') && all2 (all2 (eqbF n)) es es'
    | .agg a, .agg b => all2 (eqbF n) a b
    | .tup a, .tup b => all2 (eqbF n) a b
    | .iptr a, .iptr b => all2 (eqbF n) a b
    | .fn f a, .fn f' b => decide (f = f') && all2 (eqbF n) a b
    | a, b => eqb1 a b
theorem eqbF_ok : ∀ (n : Nat) (a b : T), eqbF n a b = true → a = b
  | 0, a, b, h => eqb1_ok h
  | n + 1, a, b, h => by
    have ih := all2_ok (eqbF_ok n)
    unfold eqbF at h
    split at h
    · simp only [Bool.and_eq_true, decide_eq_true_eq] at h; rw [h.1, all2_ok ih _ _ h.2]
    · rw [ih _ _ h]
    · rw [ih _ _ h]
    · rw [ih _ _ h]
    · simp only [Bool.and_eq_true, decide_eq_true_eq] at h; rw [h.1, ih _ _ h.2]
    · exact eqb1_ok h
abbrev eqbT : T → T → Bool := eqbF 6
theorem eqbT_ok {a b : T} (h : eqbT a b = true) : a = b := eqbF_ok 6 a b h
def quietB (b : Bo) : Bool := match klB b with | .pure => true | .read => true | _ => false
noncomputable def stabE (R : Regs) (H : Heap) (s : List Rd) : Bool := s.all fun r => !wants R r.g || (quietB r.op && match evop R H r.op with | some (v, _) => eqbT v (R r.d) | none => false)
theorem stabE_ok {R : Regs} {H : Heap} {s : List Rd} (h : stabE R H s = true) : stable R H s := fun r hr hw => by
  have := List.all_eq_true.1 h r hr
  simp only [hw, Bool.not_true, Bool.false_or, Bool.and_eq_true] at this
  obtain ⟨h1, h2⟩ := this
  cases he : evop R H r.op with
  | none => rw [he] at h2; cases h2
  | some x =>
    obtain ⟨v, H'⟩ := x
    rw [he] at h2
    have hv := eqbT_ok h2
    have hh : H' = H := by
      unfold quietB at h1
      split at h1
      · rename_i hk; exact (evop_pure hk he).1
      · rename_i hk; exact (evop_read hk he).1
      · cases h1
    rw [hv, hh]
inductive OE where
  | ex (e : Ex) (L : RTr)
  | val (v : T)
noncomputable def OE.out : OE → Out
  | .ex e L => .ex e (lk L)
  | .val v => .val v
abbrev Res := Option (List (OE × Heap))
inductive JE where
  | code (c : C) (L : RTr)
  | call (f : Nat) (az : List T)
noncomputable def JE.j : JE → J
  | .code c L => .code c (lk L)
  | .call f az => .call f az
structure Yc where
  b : Nat
  n : Nat
  L : RTr
  ps : List Nat
  asg : C
  body : C
def CtxOk (ctx : List Yc) (H : Heap) : Prop := ∀ y ∈ ctx, ∃ st p, H[y.b]? = some (B.loop st p y.n (lk y.L) y.ps y.asg y.body)
theorem CtxOk.mono {ctx : List Yc} {H H' : Heap} (h : CtxOk ctx H) (hp : PrL H H') : CtxOk ctx H' := fun y hy => by
  obtain ⟨st, p, h1⟩ := h y hy
  exact hp _ _ _ _ _ _ _ _ h1
def PostE (l : List (OE × Heap)) : Out → Heap → Prop := fun o H' => ∃ x ∈ l, x.1.out = o ∧ x.2 = H'
def bindL {α : Type} : List α → (α → Res) → Res
  | [], _ => some []
  | x :: l, k => match l with
    | [] => k x
    | _ => match k x with
      | none => none
      | some a => match bindL l k with
        | none => none
        | some b => some (a ++ b)
theorem bindL_ok {α : Type} {k : α → Res} : ∀ {l : List α} {res : List (OE × Heap)}, bindL l k = some res → ∀ x ∈ l, ∃ r, k x = some r ∧ ∀ y ∈ r, y ∈ res
  | [], _, _, x, hx => by cases hx
  | [a], res, h, x, hx => by
    simp only [List.mem_singleton] at hx; subst hx
    exact ⟨res, h, fun y hy => hy⟩
  | a :: b :: l, res, h, x, hx => by
    unfold bindL at h
    simp only at h
    cases ha : k a with
    | none => rw [ha] at h; cases h
    | some ra =>
      rw [ha] at h
      simp only at h
      cases hb : bindL (b :: l) k with
      | none => rw [hb] at h; cases h
      | some rb =>
        rw [hb] at h; cases h
        rcases List.mem_cons.1 hx with rfl | hx
        · exact ⟨ra, ha, fun y hy => List.mem_append_left _ hy⟩
        · obtain ⟨r, h1, h2⟩ := bindL_ok hb x hx
          exact ⟨r, h1, fun y hy => List.mem_append_right _ (h2 y hy)⟩
theorem bindL_mem {α : Type} {k : α → Res} : ∀ {l : List α} {res : List (OE × Heap)}, bindL l k = some res → ∀ y ∈ res, ∃ x ∈ l, ∃ r, k x = some r ∧ y ∈ r
  | [], _, h, y, hy => by cases h; cases hy
  | [a], res, h, y, hy => ⟨a, List.mem_singleton.2 rfl, res, h, hy⟩
  | a :: b :: l, res, h, y, hy => by
    unfold bindL at h
    simp only at h
    cases ha : k a with
    | none => rw [ha] at h; cases h
    | some ra =>
      rw [ha] at h
      simp only at h
      cases hb : bindL (b :: l) k with
      | none => rw [hb] at h; cases h
      | some rb =>
        rw [hb] at h; cases h
        rcases List.mem_append.1 hy with hy | hy
        · exact ⟨a, List.mem_cons_self, ra, ha, hy⟩
        · obtain ⟨x, hx, r, h1, h2⟩ := bindL_mem hb y hy
          exact ⟨x, List.mem_cons_of_mem _ hx, r, h1, h2⟩
def bnR (r : Res) (k : OE → Heap → Res) : Res := match r with
  | none => none
  | some l => bindL l fun x => k x.1 x.2
noncomputable def nxtE (H : Heap) (R : Regs) (x : X) : Option (List (T × Heap)) := match x.ev R with
  | .ptr bi 0 => match H[bi]? with
    | some (.itr b) => match H[b]? with
      | some (.rmap es ix bi' _) => if bi' = bi then
          match ix with
          | [] => some [(.tup [.bool false], H.set b (.map es))]
          | _ => some (ix.filterMap fun i => es[i]?.map fun e => (.tup [.bool true, e.1, e.2], H.set b (.rmap es (ix.erase i) bi (some i))))
        else none
      | _ => none
    | _ => none
  | _ => none
def isNx : Bo → Option X
  | .nxt x => some x
  | _ => none
noncomputable def nilE (R : Regs) (g : Gd) (s : List Rd) : Bo → Bool
  | .eqr _ .slice x y => match g, s, x.ev R, y.ev R with
    | none, [], .sl .arg [], .sl .nil [] => true
    | _, _, _, _ => false
  | _ => false
def readyE (H : Heap) (b : Nat) : Bool := match H[b]? with
  | some (.loop .ready none _ _ _ _ _) => true
  | _ => false
def busyE (H : Heap) (b : Nat) : Bool := match H[b]? with
  | some (.loop .busy none _ _ _ _ _) => true
  | _ => false
noncomputable def yldE (rec : JE → List Yc → Heap → Res) (ctx : List Yc) (y : Yc) (vs : List T) (H : Heap) (k : Bool → Heap → Res) : Res :=
  if readyE H y.b && decide (vs.length = y.ps.length) then
    bnR (rec (.code y.asg (setPs y.L y.ps vs)) ctx H) fun o H1 => match o with
      | .ex .normal L1 => if readyE H1 y.b then
          bnR (rec (.code y.body L1) ctx (H1.set y.b (.loop .busy none y.n (lk y.L) y.ps y.asg y.body))) fun o2 H2 => if busyE H2 y.b then
            match o2 with
            | .ex .normal _ => k true (H2.set y.b (.loop .ready none y.n (lk y.L) y.ps y.asg y.body))
            | .ex e _ => k false (H2.set y.b (.loop .done (some e) y.n (lk y.L) y.ps y.asg y.body))
            | .val _ => none
            else none
        else none
      | _ => none
  else none
noncomputable def opsE (rec : JE → List Yc → Heap → Res) (ctx : List Yc) : List O → RTr → Heap → Res
  | [], L, H => some [(.ex .normal L, H)]
  | o :: l, L, H =>
    if wants (lk L) o.g then
      match o.op with
      | .b b => match evopE (lk L) H b with
        | some (v, H') => if stabE (lk L) H' o.stab then opsE rec ctx l (setO L o.d v) H' else none
        | none => match isNx b with
          | some x => match nxtE H (lk L) x with
            | some r => bindL r fun p => if stabE (lk L) p.2 o.stab then opsE rec ctx l (setO L o.d p.1) p.2 else none
            | none => none
          | none => if nilE (lk L) o.g o.stab b then bindL [true, false] fun t => opsE rec ctx l (setO L o.d (.bool t)) H else none
      | .call f az => bnR (rec (.call f (az.map (X.ev (lk L)))) ctx H) fun r H' => match r with
        | .val v => if stabE (lk L) H' o.stab then opsE rec ctx l (setO L o.d v) H' else none
        | _ => none
      | .callv x az => match x.ev (lk L) with
        | .fn f cs => bnR (rec (.call f (az.map (X.ev (lk L)) ++ cs)) ctx H) fun r H' => match r with
          | .val v => if stabE (lk L) H' o.stab then opsE rec ctx l (setO L o.d v) H' else none
          | _ => none
        | .yld b => match ctx.find? fun y => y.b == b with
          | some y => yldE rec ctx y (az.map (X.ev (lk L))) H fun t H' => if stabE (lk L) H' o.stab then opsE rec ctx l (setO L o.d (.bool t)) H' else none
          | none => none
        | _ => none
    else opsE rec ctx l (setO L o.d undefT) H
def isNormE : Option Ex → Bool
  | some .normal => true
  | _ => false
noncomputable def codeE (rec : JE → List Yc → Heap → Res) (ctx : List Yc) : C → RTr → Heap → Res
  | .skip, L, H => some [(.ex .normal L, H)]
  | .exit id, L, H => some [(.ex (.exit id) L, H)]
  | .ret, L, H => some [(.ex .ret L, H)]
  | .ops l, L, H => opsE rec ctx l L H
  | .seq a b, L, H => bnR (codeE rec ctx a L H) fun o H' => match o with
    | .ex .normal L' => codeE rec ctx b L' H'
    | o => some [(o, H')]
  | .cond x a b, L, H => match x.ev (lk L) with
    | .bool true => codeE rec ctx a L H
    | .bool false => codeE rec ctx b L H
    | _ => none
  | .block id a, L, H => bnR (codeE rec ctx a L H) fun o H' => match o with
    | .ex (.exit i) L' => if i = id then some [(.ex .normal L', H')] else some [(.ex (.exit i) L', H')]
    | o => some [(o, H')]
  | .loop a, L, H => bnR (codeE rec ctx a L H) fun o H' => match o with
    | .ex .normal L' => rec (.code (.loop a) L') ctx H'
    | o => some [(o, H')]
  | .rangeF n x ps asg body, L, H => match x.ev (lk L) with
    | .fn f cs => bnR (rec (.call f (.yld (H.length + 1) :: cs)) (⟨H.length + 1, n, L, ps, asg, body⟩ :: ctx) (H ++ [.dfr, .loop .ready none n (lk L) ps asg body])) fun o H' => match o with
      | .val _ => match H'[H.length + 1]? with
        | some (.loop st pend _ _ _ _ _) => if st ≠ .busy ∧ isNormE pend = false then some [(.ex (pendEx pend) (L.set n (pushMark (L.get n) H.length)), H'.set (H.length + 1) .dead)] else none
        | _ => none
      | _ => none
    | _ => none
def dfrE (H : Heap) (b : Nat) : Bool := match H[b]? with
  | some .dfr => true
  | _ => false
def mslB : T → Option Nat
  | .msl b _ _ _ => some b
  | .tup vs => vs.findSome? fun v => match v with | .msl b _ _ _ => some b | _ => none
  | _ => none
def frzO (x : OE × Heap) : Option (OE × Heap) := match x.1 with
  | .val v => match mslB v with
    | some b => match x.2[b]? with
      | some (.cells cs) => some (.val (frzV b cs v), x.2.set b .dead)
      | _ => none
    | none => none
  | _ => none
def frzAll : List (OE × Heap) → Option (List (OE × Heap))
  | [] => some []
  | x :: l => match frzO x, frzAll l with
    | some y, some m => some (y :: m)
    | _, _ => none
def frzN : Nat → List (OE × Heap) → List (OE × Heap)
  | 0, r => r
  | n + 1, r => match frzAll r with
    | some r' => frzN n r'
    | none => r
noncomputable def callR (fns : Nat → Option Fn) (rec : JE → List Yc → Heap → Res) (ctx : List Yc) (f : Nat) (az : List T) (H : Heap) : Res := match fns f with
  | some fn => if az.length = fn.np then
      bnR (rec (.code fn.body (trOf az)) ctx H) fun o H' => match o with
        | .val _ => none
        | .ex (.exit _) _ => none
        | .ex _ L' => if fn.body.hasR then
            match marks (L'.get fn.n) with
            | some bs => if decide bs.Nodup && bs.all (dfrE H') then match resT (lk L') (kill H' bs) fn.res with
                | some v => some [(.val v, kill H' bs)]
                | none => none
              else none
            | none => none
          else match resT (lk L') H' fn.res with
            | some v => some [(.val v, H')]
            | none => none
    else none
  | none => none
noncomputable def callE (fns : Nat → Option Fn) (pol : Nat → Nat) (rec : JE → List Yc → Heap → Res) (ctx : List Yc) (f : Nat) (az : List T) (H : Heap) : Res := match callR fns rec ctx f az H with
  | some r => some (frzN (pol f) r)
  | none => none
noncomputable def stepE (fns : Nat → Option Fn) (pol : Nat → Nat) (rec : JE → List Yc → Heap → Res) : JE → List Yc → Heap → Res
  | .code c L, ctx, H => codeE rec ctx c L H
  | .call f az, ctx, H => callE fns pol rec ctx f az H
noncomputable def run (fns : Nat → Option Fn) (pol : Nat → Nat) (n : Nat) : JE → List Yc → Heap → Res :=
  Nat.rec (motive := fun _ => JE → List Yc → Heap → Res) (fun _ _ _ => none) (fun _ ih => stepE fns pol ih) n
def saysTrue : Res → Bool
  | some r => r.all fun x => match x.1 with | .val (.bool true) => true | _ => false
  | none => false
end Go.Rmp
end

section
namespace Go.Rmp
section
variable {E : Env} {rec : JE → List Yc → Heap → Res}
def Good (E : Env) (j : J) (H : Heap) (res : List (OE × Heap)) : Prop := W E j H (PostE res) ∧ ∀ x ∈ res, PrL H x.2
def RecOk (E : Env) (rec : JE → List Yc → Heap → Res) : Prop := ∀ j ctx H res, CtxOk ctx H → rec j ctx H = some res → Good E j.j H res
theorem PostE.sub {a b : List (OE × Heap)} (h : ∀ y ∈ a, y ∈ b) : ∀ o H, PostE a o H → PostE b o H := fun o H ⟨x, hx, h1, h2⟩ => ⟨x, h x hx, h1, h2⟩
theorem out_val {x : OE} {v : T} (h : x.out = .val v) : x = .val v := by
  cases x with
  | ex e L => cases h
  | val v' => cases h; rfl
theorem out_ex {x : OE} {e : Ex} {R : Regs} (h : x.out = .ex e R) : ∃ L, x = .ex e L ∧ lk L = R := by
  cases x with
  | ex e' L => cases h; exact ⟨L, rfl, rfl⟩
  | val v' => cases h
theorem nilE_ok {R : Regs} {g : Gd} {s : List Rd} {b : Bo} (h : nilE R g s b = true) : ∃ neg x y, b = .eqr neg .slice x y ∧ g = none ∧ s = [] ∧ x.ev R = .sl .arg [] ∧ y.ev R = .sl .nil [] := by
  unfold nilE at h
  split at h
  · rename_i neg x y
    split at h
    · rename_i h1 h2
      exact ⟨neg, x, y, rfl, rfl, rfl, h1, h2⟩
    · cases h
  · cases h
theorem findY_ok {ctx : List Yc} {b : Nat} {y : Yc} (h : ctx.find? (fun y => y.b == b) = some y) : y ∈ ctx ∧ y.b = b := ⟨List.mem_of_find?_eq_some h, by simpa using List.find?_some h⟩
theorem ready_ok {H : Heap} {b : Nat} (h : readyE H b = true) : ∃ n R ps a c, H[b]? = some (.loop .ready none n R ps a c) := by
  unfold readyE at h
  split at h
  · rename_i hb; exact ⟨_, _, _, _, _, hb⟩
  · cases h
theorem busy_ok {H : Heap} {b : Nat} (h : busyE H b = true) : ∃ n R ps a c, H[b]? = some (.loop .busy none n R ps a c) := by
  unfold busyE at h
  split at h
  · rename_i hb; exact ⟨_, _, _, _, _, hb⟩
  · cases h
theorem nxtE_ok {H : Heap} {R : Regs} {x : X} {r : List (T × Heap)} (h : nxtE H R x = some r) : ∃ bi b es ix cur, x.ev R = .ptr bi 0 ∧ H[b]? = some (.rmap es ix bi cur) ∧ (∀ t H', NxtTo H b bi es ix t H' → (t, H') ∈ r) ∧ ∀ p ∈ r, PrL H p.2 := by
  unfold nxtE at h
  split at h
  · rename_i bi hx
    split at h
    · rename_i b hbi
      split at h
      · rename_i es ix bi' cur hb
        split at h
        · rename_i he
          subst he
          refine ⟨_, b, es, ix, cur, hx, hb, ?_⟩
          split at h
          · cases h
            refine ⟨fun t H' hn => ?_, fun p hp => ?_⟩
            · rcases hn with ⟨_, rfl, rfl⟩ | ⟨i, e, hi, _⟩
              · exact List.mem_singleton.2 rfl
              · cases hi
            · cases List.mem_singleton.1 hp
              exact PrL.set _ hb (by intros; simp)
          · rename_i hne
            cases h
            refine ⟨fun t H' hn => ?_, fun p hp => ?_⟩
            · rcases hn with ⟨e, _⟩ | ⟨i, e, hi, he, rfl, rfl⟩
              · exact absurd e hne
              · exact List.mem_filterMap.2 ⟨i, hi, by rw [he]; rfl⟩
            · obtain ⟨i, _, hi⟩ := List.mem_filterMap.1 hp
              rw [Option.map_eq_some_iff] at hi
              obtain ⟨e, _, rfl⟩ := hi
              exact PrL.set _ hb (by intros; simp)
        · cases h
      · cases h
    · cases h
  · cases h
theorem good_call {f : Nat} {az : List T} {ctx : List Yc} {H : Heap} {l : List O} {L : RTr} {d : Option Nat} {s : List Rd} {res : List (OE × Heap)} (hr : RecOk E rec) (hc : CtxOk ctx H)
    (ih : ∀ L' H' res, CtxOk ctx H' → opsE rec ctx l L' H' = some res → Good E (.ops l (lk L')) H' res)
    (h : bnR (rec (.call f az) ctx H) (fun r H' => match r with
        | .val v => if stabE (lk L) H' s then opsE rec ctx l (setO L d v) H' else none
        | _ => none) = some res) :
    ∃ M : Out → Heap → Prop, W E (.call f az) H M ∧ (∀ v H', M (.val v) H' → stable (lk L) H' s) ∧ (∀ v H', M (.val v) H' → W E (.ops l (updo (lk L) d v)) H' (PostE res)) ∧ ∀ x ∈ res, PrL H x.2 := by
  cases h1 : rec (.call f az) ctx H with
  | none => rw [h1] at h; cases h
  | some r =>
    rw [h1] at h
    obtain ⟨g1, g2⟩ := hr _ _ _ _ hc h1
    refine ⟨PostE r, g1, fun v H' hp => ?_, fun v H' hp => ?_, fun x hx => ?_⟩
    · obtain ⟨⟨o, H2⟩, hx, ho, rfl⟩ := hp
      cases out_val ho
      obtain ⟨r2, h2, _⟩ := bindL_ok h _ hx
      simp only at h2
      split at h2
      · rename_i hs; exact stabE_ok hs
      · cases h2
    · obtain ⟨⟨o, H2⟩, hx, ho, rfl⟩ := hp
      cases out_val ho
      obtain ⟨r2, h2, h3⟩ := bindL_ok h _ hx
      simp only at h2
      split at h2
      · rw [← lk_setO]
        exact (ih _ _ _ (hc.mono (g2 _ hx)) h2).1.use (PostE.sub h3)
      · cases h2
    · obtain ⟨⟨o, H2⟩, hy, r2, h2, h3⟩ := bindL_mem h x hx
      simp only at h2
      split at h2
      · split at h2
        · exact (g2 _ hy).trans ((ih _ _ _ (hc.mono (g2 _ hy)) h2).2 x h3)
        · cases h2
      · cases h2
theorem opsE_ok (hr : RecOk E rec) (ctx : List Yc) : ∀ (l : List O) (L : RTr) (H : Heap) (res : List (OE × Heap)), CtxOk ctx H → opsE rec ctx l L H = some res → Good E (.ops l (lk L)) H res := by
  intro l
  induction l with
  | nil =>
    intro L H res hc h
    cases h
    exact ⟨.nil ⟨_, List.mem_singleton.2 rfl, rfl, rfl⟩, fun x hx => by cases List.mem_singleton.1 hx; exact PrL.refl _⟩
  | cons o l ih =>
    intro L H res hc h
    obtain ⟨d, op, g, s⟩ := o
    unfold opsE at h
    simp only at h
    split at h
    · rename_i hw
      split at h
      · rename_i b
        split at h
        · rename_i v H' he
          rw [evopE_eq] at he
          split at h
          · rename_i hs
            have hp := evop_prl he
            obtain ⟨g1, g2⟩ := ih _ _ _ (hc.mono hp) h
            rw [lk_setO] at g1
            exact ⟨.op hw he (stabE_ok hs) g1, fun x hx => hp.trans (g2 x hx)⟩
          · cases h
        · split at h
          · rename_i x hx
            have hb : b = .nxt x := by
              unfold isNx at hx; split at hx <;> cases hx; rfl
            subst hb
            split at h
            · rename_i r hn
              obtain ⟨bi, bb, es, ix, cur, h1, h2, h3, h4⟩ := nxtE_ok hn
              refine ⟨.nxt hw h1 h2 (fun t H' ht => ?_) (fun t H' ht => ?_), fun y hy => ?_⟩
              · obtain ⟨r2, k1, _⟩ := bindL_ok h _ (h3 t H' ht)
                simp only at k1
                split at k1
                · rename_i hs; exact stabE_ok hs
                · cases k1
              · obtain ⟨r2, k1, k2⟩ := bindL_ok h _ (h3 t H' ht)
                simp only at k1
                split at k1
                · have := (ih _ _ _ (hc.mono (h4 _ (h3 t H' ht))) k1).1
                  rw [lk_setO] at this
                  exact this.use (PostE.sub k2)
                · cases k1
              · obtain ⟨p, hp, r2, k1, k2⟩ := bindL_mem h y hy
                split at k1
                · exact (h4 p hp).trans ((ih _ _ _ (hc.mono (h4 p hp)) k1).2 y k2)
                · cases k1
            · cases h
          · split at h
            · rename_i hn
              obtain ⟨neg, x, y, rfl, rfl, rfl, h1, h2⟩ := nilE_ok hn
              refine ⟨.nils rfl (fun t => ?_) h1 h2 rfl, fun z hz => ?_⟩
              · obtain ⟨r2, k1, k2⟩ := bindL_ok h t (by cases t <;> simp)
                have := (ih _ _ _ hc k1).1
                rw [lk_setO] at this
                exact this.use (PostE.sub k2)
              · obtain ⟨t, _, r2, k1, k2⟩ := bindL_mem h z hz
                exact (ih _ _ _ hc k1).2 z k2
            · cases h
      · obtain ⟨M, m1, m2, m3, m4⟩ := good_call hr hc ih h
        exact ⟨.call M hw m1 m2 m3, m4⟩
      · rename_i x az
        split at h
        · rename_i hf
          obtain ⟨M, m1, m2, m3, m4⟩ := good_call hr hc ih h
          exact ⟨.callv M hw hf m1 m2 m3, m4⟩
        · rename_i b hf
          split at h
          · rename_i y hy
            obtain ⟨hyc, rfl⟩ := findY_ok hy
            unfold yldE at h
            split at h
            · rename_i hcond
              simp only [Bool.and_eq_true, decide_eq_true_eq] at hcond
              obtain ⟨hrd, hlen⟩ := hcond
              obtain ⟨st, pp, hb⟩ := hc y hyc
              obtain ⟨n1, R1, ps1, a1, c1, hb1⟩ := ready_ok hrd
              rw [hb] at hb1; cases hb1
              cases h1 : rec (.code y.asg (setPs y.L y.ps (az.map (X.ev (lk L))))) ctx H with
              | none => rw [h1] at h; cases h
              | some r1 =>
                rw [h1] at h
                obtain ⟨g1, g2⟩ := hr _ _ _ _ hc h1
                simp only [JE.j, lk_ps] at g1
                have mid : ∀ L1 H1, (OE.ex .normal L1, H1) ∈ r1 → H1[y.b]? = some (.loop .ready none y.n (lk y.L) y.ps y.asg y.body) ∧ ∃ r2, rec (.code y.body L1) ctx (H1.set y.b (.loop .busy none y.n (lk y.L) y.ps y.asg y.body)) = some r2 ∧ Good E (.code y.body (lk L1)) (H1.set y.b (.loop .busy none y.n (lk y.L) y.ps y.asg y.body)) r2 := by
                  intro L1 H1 hm
                  obtain ⟨rk, k1, _⟩ := bindL_ok h _ hm
                  simp only at k1
                  split at k1
                  · rename_i hrd1
                    obtain ⟨st1, pp1, e1⟩ := g2 _ hm _ _ _ _ _ _ _ _ hb
                    obtain ⟨n1, R1, ps1, a1, c1, hb1⟩ := ready_ok hrd1
                    rw [e1] at hb1; cases hb1
                    refine ⟨e1, ?_⟩
                    cases h2 : rec (.code y.body L1) ctx (H1.set y.b (.loop .busy none y.n (lk y.L) y.ps y.asg y.body)) with
                    | none => rw [h2] at k1; cases k1
                    | some r2 => exact ⟨r2, rfl, hr _ _ _ _ ((hc.mono (g2 _ hm)).mono (PrL.ifset _ _ e1)) h2⟩
                  · cases k1
                have norm : ∀ x ∈ r1, ∃ L1, x.1 = .ex .normal L1 := by
                  rintro ⟨o1, H1⟩ hx
                  obtain ⟨rk, k1, _⟩ := bindL_ok h _ hx
                  simp only at k1
                  split at k1
                  · exact ⟨_, rfl⟩
                  · cases k1
                have last : ∀ L1 H1 r2, (OE.ex .normal L1, H1) ∈ r1 → rec (.code y.body L1) ctx (H1.set y.b (.loop .busy none y.n (lk y.L) y.ps y.asg y.body)) = some r2 → ∀ o2 H2, (o2, H2) ∈ r2 → H2[y.b]? = some (.loop .busy none y.n (lk y.L) y.ps y.asg y.body) ∧ PrL H H2 ∧ ∃ (e : Ex) (L2 : RTr), o2 = .ex e L2 ∧
                    ∃ (t : Bool) (st : LSt) (pe : Option Ex), ((e = .normal ∧ t = true ∧ st = .ready ∧ pe = none) ∨ (e ≠ .normal ∧ t = false ∧ st = .done ∧ pe = some e)) ∧ stabE (lk L) (H2.set y.b (.loop st pe y.n (lk y.L) y.ps y.asg y.body)) s = true ∧ ∃ r3, opsE rec ctx l (setO L d (.bool t)) (H2.set y.b (.loop st pe y.n (lk y.L) y.ps y.asg y.body)) = some r3 ∧ ∀ z ∈ r3, z ∈ res := by
                  intro L1 H1 r2 hm h2 o2 H2 hm2
                  obtain ⟨e1, r2', h2', g3, g4⟩ := mid L1 H1 hm
                  rw [h2] at h2'; cases h2'
                  obtain ⟨rk, k1, k2⟩ := bindL_ok h _ hm
                  simp only at k1
                  split at k1
                  · rw [h2] at k1
                    obtain ⟨rj, j1, j2⟩ := bindL_ok k1 _ hm2
                    simp only at j1
                    have hpr := g4 _ hm2
                    have hbz : (H1.set y.b (.loop .busy none y.n (lk y.L) y.ps y.asg y.body))[y.b]? = some (.loop .busy none y.n (lk y.L) y.ps y.asg y.body) := by rw [List.getElem?_set_self (List.getElem?_eq_some_iff.1 e1).1]
                    obtain ⟨st2, pp2, e2⟩ := hpr _ _ _ _ _ _ _ _ hbz
                    split at j1
                    · rename_i hbs
                      obtain ⟨n1, R1, ps1, a1, c1, hb1⟩ := busy_ok hbs
                      rw [e2] at hb1; cases hb1
                      refine ⟨e2, ((g2 _ hm).trans (PrL.ifset _ _ e1)).trans hpr, ?_⟩
                      split at j1
                      · rename_i L2
                        split at j1
                        · rename_i hs
                          exact ⟨.normal, L2, rfl, true, .ready, none, .inl ⟨rfl, rfl, rfl, rfl⟩, hs, rj, j1, fun z hz => k2 z (j2 z hz)⟩
                        · cases j1
                      · rename_i e L2 hne
                        split at j1
                        · rename_i hs
                          exact ⟨e, L2, rfl, false, .done, some e, .inr ⟨fun hh => hne hh, rfl, rfl, rfl⟩, hs, rj, j1, fun z hz => k2 z (j2 z hz)⟩
                        · cases j1
                      · cases j1
                    · cases j1
                  · cases k1
                let M : Out → Heap → Prop := fun o H2 => ∃ L1 H1 r2, (OE.ex .normal L1, H1) ∈ r1 ∧ rec (.code y.body L1) ctx (H1.set y.b (.loop .busy none y.n (lk y.L) y.ps y.asg y.body)) = some r2 ∧ PostE r2 o H2
                have fin : ∀ o H2, M o H2 → ∃ e R2, o = .ex e R2 ∧ H2[y.b]? = some (.loop .busy none y.n (lk y.L) y.ps y.asg y.body) ∧ PrL H H2 ∧
                    ∃ (t : Bool) (st : LSt) (pe : Option Ex), ((e = .normal ∧ t = true ∧ st = .ready ∧ pe = none) ∨ (e ≠ .normal ∧ t = false ∧ st = .done ∧ pe = some e)) ∧ stabE (lk L) (H2.set y.b (.loop st pe y.n (lk y.L) y.ps y.asg y.body)) s = true ∧ W E (.ops l (updo (lk L) d (.bool t))) (H2.set y.b (.loop st pe y.n (lk y.L) y.ps y.asg y.body)) (PostE res) := by
                  rintro o H2 ⟨L1, H1, r2, hm, h2, ⟨o2, H2'⟩, hm2, ho, rfl⟩
                  obtain ⟨e2, hpr, e, L2, rfl, t, st, pe, hcase, hs, r3, h3, h4⟩ := last L1 H1 r2 hm h2 o2 H2' hm2
                  cases ho
                  refine ⟨e, lk L2, rfl, e2, hpr, t, st, pe, hcase, hs, ?_⟩
                  have := (ih _ _ _ ((hc.mono hpr).mono (PrL.ifset st pe e2)) h3).1
                  rw [lk_setO] at this
                  exact this.use (PostE.sub h4)
                refine ⟨.yld (PostE r1) M hw hf hb (by simpa using hlen) g1 ?_ ?_ ?_ ?_ ?_ ?_ ?_, fun x hx => ?_⟩
                · rintro o H' ⟨⟨o1, H1⟩, hm, ho, rfl⟩
                  obtain ⟨L1, rfl⟩ := norm _ hm
                  cases ho
                  exact ⟨⟨_, rfl⟩, (mid _ _ hm).1⟩
                · rintro R1 H1 ⟨⟨o1, H1'⟩, hm, ho, rfl⟩
                  obtain ⟨L1, rfl, rfl⟩ := out_ex ho
                  obtain ⟨e1, r2, h2, g3, g4⟩ := mid _ _ hm
                  exact g3.use fun o H2 hp => ⟨L1, H1', r2, hm, h2, hp⟩
                · intro o H2 hM
                  obtain ⟨e, R2, _, e2, _⟩ := fin o H2 hM
                  exact e2
                · intro R2 H2 hM
                  obtain ⟨e, R2', ho, e2, hpr, t, st, pe, hcase, hs, hW⟩ := fin _ H2 hM
                  cases ho
                  rcases hcase with ⟨_, rfl, rfl, rfl⟩ | ⟨hne, _⟩
                  · exact stabE_ok hs
                  · exact absurd rfl hne
                · intro R2 H2 hM
                  obtain ⟨e, R2', ho, e2, hpr, t, st, pe, hcase, hs, hW⟩ := fin _ H2 hM
                  cases ho
                  rcases hcase with ⟨_, rfl, rfl, rfl⟩ | ⟨hne, _⟩
                  · exact hW
                  · exact absurd rfl hne
                · intro e R2 H2 hM hne
                  obtain ⟨e', R2', ho, e2, hpr, t, st, pe, hcase, hs, hW⟩ := fin _ H2 hM
                  cases ho
                  rcases hcase with ⟨he, _⟩ | ⟨_, rfl, rfl, rfl⟩
                  · exact absurd he hne
                  · exact stabE_ok hs
                · intro e R2 H2 hM hne
                  obtain ⟨e', R2', ho, e2, hpr, t, st, pe, hcase, hs, hW⟩ := fin _ H2 hM
                  cases ho
                  rcases hcase with ⟨he, _⟩ | ⟨_, rfl, rfl, rfl⟩
                  · exact absurd he hne
                  · exact hW
                · obtain ⟨⟨o1, H1⟩, hm, rk, k1, k2⟩ := bindL_mem h x hx
                  obtain ⟨L1, he⟩ := norm _ hm
                  cases he
                  obtain ⟨e1, r2, h2, g3, g4⟩ := mid _ _ hm
                  simp only at k1
                  split at k1
                  · rw [h2] at k1
                    obtain ⟨⟨o2, H2⟩, hm2, rj, j1, j2⟩ := bindL_mem k1 x k2
                    obtain ⟨e2, hpr, e, L2, rfl, t, st, pe, hcase, hs, r3, h3, h4⟩ := last L1 H1 r2 hm h2 o2 H2 hm2
                    have hpz := hpr.trans (PrL.ifset st pe e2)
                    refine hpz.trans ((ih _ _ _ (hc.mono hpz) h3).2 x ?_)
                    simp only at j1
                    split at j1
                    · rcases hcase with ⟨rfl, rfl, rfl, rfl⟩ | ⟨hne, rfl, rfl, rfl⟩
                      · simp only [hs, if_true] at j1
                        rw [h3] at j1; cases j1; exact j2
                      · cases e with
                        | normal => exact absurd rfl hne
                        | _ =>
                          simp only [hs, if_true] at j1
                          rw [h3] at j1; cases j1; exact j2
                    · cases j1
                  · cases k1
            · cases h
          · cases h
        · cases h
    · rename_i hw
      obtain ⟨g1, g2⟩ := ih _ _ _ hc h
      rw [lk_setO] at g1
      exact ⟨.no (by simpa using hw) g1, g2⟩
theorem codeE_ok (hr : RecOk E rec) (ctx : List Yc) : ∀ (c : C) (L : RTr) (H : Heap) (res : List (OE × Heap)), CtxOk ctx H → codeE rec ctx c L H = some res → Good E (.code c (lk L)) H res := by
  intro c
  induction c with
  | skip => intro L H res hc h; cases h; exact ⟨.skip ⟨_, List.mem_singleton.2 rfl, rfl, rfl⟩, fun x hx => by cases List.mem_singleton.1 hx; exact PrL.refl _⟩
  | exit id => intro L H res hc h; cases h; exact ⟨.exit ⟨_, List.mem_singleton.2 rfl, rfl, rfl⟩, fun x hx => by cases List.mem_singleton.1 hx; exact PrL.refl _⟩
  | ret => intro L H res hc h; cases h; exact ⟨.ret ⟨_, List.mem_singleton.2 rfl, rfl, rfl⟩, fun x hx => by cases List.mem_singleton.1 hx; exact PrL.refl _⟩
  | ops l =>
    intro L H res hc h
    obtain ⟨g1, g2⟩ := opsE_ok hr ctx l L H res hc h
    exact ⟨.reg g1, g2⟩
  | seq a b iha ihb =>
    intro L H res hc h
    unfold codeE at h
    cases h1 : codeE rec ctx a L H with
    | none => rw [h1] at h; cases h
    | some r1 =>
      rw [h1] at h
      obtain ⟨g1, g2⟩ := iha _ _ _ hc h1
      refine ⟨.seq (PostE r1) g1 ?_ ?_, fun x hx => ?_⟩
      · rintro R' H' ⟨⟨o, H2⟩, hm, ho, rfl⟩
        obtain ⟨L', rfl, rfl⟩ := out_ex ho
        obtain ⟨r2, k1, k2⟩ := bindL_ok h _ hm
        exact (ihb _ _ _ (hc.mono (g2 _ hm)) k1).1.use (PostE.sub k2)
      · rintro o H' ⟨⟨o1, H2⟩, hm, rfl, rfl⟩ hne
        obtain ⟨r2, k1, k2⟩ := bindL_ok h _ hm
        simp only at k1
        split at k1
        · exact absurd rfl (hne _)
        · cases k1; exact ⟨_, k2 _ (List.mem_singleton.2 rfl), rfl, rfl⟩
      · obtain ⟨⟨o1, H2⟩, hm, r2, k1, k2⟩ := bindL_mem h x hx
        simp only at k1
        split at k1
        · exact (g2 _ hm).trans ((ihb _ _ _ (hc.mono (g2 _ hm)) k1).2 x k2)
        · cases k1; cases List.mem_singleton.1 k2; exact g2 _ hm
  | cond x a b iha ihb =>
    intro L H res hc h
    unfold codeE at h
    split at h
    · rename_i hx
      obtain ⟨g1, g2⟩ := iha _ _ _ hc h
      exact ⟨.cond true hx (by rw [if_pos rfl]; exact g1), g2⟩
    · rename_i hx
      obtain ⟨g1, g2⟩ := ihb _ _ _ hc h
      exact ⟨.cond false hx (by rw [if_neg (by simp)]; exact g1), g2⟩
    · cases h
  | block id a iha =>
    intro L H res hc h
    unfold codeE at h
    cases h1 : codeE rec ctx a L H with
    | none => rw [h1] at h; cases h
    | some r1 =>
      rw [h1] at h
      obtain ⟨g1, g2⟩ := iha _ _ _ hc h1
      refine ⟨.block (PostE r1) g1 ?_ ?_, fun x hx => ?_⟩
      · rintro R' H' ⟨⟨o, H2⟩, hm, ho, rfl⟩
        obtain ⟨L', rfl, rfl⟩ := out_ex ho
        obtain ⟨r2, k1, k2⟩ := bindL_ok h _ hm
        simp only [if_true] at k1
        cases k1
        exact ⟨_, k2 _ (List.mem_singleton.2 rfl), rfl, rfl⟩
      · rintro o H' ⟨⟨o1, H2⟩, hm, rfl, rfl⟩ hne
        obtain ⟨r2, k1, k2⟩ := bindL_ok h _ hm
        simp only at k1
        split at k1
        · split at k1
          · rename_i e; subst e; exact absurd rfl (hne _)
          · cases k1; exact ⟨_, k2 _ (List.mem_singleton.2 rfl), rfl, rfl⟩
        · cases k1; exact ⟨_, k2 _ (List.mem_singleton.2 rfl), rfl, rfl⟩
      · obtain ⟨⟨o1, H2⟩, hm, r2, k1, k2⟩ := bindL_mem h x hx
        simp only at k1
        have hp := g2 _ hm
        split at k1
        · split at k1
          · cases k1; cases List.mem_singleton.1 k2; exact hp
          · cases k1; cases List.mem_singleton.1 k2; exact hp
        · cases k1; cases List.mem_singleton.1 k2; exact hp
  | loop a iha =>
    intro L H res hc h
    unfold codeE at h
    cases h1 : codeE rec ctx a L H with
    | none => rw [h1] at h; cases h
    | some r1 =>
      rw [h1] at h
      obtain ⟨g1, g2⟩ := iha _ _ _ hc h1
      refine ⟨.loop (PostE r1) g1 ?_ ?_, fun x hx => ?_⟩
      · rintro R' H' ⟨⟨o, H2⟩, hm, ho, rfl⟩
        obtain ⟨L', rfl, rfl⟩ := out_ex ho
        obtain ⟨r2, k1, k2⟩ := bindL_ok h _ hm
        exact (hr _ _ _ _ (hc.mono (g2 _ hm)) k1).1.use (PostE.sub k2)
      · rintro o H' ⟨⟨o1, H2⟩, hm, rfl, rfl⟩ hne
        obtain ⟨r2, k1, k2⟩ := bindL_ok h _ hm
        simp only at k1
        split at k1
        · exact absurd rfl (hne _)
        · cases k1; exact ⟨_, k2 _ (List.mem_singleton.2 rfl), rfl, rfl⟩
      · obtain ⟨⟨o1, H2⟩, hm, r2, k1, k2⟩ := bindL_mem h x hx
        simp only at k1
        split at k1
        · exact (g2 _ hm).trans ((hr _ _ _ _ (hc.mono (g2 _ hm)) k1).2 x k2)
        · cases k1; cases List.mem_singleton.1 k2; exact g2 _ hm
  | rangeF n x ps asg body iha ihb =>
    intro L H res hc h
    unfold codeE at h
    split at h
    · rename_i f cs hf
      have hg : (H ++ [B.dfr, .loop .ready none n (lk L) ps asg body])[H.length + 1]? = some (.loop .ready none n (lk L) ps asg body) := by
        rw [List.getElem?_append_right (by omega)]
        have : H.length + 1 - H.length = 1 := by omega
        rw [this]; rfl
      have hc2 : CtxOk (⟨H.length + 1, n, L, ps, asg, body⟩ :: ctx) (H ++ [B.dfr, .loop .ready none n (lk L) ps asg body]) := fun y hy => by
        rcases List.mem_cons.1 hy with rfl | hy
        · exact ⟨_, _, hg⟩
        · exact hc.mono (PrL.app _ _) y hy
      cases h1 : rec (.call f (.yld (H.length + 1) :: cs)) (⟨H.length + 1, n, L, ps, asg, body⟩ :: ctx) (H ++ [.dfr, .loop .ready none n (lk L) ps asg body]) with
      | none => rw [h1] at h; cases h
      | some r1 =>
        rw [h1] at h
        obtain ⟨g1, g2⟩ := hr _ _ _ _ hc2 h1
        have key : ∀ v H', (OE.val v, H') ∈ r1 → ∃ st pend, st ≠ .busy ∧ pend ≠ some .normal ∧ H'[H.length + 1]? = some (.loop st pend n (lk L) ps asg body) ∧ (OE.ex (pendEx pend) (L.set n (pushMark (L.get n) H.length)), H'.set (H.length + 1) .dead) ∈ res := by
          intro v H' hm
          obtain ⟨r2, k1, k2⟩ := bindL_ok h _ hm
          simp only at k1
          obtain ⟨st', pp', e1⟩ := g2 _ hm _ _ _ _ _ _ _ _ hg
          rw [e1] at k1
          simp only at k1
          split at k1
          · rename_i hcond
            cases k1
            refine ⟨st', pp', hcond.1, fun e => ?_, e1, k2 _ (List.mem_singleton.2 rfl)⟩
            rw [e] at hcond; exact absurd hcond.2 (by simp [isNormE])
          · cases k1
        refine ⟨.rangeF (PostE r1) hf g1 ?_, fun y hy => ?_⟩
        · rintro v H' ⟨⟨o, H2⟩, hm, ho, rfl⟩
          cases out_val ho
          obtain ⟨st, pend, k1, k2, k3, k4⟩ := key v H2 hm
          refine ⟨st, pend, k1, k2, k3, _, k4, ?_, rfl⟩
          simp only [OE.out]
          rw [lk_upd]
        · obtain ⟨⟨o, H2⟩, hm, r2, k1, k2⟩ := bindL_mem h y hy
          simp only at k1
          split at k1
          · split at k1
            · split at k1
              · cases k1; cases List.mem_singleton.1 k2
                intro b st p n R ps a c hb
                have hlt := (List.getElem?_eq_some_iff.1 hb).1
                obtain ⟨st', p', hb'⟩ := ((PrL.app _ _).trans (g2 _ hm)) b st p n R ps a c hb
                exact ⟨st', p', by rw [List.getElem?_set_ne (by omega)]; exact hb'⟩
              · cases k1
            · cases k1
          · cases k1
    · cases h
theorem kill_prl : ∀ (bs : List Nat) (H : Heap), (∀ b ∈ bs, H[b]? = some .dfr) → bs.Nodup → PrL H (kill H bs)
  | [], H, _, _ => PrL.refl _
  | b :: bs, H, h, hn => by
    have hb := h b List.mem_cons_self
    have hn' := List.nodup_cons.1 hn
    refine (PrL.set .dead hb (by intros; simp)).trans (kill_prl bs _ (fun b' hb' => ?_) hn'.2)
    rw [List.getElem?_set_ne (by rintro rfl; exact hn'.1 hb')]
    exact h b' (List.mem_cons_of_mem _ hb')
theorem dfr_ok {H : Heap} {b : Nat} (h : dfrE H b = true) : H[b]? = some .dfr := by
  unfold dfrE at h
  split at h
  · rename_i hb; exact hb
  · cases h
theorem callR_ok (hr : RecOk E rec) {ctx : List Yc} {f : Nat} {az : List T} {H : Heap} {res : List (OE × Heap)} (hc : CtxOk ctx H) (h : callR E.fn rec ctx f az H = some res) : Good E (.call f az) H res ∧ ∀ x ∈ res, ∃ v, x.1 = .val v := by
  unfold callR at h
  split at h
  · rename_i fn hf
    split at h
    · rename_i hn
      cases h1 : rec (.code fn.body (trOf az)) ctx H with
      | none => rw [h1] at h; cases h
      | some r1 =>
        rw [h1] at h
        obtain ⟨g1, g2⟩ := hr _ _ _ _ hc h1
        simp only [JE.j, lk_0] at g1
        have nv : ∀ o H', (o, H') ∈ r1 → ∃ e L', o = .ex e L' ∧ (e = .normal ∨ e = .ret) := by
          intro o H' hm
          obtain ⟨r2, k1, _⟩ := bindL_ok h _ hm
          simp only at k1
          split at k1
          · cases k1
          · cases k1
          · rename_i e L' hne
            refine ⟨e, L', rfl, ?_⟩
            cases e with
            | normal => exact .inl rfl
            | ret => exact .inr rfl
            | exit id => exact absurd rfl (hne id)
        cases hR : fn.body.hasR with
        | false =>
          have key : ∀ e L' H', (OE.ex e L', H') ∈ r1 → ∃ v, resT (lk L') H' fn.res = some v ∧ (OE.val v, H') ∈ res := by
            intro e L' H' hm
            obtain ⟨r2, k1, k2⟩ := bindL_ok h _ hm
            simp only at k1
            split at k1
            · cases k1
            · cases k1
            · rename_i e' L2 hne he
              cases he
              rw [hR] at k1
              simp only [Bool.false_eq_true, if_false] at k1
              split at k1
              · rename_i v hv
                cases k1
                exact ⟨v, hv, k2 _ (List.mem_singleton.2 rfl)⟩
              · cases k1
          refine ⟨⟨.fn (PostE r1) hf hR hn g1 ?_, fun x hx => ?_⟩, fun x hx => ?_⟩
          · rintro o H' ⟨⟨o1, H2⟩, hm, rfl, rfl⟩
            obtain ⟨e, L', rfl, he⟩ := nv _ _ hm
            obtain ⟨v, k1, k2⟩ := key _ _ _ hm
            refine ⟨lk L', ?_, v, k1, _, k2, rfl, rfl⟩
            rcases he with rfl | rfl
            · exact .inl rfl
            · exact .inr rfl
          · obtain ⟨⟨o1, H2⟩, hm, r2, k1, k2⟩ := bindL_mem h x hx
            obtain ⟨e, L', rfl, he⟩ := nv _ _ hm
            have hp := g2 _ hm
            simp only at k1
            split at k1
            · cases k1
            · cases k1
            · rw [hR] at k1
              simp only [Bool.false_eq_true, if_false] at k1
              split at k1
              · cases k1; cases List.mem_singleton.1 k2; exact hp
              · cases k1
          · obtain ⟨⟨o1, H2⟩, hm, r2, k1, k2⟩ := bindL_mem h x hx
            obtain ⟨e, L', rfl, he⟩ := nv _ _ hm
            simp only at k1
            split at k1
            · cases k1
            · cases k1
            · rw [hR] at k1
              simp only [Bool.false_eq_true, if_false] at k1
              split at k1
              · cases k1; cases List.mem_singleton.1 k2; exact ⟨_, rfl⟩
              · cases k1
        | true =>
          have key : ∀ e L' H', (OE.ex e L', H') ∈ r1 → ∃ bs v, marks (L'.get fn.n) = some bs ∧ bs.Nodup ∧ (∀ b ∈ bs, H'[b]? = some .dfr) ∧ resT (lk L') (kill H' bs) fn.res = some v ∧ (OE.val v, kill H' bs) ∈ res := by
            intro e L' H' hm
            obtain ⟨r2, k1, k2⟩ := bindL_ok h _ hm
            simp only at k1
            split at k1
            · cases k1
            · cases k1
            · rename_i e' L2 hne he
              cases he
              rw [hR] at k1
              simp only [if_true] at k1
              split at k1
              · rename_i bs hbs
                split at k1
                · rename_i hcond
                  simp only [Bool.and_eq_true, decide_eq_true_eq] at hcond
                  split at k1
                  · rename_i v hv
                    cases k1
                    exact ⟨bs, v, hbs, hcond.1, fun b hb => dfr_ok (List.all_eq_true.1 hcond.2 b hb), hv, k2 _ (List.mem_singleton.2 rfl)⟩
                  · cases k1
                · cases k1
              · cases k1
          have rest : ∀ x ∈ res, PrL H x.2 ∧ ∃ v, x.1 = .val v := by
            intro x hx
            obtain ⟨⟨o1, H2⟩, hm, r2, k1, k2⟩ := bindL_mem h x hx
            obtain ⟨e, L', rfl, he⟩ := nv _ _ hm
            obtain ⟨bs, v, q1, q2, q3, q4, q5⟩ := key _ _ _ hm
            simp only at k1
            split at k1
            · cases k1
            · cases k1
            · rename_i e' L2 hne he'
              cases he'
              rw [hR, q1] at k1
              simp only [if_true] at k1
              split at k1
              · rw [q4] at k1
                cases k1; cases List.mem_singleton.1 k2
                exact ⟨(g2 _ hm).trans (kill_prl bs H2 q3 q2), v, rfl⟩
              · cases k1
          refine ⟨⟨.fnr (PostE r1) hf hn g1 ?_, fun x hx => (rest x hx).1⟩, fun x hx => (rest x hx).2⟩
          rintro o H' ⟨⟨o1, H2⟩, hm, rfl, rfl⟩
          obtain ⟨e, L', rfl, he⟩ := nv _ _ hm
          obtain ⟨bs, v, q1, q2, q3, q4, q5⟩ := key _ _ _ hm
          refine ⟨lk L', bs, ?_, q1, q2, q3, v, q4, _, q5, rfl, rfl⟩
          rcases he with rfl | rfl
          · exact .inl rfl
          · exact .inr rfl
    · cases h
  · cases h
theorem mslB_ok {v : T} {b : Nat} (h : mslB v = some b) : mslIn b v := by
  unfold mslB at h
  split at h
  · cases h; rfl
  · rename_i vs
    obtain ⟨x, hx, h1⟩ := List.exists_of_findSome?_eq_some h
    split at h1
    · cases h1; exact ⟨_, _, _, hx⟩
    · cases h1
  · cases h
theorem frzAll_ok : ∀ {r r' : List (OE × Heap)}, frzAll r = some r' → (∀ x ∈ r, ∃ v b cs, x.1 = .val v ∧ mslIn b v ∧ x.2[b]? = some (.cells cs) ∧ (OE.val (frzV b cs v), x.2.set b .dead) ∈ r') ∧ ∀ y ∈ r', ∃ x ∈ r, ∃ v, y.1 = .val v ∧ PrL x.2 y.2
  | [], _, h => by cases h; exact ⟨fun x hx => absurd hx List.not_mem_nil, fun x hx => absurd hx List.not_mem_nil⟩
  | x :: l, r', h => by
    unfold frzAll at h
    split at h
    · rename_i y m h1 h2
      cases h
      obtain ⟨i1, i2⟩ := frzAll_ok h2
      have hx1 : ∃ v b cs, x.1 = .val v ∧ mslIn b v ∧ x.2[b]? = some (.cells cs) ∧ (OE.val (frzV b cs v), x.2.set b .dead) = y := by
        unfold frzO at h1
        split at h1
        · rename_i v hv
          split at h1
          · rename_i b hb
            split at h1
            · rename_i cs hcs
              cases h1
              exact ⟨v, b, cs, hv, mslB_ok hb, hcs, rfl⟩
            · cases h1
          · cases h1
        · cases h1
      obtain ⟨v, b, cs, k1, k2, k3, k4⟩ := hx1
      refine ⟨fun z hz => ?_, fun z hz => ?_⟩
      · rcases List.mem_cons.1 hz with rfl | hz
        · exact ⟨v, b, cs, k1, k2, k3, by rw [k4]; exact List.mem_cons_self⟩
        · obtain ⟨v, b, cs, a1, a2, a3, a4⟩ := i1 z hz
          exact ⟨v, b, cs, a1, a2, a3, List.mem_cons_of_mem _ a4⟩
      · rcases List.mem_cons.1 hz with rfl | hz
        · rw [← k4]; exact ⟨x, List.mem_cons_self, _, rfl, PrL.set _ k3 (by intros; simp)⟩
        · obtain ⟨w, hw, a⟩ := i2 z hz
          exact ⟨w, List.mem_cons_of_mem _ hw, a⟩
    · cases h
theorem frzN_ok {f : Nat} {az : List T} {H : Heap} : ∀ (n : Nat) {r : List (OE × Heap)}, Good E (.call f az) H r → Good E (.call f az) H (frzN n r)
  | 0, r, h => h
  | n + 1, r, h => by
    unfold frzN
    split
    · rename_i r' hr
      obtain ⟨i1, i2⟩ := frzAll_ok hr
      refine frzN_ok n ⟨.frz (PostE r) h.1 ?_, fun y hy => ?_⟩
      · rintro o H' ⟨x, hx, rfl, rfl⟩
        obtain ⟨v, b, cs, a1, a2, a3, a4⟩ := i1 x hx
        exact ⟨v, b, cs, by rw [a1]; rfl, a2, a3, _, a4, rfl, rfl⟩
      · obtain ⟨x, hx, _, _, hp⟩ := i2 y hy
        exact (h.2 x hx).trans hp
    · exact h
theorem stepE_ok {pol : Nat → Nat} (hr : RecOk E rec) : RecOk E (stepE E.fn pol rec) := fun j ctx H res hc h => by
  cases j with
  | code c L => exact codeE_ok hr ctx c L H res hc h
  | call f az =>
    have h : callE E.fn pol rec ctx f az H = some res := h
    unfold callE at h
    split at h
    · rename_i r hr'
      cases h
      exact frzN_ok _ (callR_ok hr hc hr').1
    · cases h
end
theorem run_ok (E : Env) (pol : Nat → Nat) : ∀ n, RecOk E (run E.fn pol n)
  | 0 => fun j ctx H res hc h => by cases h
  | n + 1 => stepE_ok (run_ok E pol n)
theorem W.closed {E : Env} {f : Nat} (pol : Nat → Nat) (n : Nat) (az : List T) (H : Heap) (h : saysTrue (run E.fn pol n (.call f az) [] H) = true) : W E (.call f az) H (fun o _ => o = .val (.bool true)) := by
  cases h1 : run E.fn pol n (.call f az) [] H with
  | none => rw [h1] at h; cases h
  | some r =>
    rw [h1] at h
    refine (run_ok E pol n _ _ _ _ (fun y hy => by cases hy) h1).1.use fun o H' ⟨x, hx, ho, _⟩ => ?_
    have := List.all_eq_true.1 h x hx
    split at this
    · rename_i hv; rw [← ho, hv]; rfl
    · cases this
end Go.Rmp
end

section
namespace Go.Proofs.Shardk
open Go.Rmp
set_option maxRecDepth 10000
theorem pw_ins {α : Type} {R : α → α → Prop} {l : List α} (h : l.Pairwise R) (i : Nat) {x : α} (h1 : ∀ a ∈ l.take i, R a x) (h2 : ∀ b ∈ l.drop i, R x b) : (l.take i ++ x :: l.drop i).Pairwise R := by
  have e := List.take_append_drop i l
  rw [← e, List.pairwise_append] at h
  rw [List.pairwise_append, List.pairwise_cons]
  exact ⟨h.1, ⟨h2, h.2.1⟩, fun a ha b hb => by
    rcases List.mem_cons.1 hb with rfl | hb
    · exact h1 a ha
    · exact h.2.2 a ha b hb⟩
theorem set_split {α : Type} {l : List α} {i : Nat} {x : α} (hx : l[i]? = some x) : l = l.take i ++ x :: l.drop (i + 1) ∧ ∀ y, l.set i y = l.take i ++ y :: l.drop (i + 1) := by
  obtain ⟨h, e⟩ := List.getElem?_eq_some_iff.1 hx
  refine ⟨?_, fun y => List.set_eq_take_append_cons_drop ▸ (by rw [if_pos h])⟩
  rw [← e, List.getElem_cons_drop, List.take_append_drop]
theorem pw_set {α : Type} {R : α → α → Prop} {l : List α} (h : l.Pairwise R) {i : Nat} {x y : α} (hx : l[i]? = some x) (h1 : ∀ a ∈ l, R a x → R a y) (h2 : ∀ b ∈ l, R x b → R y b) : (l.set i y).Pairwise R := by
  obtain ⟨e1, e2⟩ := set_split hx
  rw [e2]
  have h' := h
  rw [e1, List.pairwise_append, List.pairwise_cons] at h'
  rw [List.pairwise_append, List.pairwise_cons]
  refine ⟨h'.1, ⟨fun b hb => h2 b (List.mem_of_mem_drop hb) (h'.2.1.1 b hb), h'.2.1.2⟩, fun a ha b hb => ?_⟩
  rcases List.mem_cons.1 hb with rfl | hb
  · exact h1 a (List.mem_of_mem_take ha) (h'.2.2 a ha x (by simp))
  · exact h'.2.2 a ha b (by simp [hb])
structure Pt (α : Type) where
  part : Nat
  kt : T
  items : List α
def encPt {α : Type} (p : Pt α) : List T := [.int .i64 p.part, p.kt]
theorem encPt_len {α : Type} (p : Pt α) : (encPt p).length = 2 := rfl
def Dis (p q : T) : Prop := ∀ b n m b' n' m', p = .msl b 0 n m → q = .msl b' 0 n' m' → b ≠ b'
structure Fam {α : Type} (e : α → List T) (m n0 ob : Nat) (H : Heap) (ps : List (T × List α)) : Prop where
  lay : ∀ q ∈ ps, Mut e m n0 H q.1 q.2 ∧ ∀ n m', q.1 ≠ .msl ob 0 n m'
  dis : ps.Pairwise fun p q => Dis p.1 q.1
theorem Mut.keep {α : Type} {e : α → List T} {m n0 : Nat} {H H' : Heap} {t : T} {l : List α} (h : Mut e m n0 H t l) (hk : ∀ b n x, t = .msl b 0 n m → H[b]? = some x → H'[b]? = some x) : Mut e m n0 H' t l := by
  rcases h with h | ⟨b, rfl, h2, h3⟩
  · exact .inl h
  · exact .inr ⟨b, rfl, hk b _ _ rfl h2, h3⟩
theorem Fam.keep {α : Type} {e : α → List T} {m n0 ob : Nat} {H H' : Heap} {ps : List (T × List α)} (h : Fam e m n0 ob H ps) (hk : ∀ b x, b ≠ ob → n0 ≤ b → H[b]? = some x → H'[b]? = some x) : Fam e m n0 ob H' ps := by
  refine ⟨fun q hq => ⟨?_, (h.lay q hq).2⟩, h.dis⟩
  obtain ⟨h1, h2⟩ := h.lay q hq
  rcases h1 with h1 | ⟨b, e1, e2, e3⟩
  · exact .inl h1
  · exact .inr ⟨b, e1, hk b _ (fun hb => h2 _ _ (by rw [e1, hb])) e3 e2, e3⟩
theorem Fam.nil {α : Type} (e : α → List T) (m n0 ob : Nat) (H : Heap) : Fam e m n0 ob H [] := ⟨by simp, List.Pairwise.nil⟩
theorem Fam.ins {α : Type} {e : α → List T} {m n0 ob : Nat} {H : Heap} {ps : List (T × List α)} (h : Fam e m n0 ob H ps) (i : Nat) : Fam e m n0 ob H (ps.take i ++ (.sl .nil [], []) :: ps.drop i) := by
  refine ⟨fun q hq => ?_, pw_ins h.dis i (fun a _ b n m b' n' m' _ h2 => by cases h2) (fun a _ b n m b' n' m' h1 _ => by cases h1)⟩
  rcases List.mem_append.1 hq with hq | hq
  · exact h.lay q (List.mem_of_mem_take hq)
  · rcases List.mem_cons.1 hq with rfl | hq
    · exact ⟨.inl ⟨rfl, rfl⟩, fun n m' h => by cases h⟩
    · exact h.lay q (List.mem_of_mem_drop hq)
theorem Fam.app {α : Type} {e : α → List T} {m n0 ob bytes : Nat} {H : Heap} {ps : List (T × List α)} (he : ∀ x, (e x).length = m) (h : Fam e m n0 ob H ps) (hob : ob < H.length) {i : Nat} {x : T × List α} (hx : ps[i]? = some x) (new : List α) (hnew : new ≠ []) (hn0 : n0 ≤ H.length)
    (hr : roomOk (x.2.length + new.length) bytes = true) :
    ∃ t' H', appM H m bytes x.1 (new.map e) = some (t', H') ∧ Fam e m n0 ob H' (ps.set i (t', x.2 ++ new)) ∧ StayM n0 H x.1 H' := by
  obtain ⟨hm, hxo⟩ := h.lay x (List.mem_of_getElem? hx)
  obtain ⟨t', H', ha, hm', hst⟩ := appM_ok (bytes := bytes) he new hm hn0 hnew hr
  have hfr : ∀ b n, t' = .msl b 0 n m → H.length ≤ b := fun b n e1 => by subst e1; exact appM_fr ha (by simpa using hnew)
  have hkind : ∀ b n m', t' = .msl b 0 n m' → m' = m := fun b n m' e1 => by
    rcases hm' with ⟨_, h2⟩ | ⟨b', h2, _⟩
    · rw [h2] at e1; cases e1
    · rw [h2] at e1; cases e1; rfl
  have hlt : ∀ z ∈ ps, ∀ b n m', z.1 = .msl b 0 n m' → b < H.length := fun z hz b n m' e1 => by
    rcases (h.lay z hz).1 with ⟨_, h2⟩ | ⟨b', h2, h3, _⟩
    · rw [h2] at e1; cases e1
    · rw [h2] at e1; cases e1; exact (List.getElem?_eq_some_iff.1 h3).1
  refine ⟨t', H', ha, ⟨fun q hq => ?_, ?_⟩, hst⟩
  · obtain ⟨e1, e2⟩ := set_split hx
    rw [e2] at hq
    have hpw := h.dis
    rw [e1, List.pairwise_append, List.pairwise_cons] at hpw
    have other : ∀ z ∈ ps, (Dis z.1 x.1 ∨ Dis x.1 z.1) → Mut e m n0 H' z.1 z.2 ∧ ∀ n m', z.1 ≠ .msl ob 0 n m' := fun z hz hd => by
      refine ⟨Mut.keep (h.lay z hz).1 fun b n y hb hy => hst.get b y hy fun off len n2 hx1 => ?_, (h.lay z hz).2⟩
      have hx0 : x.1 = .msl b 0 len n2 := by
        rcases hm with ⟨_, h2⟩ | ⟨b', h2, _⟩
        · rw [h2] at hx1; cases hx1
        · rw [h2] at hx1 ⊢; cases hx1; rfl
      rcases hd with hd | hd
      · exact hd _ _ _ _ _ _ hb hx0 rfl
      · exact hd _ _ _ _ _ _ hx0 hb rfl
    rcases List.mem_append.1 hq with hq | hq
    · exact other q (List.mem_of_mem_take hq) (.inl (hpw.2.2 q hq x (by simp)))
    · rcases List.mem_cons.1 hq with rfl | hq
      · refine ⟨hm', fun n m' e3 => ?_⟩
        have e4 := hkind _ _ _ e3
        subst e4
        have := hfr _ _ e3
        omega
      · exact other q (List.mem_of_mem_drop hq) (.inr (hpw.2.1.1 q hq))
  · refine pw_set h.dis hx (fun a hz hd b n m1 b' n' m2 h1 h2 => ?_) (fun a hz hd b n m1 b' n' m2 h1 h2 => ?_)
    · have e4 := hkind _ _ _ h2
      subst e4
      have h3 := hfr _ _ h2
      have h4 := hlt a hz _ _ _ h1
      omega
    · have e4 := hkind _ _ _ h1
      subst e4
      have h3 := hfr _ _ h1
      have h4 := hlt a hz _ _ _ h2
      omega
end Go.Proofs.Shardk
end

section
namespace Go.Proofs.Shardk
open Go.Rmp
set_option maxRecDepth 10000
structure Vw {α : Type} (e : α → List T) (m : Nat) (H : Heap) (t : T) (l : List α) : Prop where
  len : ∀ H', Ext H H' → lenT H' .sl t = some l.length
  rd : ∀ (H' : Heap) (i : Nat) (x : α), Ext H H' → l[i]? = some x → ∃ a, iadT m i t = some a ∧ ldc H' m a = some (e x)
theorem Vw.ext {α : Type} {e : α → List T} {m : Nat} {H H' : Heap} {t : T} {l : List α} (h : Vw e m H t l) (hx : Ext H H') : Vw e m H' t l :=
  ⟨fun H2 h2 => h.len H2 (hx.trans h2), fun H2 i x h2 hi => h.rd H2 i x (hx.trans h2) hi⟩
theorem Vw.sl {α : Type} {e : α → List T} {m : Nat} (he : ∀ x, (e x).length = m) (h0 : m ≠ 0) (H : Heap) (k : SK) (l : List α) : Vw e m H (.sl k (l.map e)) l := by
  refine ⟨fun H' _ => by simp [lenT], fun H' i x _ hi => ⟨.iptr (e x), iad_map hi (he x) h0, ?_⟩⟩
  have := he x
  simp -implicitDefEqProofs only [ldc, ← this, Nat.le_refl, if_true, List.take_length]
theorem Vw.msl {α : Type} {e : α → List T} {m : Nat} (he : ∀ x, (e x).length = m) (h0 : m ≠ 0) {H : Heap} {b : Nat} {xs : List α} (hb : H[b]? = some (.cells (msC e xs))) (n : Nat) (hn : n ≤ xs.length) : Vw e m H (.msl b 0 n m) (xs.take n) := by
  refine ⟨fun H' _ => by simp [lenT, Nat.min_eq_left hn], fun H' i x hx hi => ?_⟩
  have hlt : i < n := by
    have := (List.getElem?_eq_some_iff.1 hi).1
    simp at this; omega
  have hi' : xs[i]? = some x := by rw [List.getElem?_take, if_pos hlt] at hi; exact hi
  refine ⟨.ptr b (0 + i * m), by rw [iad_m, if_pos hlt, if_neg h0], ?_⟩
  have h1 := msC_get he hi' 0 m (by omega)
  have h2 := hx.get hb
  simp -implicitDefEqProofs only [ldc_ptr, h2, Nat.zero_add]
  rw [Nat.add_zero] at h1
  rw [h1]
  have := he x
  rw [List.drop_zero, ← this, List.take_length]
theorem Fam.lt {α : Type} {e : α → List T} {m n0 ob : Nat} {H : Heap} {ps : List (T × List α)} (h : Fam e m n0 ob H ps) {q : T × List α} (hq : q ∈ ps) {b n m' : Nat} (hb : q.1 = .msl b 0 n m') : b < H.length := by
  rcases (h.lay q hq).1 with ⟨_, h2⟩ | ⟨b', h2, h3, _⟩
  · rw [h2] at hb; cases hb
  · rw [h2] at hb; cases hb; exact glt h3
theorem Fam.move {α : Type} {e : α → List T} {m n0 ob ob' : Nat} {H H' : Heap} {ps : List (T × List α)} (h : Fam e m n0 ob H ps) (hk : ∀ b x, b ≠ ob → n0 ≤ b → H[b]? = some x → H'[b]? = some x) (hb : ob' = ob ∨ H.length ≤ ob') : Fam e m n0 ob' H' ps := by
  have h' := h.keep hk
  refine ⟨fun q hq => ⟨(h'.lay q hq).1, fun n m' e1 => ?_⟩, h'.dis⟩
  rcases hb with rfl | hb
  · exact (h.lay q hq).2 n m' e1
  · have := h.lt hq e1; omega
theorem _root_.Go.Rmp.Mut.vw {α : Type} {e : α → List T} {m n0 : Nat} {H : Heap} {t : T} {l : List α} (h : Mut e m n0 H t l) (he : ∀ x, (e x).length = m) (h0 : m ≠ 0) : Vw e m H t l := by
  rcases h with ⟨rfl, rfl⟩ | ⟨b, rfl, hb, _⟩
  · exact Vw.sl he h0 H .nil []
  · have := Vw.msl he h0 hb l.length (Nat.le_refl _)
    rwa [List.take_length] at this
def prP {α : Type} (p : Pt α) : T × List α := (p.kt, p.items)
def PInv {α : Type} (e : α → List T) (m n0 ob : Nat) (H : Heap) (ps : List (Pt α)) : Prop := Fam e m n0 ob H (ps.map prP)
theorem PInv.keep {α : Type} {e : α → List T} {m n0 ob : Nat} {H H' : Heap} {ps : List (Pt α)} (h : PInv e m n0 ob H ps) (hk : ∀ b x, b ≠ ob → n0 ≤ b → H[b]? = some x → H'[b]? = some x) : PInv e m n0 ob H' ps := Fam.keep h hk
theorem PInv.ins {α : Type} {e : α → List T} {m n0 ob : Nat} {H : Heap} {ps : List (Pt α)} (h : PInv e m n0 ob H ps) (i q : Nat) : PInv e m n0 ob H (ps.take i ++ ⟨q, .sl .nil [], []⟩ :: ps.drop i) := by
  have := Fam.ins h i
  unfold PInv
  rw [List.map_append, List.map_cons, List.map_take, List.map_drop]
  exact this
theorem own_step {α : Type} {e : α → List T} {m n0 ob bytes : Nat} (he : ∀ x, (e x).length = m) {H H0 : Heap} {ps : List (Pt α)} (h : PInv e m n0 ob H ps) (hb : H[ob]? = some (.cells (msC encPt ps))) (hbn : n0 ≤ ob) {i : Nat} {x : Pt α} (hx : ps[i]? = some x) (k : α)
    (hr : roomOk (x.items.length + 1) bytes = true) (hex : Ext H0 H) (hH0 : H0.length = n0) :
    ∃ bn t' H3, t' = .msl bn 0 (x.items.length + 1) m ∧ appM H m bytes (fgt x.kt) [e k] = some (t', H3) ∧ H3[ob]? = some (.cells (msC encPt ps)) ∧ ldcB 1 (i * 2 + 1) (some (.cells (msC encPt ps))) = some [x.kt] ∧
      (∀ Hx, stcB Hx ob [t'] (i * 2 + 1) (some (.cells (msC encPt ps))) = some (Hx.set ob (.cells (msC encPt (ps.set i ⟨x.part, t', x.items ++ [k]⟩))))) ∧
      PInv e m n0 ob (H3.set ob (.cells (msC encPt (ps.set i ⟨x.part, t', x.items ++ [k]⟩)))) (ps.set i ⟨x.part, t', x.items ++ [k]⟩) ∧ Ext H0 (H3.set ob (.cells (msC encPt (ps.set i ⟨x.part, t', x.items ++ [k]⟩)))) ∧
      Mut encPt 2 n0 (H3.set ob (.cells (msC encPt (ps.set i ⟨x.part, t', x.items ++ [k]⟩)))) (.msl ob 0 ps.length 2) (ps.set i ⟨x.part, t', x.items ++ [k]⟩) := by
  have hn0 : n0 ≤ H.length := by have := hex.len; omega
  have hxp : (ps.map prP)[i]? = some (prP x) := by rw [List.getElem?_map, hx]; rfl
  obtain ⟨t', H3, ha, hf, hst⟩ := Fam.app (bytes := bytes) he h (glt hb) hxp [k] (by simp) hn0 (by simpa [prP] using hr)
  have hxo := (Fam.lay h (prP x) (List.mem_of_getElem? hxp))
  have hb3 : H3[ob]? = some (.cells (msC encPt ps)) := hst.get ob _ hb fun off len n hk => by
    rcases hxo.1 with ⟨_, h2⟩ | ⟨b', h2, _⟩
    · simp -implicitDefEqProofs only [prP] at h2 hk; rw [h2] at hk; cases hk
    · simp -implicitDefEqProofs only [prP] at h2 hk; rw [h2] at hk; cases hk; exact hxo.2 _ _ h2
  have hfg : fgt x.kt = x.kt := by
    rcases hxo.1 with ⟨_, h2⟩ | ⟨b', h2, _⟩ <;> simp -implicitDefEqProofs only [prP] at h2 <;> rw [h2] <;> rfl
  have hmem : (t', x.items ++ [k]) ∈ (ps.map prP).set i (t', (prP x).2 ++ [k]) := List.mem_of_getElem? (i := i) (by rw [List.getElem?_set_self (List.getElem?_eq_some_iff.1 hxp).1]; rfl)
  obtain ⟨bn, hbn'⟩ : ∃ bn, t' = .msl bn 0 (x.items.length + 1) m := by
    rcases (Fam.lay hf _ hmem).1 with ⟨h2, _⟩ | ⟨b', h2, _⟩
    · simp at h2
    · exact ⟨b', by simpa using h2⟩
  refine ⟨bn, t', H3, hbn', by rw [hfg]; exact ha, hb3, ?_, fun Hx => ?_, ?_, ?_, ?_⟩
  · rw [msC_get (n := 2) encPt_len hx 1 1 (by decide)]; rfl
  · exact msC_set (n := 2) encPt_len hx Hx ob _ 1 (by simp) (by simp [encPt])
  · have hmap : (ps.set i ⟨x.part, t', x.items ++ [k]⟩).map prP = (ps.map prP).set i (t', (prP x).2 ++ [k]) := by rw [List.map_set]; rfl
    unfold PInv
    rw [hmap]
    exact hf.keep fun b y hbo _ hy => by rw [g_ne (Ne.symm hbo)]; exact hy
  · exact (hst.ext H0 (by omega) hex).set (by omega) _
  · exact .inr ⟨ob, by rw [List.length_set], g_eq (glt hb3), hbn⟩
def GInv {α : Type} (e : α → List T) (m n0 : Nat) (H : Heap) (t : T) (ps : List (Pt α)) : Prop :=
  Mut encPt 2 n0 H t ps ∧ ∃ ob, (∀ b off len n, t = .msl b off len n → b = ob) ∧ PInv e m n0 ob H ps
theorem GInv.nil {α : Type} (e : α → List T) (m n0 : Nat) (H : Heap) : GInv e m n0 H (.sl .nil []) [] := ⟨mut_nil _ _ _ _, 0, fun _ _ _ _ h => (by cases h), Fam.nil e m n0 0 H⟩
theorem GInv.ext {α : Type} {e : α → List T} {m n0 : Nat} {H H' : Heap} {t : T} {ps : List (Pt α)} (h : GInv e m n0 H t ps) (hx : Ext H H') : GInv e m n0 H' t ps :=
  ⟨h.1.ext hx, let ⟨ob, h1, h2⟩ := h.2; ⟨ob, h1, h2.keep fun _ _ _ _ hy => hx.get hy⟩⟩
theorem GInv.ins {α : Type} {e : α → List T} {m n0 : Nat} {H H' : Heap} {t : T} {ps : List (Pt α)} (h : GInv e m n0 H t ps) (hst : StayI n0 H t H') {b : Nat} (hb : H.length ≤ b ∨ ∃ off len n, t = .msl b off len n) (i q : Nat) : PInv e m n0 b H' (ps.take i ++ ⟨q, .sl .nil [], []⟩ :: ps.drop i) := by
  obtain ⟨_, ob, h1, h2⟩ := h
  refine PInv.ins (Fam.move h2 (fun b' x hne _ hx => hst.get b' x hx fun off len n ht => hne (h1 _ _ _ _ ht)) ?_) i q
  rcases hb with hb | ⟨off, len, n, ht⟩
  · exact .inr hb
  · exact .inl (h1 _ _ _ _ ht)
end Go.Proofs.Shardk
end

section
namespace Go.Proofs.Shardk
open Go.Rmp
set_option maxRecDepth 10000
theorem Fam.at {α : Type} {e : α → List T} {m n0 ob : Nat} {H : Heap} {ps : List (T × List α)} (h : Fam e m n0 ob H ps) {i : Nat} {t : T} {l : List α} (hx : ps[i]? = some (t, l)) {j : Nat} {y : α} (hy : l[j]? = some y) : ∃ b, t = .msl b 0 l.length m ∧ H[b]? = some (.cells (msC e l)) ∧ n0 ≤ b ∧ b ≠ ob := by
  obtain ⟨h1, h2⟩ := h.lay _ (List.mem_of_getElem? hx)
  rcases h1 with ⟨h1, _⟩ | ⟨b, e1, e2, e3⟩
  · simp only at h1; subst h1; simp at hy
  · exact ⟨b, e1, e2, e3, fun hb => h2 _ _ (by rw [e1, hb])⟩
theorem Fam.apart {α : Type} {e : α → List T} {m n0 ob : Nat} {H : Heap} {ps : List (T × List α)} (h : Fam e m n0 ob H ps) {i j : Nat} {p q : T × List α} (hi : ps[i]? = some p) (hj : ps[j]? = some q) (hne : i ≠ j) {b n m1 b' n' m2 : Nat} (h1 : p.1 = .msl b 0 n m1) (h2 : q.1 = .msl b' 0 n' m2) : b ≠ b' := by
  have hd := h.dis
  rw [List.pairwise_iff_getElem] at hd
  obtain ⟨li, ei⟩ := List.getElem?_eq_some_iff.1 hi
  obtain ⟨lj, ej⟩ := List.getElem?_eq_some_iff.1 hj
  rcases Nat.lt_or_gt_of_ne hne with hlt | hgt
  · have := hd i j li lj hlt
    rw [ei, ej] at this
    exact this _ _ _ _ _ _ h1 h2
  · have := hd j i lj li hgt
    rw [ei, ej] at this
    exact fun hb => this _ _ _ _ _ _ h2 h1 hb.symm
theorem Fam.put {α : Type} {e : α → List T} {m n0 ob : Nat} {H : Heap} {ps : List (T × List α)} (h : Fam e m n0 ob H ps) {i : Nat} {b : Nat} {l l' : List α} (hx : ps[i]? = some (.msl b 0 l.length m, l)) (hl : l'.length = l.length) (hb : H[b]? = some (.cells (msC e l))) (hbn : n0 ≤ b) :
    Fam e m n0 ob (H.set b (.cells (msC e l'))) (ps.set i (.msl b 0 l.length m, l')) := by
  have hxm := List.mem_of_getElem? hx
  obtain ⟨e1, e2⟩ := set_split hx
  refine ⟨fun q hq => ?_, ?_⟩
  · obtain ⟨j, hj, ej⟩ := List.getElem_of_mem hq
    by_cases hij : i = j
    · subst hij
      rw [List.getElem_set_self] at ej
      subst ej
      exact ⟨.inr ⟨b, by rw [hl], g_eq (glt hb), hbn⟩, (h.lay _ hxm).2⟩
    · rw [List.getElem_set_ne hij] at ej
      have hj' : ps[j]? = some q := by
        rw [List.length_set] at hj
        rw [List.getElem?_eq_getElem hj, ej]
      obtain ⟨q1, q2⟩ := h.lay q (List.mem_of_getElem? hj')
      refine ⟨Mut.keep q1 fun b' n x hb' hx' => ?_, q2⟩
      have := h.apart hx hj' hij rfl hb'
      rw [g_ne this]; exact hx'
  · rw [e2]
    have hpw := h.dis
    rw [e1, List.pairwise_append, List.pairwise_cons] at hpw
    rw [List.pairwise_append, List.pairwise_cons]
    refine ⟨hpw.1, ⟨hpw.2.1.1, hpw.2.1.2⟩, fun a ha c hc => ?_⟩
    rcases List.mem_cons.1 hc with rfl | hc
    · have := hpw.2.2 a ha (T.msl b 0 l.length m, l) (List.mem_cons_self ..)
      exact this
    · exact hpw.2.2 a ha c (List.mem_cons_of_mem _ hc)
theorem Fam.both {α : Type} {e : α → List T} {m n0 n1 ob ob' : Nat} {H H' : Heap} {ps qs : List (T × List α)} (h : Fam e m n0 ob H ps) (h' : Fam e m n1 ob' H' qs) (hx : Ext H H') (hn : H.length ≤ n1) (hob : ob < H.length) (hn01 : n0 ≤ n1) : Fam e m n0 ob H' (ps ++ qs) := by
  have hk := h.keep (H' := H') fun _ _ _ _ hy => hx.get hy
  refine ⟨fun q hq => ?_, List.pairwise_append.2 ⟨h.dis, h'.dis, fun a ha c hc b n m1 b' n' m2 h1 h2 => ?_⟩⟩
  · rcases List.mem_append.1 hq with hq | hq
    · exact hk.lay q hq
    · obtain ⟨q1, q2⟩ := h'.lay q hq
      rcases q1 with q1 | ⟨b, e1, e2, e3⟩
      · exact ⟨.inl q1, fun n m' e => by rw [q1.2] at e; cases e⟩
      · refine ⟨.inr ⟨b, e1, e2, by omega⟩, fun n m' e => ?_⟩
        rw [e1] at e; cases e; omega
  · have l1 := h.lt ha h1
    rcases (h'.lay c hc).1 with ⟨_, q⟩ | ⟨b2, q, _, q3⟩
    · rw [q] at h2; cases h2
    · rw [q] at h2; cases h2; omega
end Go.Proofs.Shardk
end

section
namespace Go.Proofs.Shardk
open Go.Rmp
set_option maxRecDepth 10000
theorem Dis.symm {p q : T} (h : Dis p q) : Dis q p := fun b n m b' n' m' h1 h2 e => h b' n' m' b n m h2 h1 e.symm
theorem Fam.perm {α : Type} {e : α → List T} {m n0 ob : Nat} {H : Heap} {ps qs : List (T × List α)} (h : Fam e m n0 ob H ps) (hp : ps.Perm qs) : Fam e m n0 ob H qs :=
  ⟨fun q hq => h.lay q (hp.mem_iff.2 hq), (hp.pairwise_iff (fun {x y} (hd : Dis x.1 y.1) => hd.symm)).1 h.dis⟩
def inter {β : Type} : List β → List β → List β
  | x :: xs, y :: ys => x :: y :: inter xs ys
  | _, _ => []
theorem inter_perm {β : Type} : ∀ {a b : List β}, a.length = b.length → (a ++ b).Perm (inter a b)
  | [], [], _ => .nil
  | x :: xs, y :: ys, h => by
    have := inter_perm (a := xs) (b := ys) (by simpa using h)
    simp -implicitDefEqProofs only [inter, List.cons_append]
    exact .cons x (List.perm_middle.trans (.cons y this))
  | [], _ :: _, h => by simp at h
  | _ :: _, [], h => by simp at h
theorem inter_len {β : Type} : ∀ {a b : List β}, a.length = b.length → (inter a b).length = a.length + b.length
  | [], [], _ => rfl
  | x :: xs, y :: ys, h => by
    have := inter_len (a := xs) (b := ys) (by simpa using h)
    simp -implicitDefEqProofs only [inter, List.length_cons, this]; omega
  | [], _ :: _, h => by simp at h
  | _ :: _, [], h => by simp at h
theorem inter_take {β : Type} : ∀ {a b : List β} {i : Nat} {x y : β}, a[i]? = some x → b[i]? = some y → inter (a.take (i + 1)) (b.take (i + 1)) = inter (a.take i) (b.take i) ++ [x, y]
  | [], _, _, _, _, h, _ => by simp at h
  | _ :: _, [], _, _, _, _, h => by simp at h
  | u :: us, v :: vs, 0, x, y, h1, h2 => by simp at h1 h2; subst h1; subst h2; simp [inter]
  | u :: us, v :: vs, i + 1, x, y, h1, h2 => by
    have := inter_take (a := us) (b := vs) (i := i) (x := x) (y := y) (by simpa using h1) (by simpa using h2)
    simp -implicitDefEqProofs only [List.take_succ_cons, inter, this, List.cons_append]
theorem inter_map {β γ : Type} (f : β → γ) : ∀ a b : List β, (inter a b).map f = inter (a.map f) (b.map f)
  | [], _ => by simp [inter]
  | _ :: _, [] => by simp [inter]
  | x :: xs, y :: ys => by simp [inter, inter_map f xs ys]
end Go.Proofs.Shardk
end

section
namespace Go.Proofs.Shardk
open Go.Rmp
set_option maxRecDepth 10000
def wr {α : Type} (mk : Nat → α) (n : Nat) (ps : List (T × List α)) : List (T × List α) := ps.mapIdx fun k q => if k < n then (q.1, List.replicate q.2.length (mk k)) else q
theorem wr_zero {α : Type} (mk : Nat → α) (ps : List (T × List α)) : wr mk 0 ps = ps := by
  unfold wr
  apply List.ext_getElem?
  intro i
  rw [List.getElem?_mapIdx]
  cases ps[i]? <;> simp
theorem wr_len {α : Type} (mk : Nat → α) (n : Nat) (ps : List (T × List α)) : (wr mk n ps).length = ps.length := by simp [wr]
theorem wr_get {α : Type} (mk : Nat → α) (n : Nat) {ps : List (T × List α)} {i : Nat} {q : T × List α} (h : ps[i]? = some q) : (wr mk n ps)[i]? = some (if i < n then (q.1, List.replicate q.2.length (mk i)) else q) := by
  unfold wr; rw [List.getElem?_mapIdx, h]; rfl
theorem wr_succ {α : Type} (mk : Nat → α) {n : Nat} {ps : List (T × List α)} {t : T} {l : List α} (h : ps[n]? = some (t, l)) : wr mk (n + 1) ps = (wr mk n ps).set n (t, List.replicate l.length (mk n)) := by
  have hlt : n < ps.length := (List.getElem?_eq_some_iff.1 h).1
  apply List.ext_getElem?
  intro i
  by_cases hi : i < ps.length
  · rw [wr_get mk (n + 1) (List.getElem?_eq_getElem hi)]
    by_cases e : n = i
    · subst e
      rw [List.getElem?_set_self (by rw [wr_len]; exact hi), if_pos (by omega)]
      rw [List.getElem?_eq_getElem hi, Option.some.injEq] at h
      rw [h]
    · rw [List.getElem?_set_ne e, wr_get mk n (List.getElem?_eq_getElem hi)]
      by_cases h1 : i < n
      · rw [if_pos h1, if_pos (by omega)]
      · rw [if_neg h1, if_neg (by omega)]
  · rw [List.getElem?_eq_none (by rw [wr_len]; omega), List.getElem?_eq_none (by rw [List.length_set, wr_len]; omega)]
theorem wr_fst {α : Type} (mk : Nat → α) (n : Nat) (ps : List (T × List α)) : (wr mk n ps).map (·.1) = ps.map (·.1) := by
  apply List.ext_getElem?
  intro i
  rw [List.getElem?_map, List.getElem?_map]
  by_cases hi : i < ps.length
  · rw [wr_get mk n (List.getElem?_eq_getElem hi), List.getElem?_eq_getElem hi]
    simp -implicitDefEqProofs only [Option.map_some]
    split <;> rfl
  · rw [List.getElem?_eq_none (by rw [wr_len]; omega), List.getElem?_eq_none (by omega)]
def lft {α : Type} (y : α) (j : Nat) (l : List α) : List α := List.replicate j y ++ l.drop j
theorem lft_len {α : Type} (y : α) {j : Nat} {l : List α} (h : j ≤ l.length) : (lft y j l).length = l.length := by simp [lft]; omega
theorem lft_zero {α : Type} (y : α) (l : List α) : lft y 0 l = l := by simp [lft]
theorem lft_all {α : Type} (y : α) (l : List α) : lft y l.length l = List.replicate l.length y := by simp [lft]
theorem lft_set {α : Type} (y : α) {j : Nat} {l : List α} (h : j < l.length) : (lft y j l).set j y = lft y (j + 1) l := by
  unfold lft
  rw [List.set_append_right _ _ (by simp), List.length_replicate, Nat.sub_self, List.drop_eq_getElem_cons h, List.set_cons_zero, List.replicate_succ', List.append_assoc]
  rfl
end Go.Proofs.Shardk
end

section
namespace Go.Proofs.Ytpbilghnfldmiaa.Ir
open Go.Rmp
set_option maxRecDepth 100000
set_option maxHeartbeats 0
abbrev op (d : Nat) (b : Bo) : O := ⟨some d, .b b, none, []⟩
abbrev ef (b : Bo) : O := ⟨none, .b b, none, []⟩
abbrev cl (d f : Nat) (az : List X) : O := ⟨some d, .call f az, none, []⟩
abbrev sq (a b : C) : C := .seq a b
def an7 : An := ⟨[(2, 1), (2, 3), (3, 1), (3, 5)], [(25, [(0, true), (1, true), (2, true), (3, true), (4, true), (5, true), (6, true), (7, true), (8, true), (9, true), (10, false), (11, true), (12, true), (13, true), (14, true), (15, true), (16, true), (17, true), (18, true), (19, true), (20, true), (21, true), (22, true), (23, false), (24, true), (25, true)]), (30, [(0, true), (1, true), (2, true), (3, true), (4, true), (5, true), (6, true), (7, true), (8, true), (9, true), (10, false), (11, true), (12, true), (13, true), (14, true), (15, true), (16, true), (17, true), (18, true), (19, true), (20, true), (21, true), (22, true), (23, false), (24, true), (25, true)]), (37, [(0, true), (1, true), (2, true), (3, true), (4, true), (5, true), (6, true), (7, true), (8, true), (9, true), (10, true), (11, true), (12, false), (13, false)]), (41, [(0, true), (1, true), (2, true), (3, true), (4, true), (5, true), (6, true), (7, true), (8, true), (9, true), (10, true), (11, true), (12, false), (13, false)])]⟩
def ir7 : Go.Rmp.Fn := ⟨287, 3, [.t 6],
  sq (.ops [op 6 (.mov (.c (.bool false)))]) <|
  sq (.ops [op 29 (.mov (.r 2)), cl 30 11 [(.r 29), (.c (.int .i64 63))], op 31 (.bin .add (.c (.int .i64 1)) (.r 30)), op 2 (.mov (.r 31))]) <|
  sq (.ops [op 32 (.mov (.r 0)), op 33 (.app 1 16 true (.c (.sl .nil [])) (.r 32)), op 34 (.bsl 2 [.str ⟨#[]⟩] [(0, (.c (.str ⟨#[115, 112, 97, 114, 101]⟩))), (1, (.c (.str ⟨#[114, 111, 111, 109]⟩)))]), op 35 (.app 1 16 true (.r 33) (.r 34)), op 7 (.mov (.r 35))]) <|
  sq (.ops [op 36 (.mov (.r 1)), op 37 (.app 2 32 true (.c (.sl .nil [])) (.r 36)), op 38 (.build [.str ⟨#[]⟩, .str ⟨#[]⟩] [(0, 1, (.c (.str ⟨#[115, 112, 97, 114, 101]⟩)))]), op 39 (.build [.str ⟨#[]⟩, .str ⟨#[]⟩] [(0, 1, (.c (.str ⟨#[114, 111, 111, 109]⟩)))]), op 40 (.bsl 2 [.str ⟨#[]⟩, .str ⟨#[]⟩] [(0, (.r 38)), (1, (.r 39))]), op 41 (.app 2 32 true (.r 37) (.r 40)), op 8 (.mov (.r 41))]) <|
  sq (.ops [op 43 (.mov (.r 7)), op 44 (.mov (.r 0)), op 45 (.len .sl (.r 44)), op 46 (.sll 1 (.r 43) none (some (.r 45)) none), op 47 (.mov (.r 2)), cl 48 12 [(.r 46), (.r 47)], op 42 (.mov (.r 48)), op 49 (.ext 0 (.r 42)), op 50 (.ext 1 (.r 42)), op 9 (.mov (.r 49)), op 10 (.mov (.r 50))]) <|
  sq (.ops [op 52 (.mov (.r 7)), op 53 (.mov (.r 0)), op 54 (.len .sl (.r 53)), op 55 (.sll 1 (.r 52) none (some (.r 54)) none), op 56 (.mov (.r 2)), cl 57 12 [(.r 55), (.r 56)], op 51 (.mov (.r 57)), op 58 (.ext 0 (.r 51)), op 59 (.ext 1 (.r 51)), op 11 (.mov (.r 58)), op 12 (.mov (.r 59))]) <|
  sq (.ops [op 61 (.mov (.r 8)), op 62 (.mov (.r 1)), op 63 (.len .sl (.r 62)), op 64 (.sll 2 (.r 61) none (some (.r 63)) none), op 65 (.mov (.r 2)), cl 66 15 [(.r 64), (.r 65)], op 60 (.mov (.r 66)), op 67 (.ext 0 (.r 60)), op 68 (.ext 1 (.r 60)), op 13 (.mov (.r 67)), op 14 (.mov (.r 68))]) <|
  sq (.ops [op 70 (.mov (.r 8)), op 71 (.mov (.r 1)), op 72 (.len .sl (.r 71)), op 73 (.sll 2 (.r 70) none (some (.r 72)) none), op 74 (.mov (.r 2)), cl 75 15 [(.r 73), (.r 74)], op 69 (.mov (.r 75)), op 76 (.ext 0 (.r 69)), op 77 (.ext 1 (.r 69)), op 15 (.mov (.r 76)), op 16 (.mov (.r 77))]) <|
  sq (sq (.ops [cl 78 10 [], op 79 (.un .not (.r 78)), op 80 (.mov (.r 79)), ⟨(some 81), .b (.mov (.r 7)), (some (80, false)), []⟩, ⟨(some 82), .b (.mov (.r 0)), (some (80, false)), []⟩, ⟨(some 83), .b (.len .sl (.r 82)), (some (80, false)), []⟩, ⟨(some 84), .b (.sll 1 (.r 81) none (some (.r 83)) none), (some (80, false)), []⟩, ⟨(some 85), .b (.mov (.r 0)), (some (80, false)), []⟩, ⟨(some 86), .call 13 [(.r 84), (.r 85)], (some (80, false)), []⟩, ⟨(some 87), .b (.un .not (.r 86)), (some (80, false)), []⟩, op 88 (.pick (.r 80) (.c (.bool true)) (.r 87)), op 89 (.mov (.r 88)), ⟨(some 90), .b (.mov (.r 8)), (some (89, false)), []⟩, ⟨(some 91), .b (.mov (.r 1)), (some (89, false)), []⟩, ⟨(some 92), .b (.len .sl (.r 91)), (some (89, false)), []⟩, ⟨(some 93), .b (.sll 2 (.r 90) none (some (.r 92)) none), (some (89, false)), []⟩, ⟨(some 94), .b (.mov (.r 1)), (some (89, false)), []⟩, ⟨(some 95), .call 17 [(.r 93), (.r 94)], (some (89, false)), []⟩, ⟨(some 96), .b (.un .not (.r 95)), (some (89, false)), []⟩, op 97 (.pick (.r 89) (.c (.bool true)) (.r 96)), op 98 (.mov (.r 97)), ⟨(some 99), .b (.mov (.r 7)), (some (98, false)), []⟩, ⟨(some 100), .b (.mov (.r 0)), (some (98, false)), []⟩, ⟨(some 101), .b (.len .sl (.r 100)), (some (98, false)), []⟩, ⟨(some 102), .b (.iad 1 (.r 99) (.r 101)), (some (98, false)), []⟩, ⟨(some 103), .b (.ld 1 false (.r 102)), (some (98, false)), []⟩, ⟨(some 104), .b (.bin .neq (.r 103) (.c (.str ⟨#[115, 112, 97, 114, 101]⟩))), (some (98, false)), []⟩, op 105 (.pick (.r 98) (.c (.bool true)) (.r 104)), op 106 (.mov (.r 105)), ⟨(some 107), .b (.mov (.r 8)), (some (106, false)), []⟩, ⟨(some 108), .b (.mov (.r 1)), (some (106, false)), []⟩, ⟨(some 109), .b (.len .sl (.r 108)), (some (106, false)), []⟩, ⟨(some 110), .b (.iad 2 (.r 107) (.r 109)), (some (106, false)), []⟩, ⟨(some 111), .b (.fad 0 (.r 110)), (some (106, false)), []⟩, ⟨(some 112), .b (.ld 1 false (.r 111)), (some (106, false)), []⟩, ⟨(some 113), .b (.bin .neq (.r 112) (.c (.str ⟨#[115, 112, 97, 114, 101]⟩))), (some (106, false)), []⟩, op 114 (.pick (.r 106) (.c (.bool true)) (.r 113)), op 115 (.mov (.r 114)), ⟨(some 116), .b (.mov (.r 8)), (some (115, false)), []⟩, ⟨(some 117), .b (.mov (.r 1)), (some (115, false)), []⟩, ⟨(some 118), .b (.len .sl (.r 117)), (some (115, false)), []⟩, ⟨(some 119), .b (.bin .add (.r 118) (.c (.int .i64 1))), (some (115, false)), []⟩, ⟨(some 120), .b (.iad 2 (.r 116) (.r 119)), (some (115, false)), []⟩, ⟨(some 121), .b (.fad 0 (.r 120)), (some (115, false)), []⟩, ⟨(some 122), .b (.ld 1 false (.r 121)), (some (115, false)), []⟩, ⟨(some 123), .b (.bin .neq (.r 122) (.c (.str ⟨#[114, 111, 111, 109]⟩))), (some (115, false)), []⟩, op 124 (.pick (.r 115) (.c (.bool true)) (.r 123)), op 125 (.mov (.r 124)), ⟨(some 126), .b (.mov (.r 9)), (some (125, false)), []⟩, ⟨(some 127), .b (.len .sl (.r 126)), (some (125, false)), []⟩, ⟨(some 128), .b (.mov (.r 11)), (some (125, false)), []⟩, ⟨(some 129), .b (.len .sl (.r 128)), (some (125, false)), []⟩, ⟨(some 130), .b (.bin .neq (.r 127) (.r 129)), (some (125, false)), []⟩, op 131 (.pick (.r 125) (.c (.bool true)) (.r 130)), op 132 (.mov (.r 131)), ⟨(some 133), .b (.mov (.r 13)), (some (132, false)), []⟩, ⟨(some 134), .b (.len .sl (.r 133)), (some (132, false)), []⟩, ⟨(some 135), .b (.mov (.r 15)), (some (132, false)), []⟩, ⟨(some 136), .b (.len .sl (.r 135)), (some (132, false)), []⟩, ⟨(some 137), .b (.bin .neq (.r 134) (.r 136)), (some (132, false)), []⟩, op 138 (.pick (.r 132) (.c (.bool true)) (.r 137))]) <|
  .cond (.r 138)
    (sq (.ops [op 6 (.mov (.c (.bool false)))]) <|
    .ret)
    (.skip)) <|
  sq (sq (.ops [op 17 (.mov (.c (.int .i64 0)))]) <|
  .block 0 (
    .loop (
      sq (sq (.ops [op 139 (.mov (.r 17)), op 140 (.mov (.r 0)), op 141 (.len .sl (.r 140)), op 142 (.bin .lss (.r 139) (.r 141))]) <|
      .cond (.r 142)
        (.skip)
        (.exit 0)) <|
      sq (.block 1 (
        .ops [op 145 (.mov (.r 7)), op 146 (.mov (.r 17)), op 147 (.iad 1 (.r 145) (.r 146)), ef (.st 1 (.r 147) (.c (.str ⟨#[63]⟩)))])) <|
      .ops [op 143 (.mov (.r 17)), op 144 (.bin .add (.r 143) (.c (.int .i64 1))), op 17 (.mov (.r 144))]))) <|
  sq (sq (.ops [op 18 (.mov (.c (.int .i64 0)))]) <|
  .block 2 (
    .loop (
      sq (sq (.ops [op 148 (.mov (.r 18)), op 149 (.mov (.r 1)), op 150 (.len .sl (.r 149)), op 151 (.bin .lss (.r 148) (.r 150))]) <|
      .cond (.r 151)
        (.skip)
        (.exit 2)) <|
      sq (.block 3 (
        .ops [op 154 (.mov (.r 8)), op 155 (.mov (.r 18)), op 156 (.build [.str ⟨#[]⟩, .str ⟨#[]⟩] [(0, 1, (.c (.str ⟨#[63]⟩)))]), op 157 (.iad 2 (.r 154) (.r 155)), ef (.st 2 (.r 157) (.r 156))])) <|
      .ops [op 152 (.mov (.r 18)), op 153 (.bin .add (.r 152) (.c (.int .i64 1))), op 18 (.mov (.r 153))]))) <|
  sq (.ops [op 159 (.mov (.r 0)), op 160 (.mov (.r 2)), cl 161 12 [(.r 159), (.r 160)], op 158 (.mov (.r 161)), op 162 (.ext 0 (.r 158)), op 163 (.ext 1 (.r 158)), op 19 (.mov (.r 162)), op 20 (.mov (.r 163))]) <|
  sq (.ops [op 165 (.mov (.r 1)), op 166 (.mov (.r 2)), cl 167 15 [(.r 165), (.r 166)], op 164 (.mov (.r 167)), op 168 (.ext 0 (.r 164)), op 169 (.ext 1 (.r 164)), op 21 (.mov (.r 168)), op 22 (.mov (.r 169))]) <|
  sq (sq (.ops [op 170 (.mov (.r 19)), op 171 (.len .sl (.r 170)), op 172 (.mov (.r 9)), op 173 (.len .sl (.r 172)), op 174 (.bin .neq (.r 171) (.r 173)), op 175 (.mov (.r 174)), ⟨(some 176), .b (.mov (.r 21)), (some (175, false)), []⟩, ⟨(some 177), .b (.len .sl (.r 176)), (some (175, false)), []⟩, ⟨(some 178), .b (.mov (.r 13)), (some (175, false)), []⟩, ⟨(some 179), .b (.len .sl (.r 178)), (some (175, false)), []⟩, ⟨(some 180), .b (.bin .neq (.r 177) (.r 179)), (some (175, false)), []⟩, op 181 (.pick (.r 175) (.c (.bool true)) (.r 180))]) <|
  .cond (.r 181)
    (sq (.ops [op 6 (.mov (.c (.bool false)))]) <|
    .ret)
    (.skip)) <|
  sq (sq (.ops [op 23 (.mov (.c (.int .i64 0)))]) <|
  .block 4 (
    .loop (
      sq (sq (.ops [op 182 (.mov (.r 23)), op 183 (.mov (.r 9)), op 184 (.len .sl (.r 183)), op 185 (.bin .lss (.r 182) (.r 184))]) <|
      .cond (.r 185)
        (.skip)
        (.exit 4)) <|
      sq (.block 5 (
        sq (.ops [op 188 (.mov (.r 9)), op 189 (.mov (.r 23)), op 190 (.iad 2 (.r 188) (.r 189)), op 191 (.fad 1 (.r 190)), op 192 (.ld 1 false (.r 191)), op 193 (.mov (.r 19)), op 194 (.mov (.r 23)), op 195 (.iad 2 (.r 193) (.r 194)), op 196 (.fad 1 (.r 195)), op 197 (.ld 1 false (.r 196)), cl 198 13 [(.r 192), (.r 197)], op 199 (.un .not (.r 198)), op 200 (.mov (.r 199)), ⟨(some 201), .b (.mov (.r 11)), (some (200, false)), []⟩, ⟨(some 202), .b (.mov (.r 23)), (some (200, false)), []⟩, ⟨(some 203), .b (.iad 2 (.r 201) (.r 202)), (some (200, false)), []⟩, ⟨(some 204), .b (.fad 1 (.r 203)), (some (200, false)), []⟩, ⟨(some 205), .b (.ld 1 false (.r 204)), (some (200, false)), []⟩, ⟨(some 206), .b (.mov (.r 19)), (some (200, false)), []⟩, ⟨(some 207), .b (.mov (.r 23)), (some (200, false)), []⟩, ⟨(some 208), .b (.iad 2 (.r 206) (.r 207)), (some (200, false)), []⟩, ⟨(some 209), .b (.fad 1 (.r 208)), (some (200, false)), []⟩, ⟨(some 210), .b (.ld 1 false (.r 209)), (some (200, false)), []⟩, ⟨(some 211), .call 13 [(.r 205), (.r 210)], (some (200, false)), []⟩, ⟨(some 212), .b (.un .not (.r 211)), (some (200, false)), []⟩, op 213 (.pick (.r 200) (.c (.bool true)) (.r 212))]) <|
        .cond (.r 213)
          (sq (.ops [op 6 (.mov (.c (.bool false)))]) <|
          .ret)
          (.skip))) <|
      .ops [op 186 (.mov (.r 23)), op 187 (.bin .add (.r 186) (.c (.int .i64 1))), op 23 (.mov (.r 187))]))) <|
  sq (sq (.ops [op 24 (.mov (.c (.int .i64 0)))]) <|
  .block 6 (
    .loop (
      sq (sq (.ops [op 214 (.mov (.r 24)), op 215 (.mov (.r 13)), op 216 (.len .sl (.r 215)), op 217 (.bin .lss (.r 214) (.r 216))]) <|
      .cond (.r 217)
        (.skip)
        (.exit 6)) <|
      sq (.block 7 (
        sq (.ops [op 220 (.mov (.r 13)), op 221 (.mov (.r 24)), op 222 (.iad 2 (.r 220) (.r 221)), op 223 (.fad 1 (.r 222)), op 224 (.ld 1 false (.r 223)), op 225 (.mov (.r 21)), op 226 (.mov (.r 24)), op 227 (.iad 2 (.r 225) (.r 226)), op 228 (.fad 1 (.r 227)), op 229 (.ld 1 false (.r 228)), cl 230 17 [(.r 224), (.r 229)], op 231 (.un .not (.r 230)), op 232 (.mov (.r 231)), ⟨(some 233), .b (.mov (.r 15)), (some (232, false)), []⟩, ⟨(some 234), .b (.mov (.r 24)), (some (232, false)), []⟩, ⟨(some 235), .b (.iad 2 (.r 233) (.r 234)), (some (232, false)), []⟩, ⟨(some 236), .b (.fad 1 (.r 235)), (some (232, false)), []⟩, ⟨(some 237), .b (.ld 1 false (.r 236)), (some (232, false)), []⟩, ⟨(some 238), .b (.mov (.r 21)), (some (232, false)), []⟩, ⟨(some 239), .b (.mov (.r 24)), (some (232, false)), []⟩, ⟨(some 240), .b (.iad 2 (.r 238) (.r 239)), (some (232, false)), []⟩, ⟨(some 241), .b (.fad 1 (.r 240)), (some (232, false)), []⟩, ⟨(some 242), .b (.ld 1 false (.r 241)), (some (232, false)), []⟩, ⟨(some 243), .call 17 [(.r 237), (.r 242)], (some (232, false)), []⟩, ⟨(some 244), .b (.un .not (.r 243)), (some (232, false)), []⟩, op 245 (.pick (.r 232) (.c (.bool true)) (.r 244))]) <|
        .cond (.r 245)
          (sq (.ops [op 6 (.mov (.c (.bool false)))]) <|
          .ret)
          (.skip))) <|
      .ops [op 218 (.mov (.r 24)), op 219 (.bin .add (.r 218) (.c (.int .i64 1))), op 24 (.mov (.r 219))]))) <|
  sq (.ops [op 25 (.mov (.c (.sl .nil [])))]) <|
  sq (.ops [op 26 (.mov (.c (.sl .nil [])))]) <|
  sq (sq (.ops [op 27 (.mov (.c (.int .i64 0)))]) <|
  .block 8 (
    .loop (
      sq (sq (.ops [op 246 (.mov (.r 27)), op 247 (.mov (.r 9)), op 248 (.len .sl (.r 247)), op 249 (.bin .lss (.r 246) (.r 248))]) <|
      .cond (.r 249)
        (.skip)
        (.exit 8)) <|
      sq (.block 9 (
        .ops [op 252 (.mov (.r 25)), op 253 (.mov (.r 9)), op 254 (.mov (.r 27)), op 255 (.iad 2 (.r 253) (.r 254)), op 256 (.fad 1 (.r 255)), op 257 (.ld 1 false (.r 256)), op 258 (.mov (.r 11)), op 259 (.mov (.r 27)), op 260 (.iad 2 (.r 258) (.r 259)), op 261 (.fad 1 (.r 260)), op 262 (.ld 1 false (.r 261)), op 263 (.bsl 2 [.sl .nil []] [(0, (.r 257)), (1, (.r 262))]), op 264 (.app 1 24 false (.r 252) (.r 263)), op 25 (.mov (.r 264))])) <|
      .ops [op 250 (.mov (.r 27)), op 251 (.bin .add (.r 250) (.c (.int .i64 1))), op 27 (.mov (.r 251))]))) <|
  sq (sq (.ops [op 28 (.mov (.c (.int .i64 0)))]) <|
  .block 10 (
    .loop (
      sq (sq (.ops [op 265 (.mov (.r 28)), op 266 (.mov (.r 13)), op 267 (.len .sl (.r 266)), op 268 (.bin .lss (.r 265) (.r 267))]) <|
      .cond (.r 268)
        (.skip)
        (.exit 10)) <|
      sq (.block 11 (
        .ops [op 271 (.mov (.r 26)), op 272 (.mov (.r 13)), op 273 (.mov (.r 28)), op 274 (.iad 2 (.r 272) (.r 273)), op 275 (.fad 1 (.r 274)), op 276 (.ld 1 false (.r 275)), op 277 (.mov (.r 15)), op 278 (.mov (.r 28)), op 279 (.iad 2 (.r 277) (.r 278)), op 280 (.fad 1 (.r 279)), op 281 (.ld 1 false (.r 280)), op 282 (.bsl 2 [.sl .nil []] [(0, (.r 276)), (1, (.r 281))]), op 283 (.app 1 24 false (.r 271) (.r 282)), op 26 (.mov (.r 283))])) <|
      .ops [op 269 (.mov (.r 28)), op 270 (.bin .add (.r 269) (.c (.int .i64 1))), op 28 (.mov (.r 270))]))) <|
  sq (.ops [op 284 (.mov (.r 25)), op 285 (.mov (.r 26)), cl 286 18 [(.r 284), (.r 285)], op 6 (.mov (.r 286))]) <|
  .ret⟩
def an8 : An := ⟨[], []⟩
def ir8 : Go.Rmp.Fn := ⟨12, 2, [.t 4, .t 5],
  sq (.ops [op 4 (.mov (.c (.int .i64 0))), op 5 (.mov (.c (.int .i64 0)))]) <|
  sq (sq (.ops [op 6 (.mov (.r 1)), cl 7 19 [(.r 6)], op 8 (.un .not (.r 7))]) <|
  .cond (.r 8)
    (sq (.ops [op 4 (.mov (.c (.int .i64 0))), op 5 (.mov (.c (.int .i64 1)))]) <|
    .ret)
    (.skip)) <|
  sq (.ops [op 9 (.mov (.r 0)), op 10 (.mov (.r 1)), cl 11 20 [(.r 9), (.r 10)], op 4 (.mov (.r 11)), op 5 (.mov (.c (.int .i64 0)))]) <|
  .ret⟩
def an10 : An := ⟨[], []⟩
def ir10 : Go.Rmp.Fn := ⟨59, 0, [.t 0],
  sq (.ops [op 0 (.mov (.c (.bool false)))]) <|
  sq (.ops [op 6 (.bsl 4 [.str ⟨#[]⟩] [(0, (.c (.str ⟨#[98]⟩))), (1, (.c (.str ⟨#[97]⟩))), (2, (.c (.str ⟨#[]⟩))), (3, (.c (.str ⟨#[98]⟩)))]), cl 7 12 [(.r 6), (.c (.int .i64 4))], op 5 (.mov (.r 7)), op 8 (.ext 0 (.r 5)), op 9 (.ext 1 (.r 5)), op 1 (.mov (.r 8)), op 2 (.mov (.r 9))]) <|
  sq (.ops [cl 11 8 [(.c (.str ⟨#[98]⟩)), (.c (.int .i64 64))], op 10 (.mov (.r 11)), op 12 (.ext 0 (.r 10)), op 13 (.ext 1 (.r 10)), op 3 (.mov (.r 12)), op 4 (.mov (.r 13))]) <|
  sq (.ops [op 14 (.mov (.r 2)), op 15 (.bin .eql (.r 14) (.c (.int .i64 0))), op 16 (.mov (.r 15)), ⟨(some 17), .b (.mov (.r 4)), (some (16, true)), []⟩, ⟨(some 18), .b (.bin .eql (.r 17) (.c (.int .i64 0))), (some (16, true)), []⟩, op 19 (.pick (.r 16) (.r 18) (.c (.bool false))), op 20 (.mov (.r 19)), ⟨(some 21), .b (.mov (.r 3)), (some (20, true)), []⟩, ⟨(some 22), .b (.bin .eql (.r 21) (.c (.int .i64 37))), (some (20, true)), []⟩, op 23 (.pick (.r 20) (.r 22) (.c (.bool false))), op 24 (.mov (.r 23)), ⟨(some 25), .b (.mov (.r 1)), (some (24, true)), []⟩, ⟨(some 26), .b (.len .sl (.r 25)), (some (24, true)), []⟩, ⟨(some 27), .b (.bin .eql (.r 26) (.c (.int .i64 2))), (some (24, true)), []⟩, op 28 (.pick (.r 24) (.r 27) (.c (.bool false))), op 29 (.mov (.r 28)), ⟨(some 30), .b (.mov (.r 1)), (some (29, true)), []⟩, ⟨(some 31), .b (.iad 2 (.r 30) (.c (.int .i64 0))), (some (29, true)), []⟩, ⟨(some 32), .b (.fad 0 (.r 31)), (some (29, true)), []⟩, ⟨(some 33), .b (.ld 1 false (.r 32)), (some (29, true)), []⟩, ⟨(some 34), .b (.bin .eql (.r 33) (.c (.int .i64 0))), (some (29, true)), []⟩, op 35 (.pick (.r 29) (.r 34) (.c (.bool false))), op 36 (.mov (.r 35)), ⟨(some 37), .b (.mov (.r 1)), (some (36, true)), []⟩, ⟨(some 38), .b (.iad 2 (.r 37) (.c (.int .i64 0))), (some (36, true)), []⟩, ⟨(some 39), .b (.fad 1 (.r 38)), (some (36, true)), []⟩, ⟨(some 40), .b (.ld 1 false (.r 39)), (some (36, true)), []⟩, ⟨(some 41), .b (.bsl 1 [.str ⟨#[]⟩] [(0, (.c (.str ⟨#[97]⟩)))]), (some (36, true)), []⟩, ⟨(some 42), .call 13 [(.r 40), (.r 41)], (some (36, true)), []⟩, op 43 (.pick (.r 36) (.r 42) (.c (.bool false))), op 44 (.mov (.r 43)), ⟨(some 45), .b (.mov (.r 1)), (some (44, true)), []⟩, ⟨(some 46), .b (.iad 2 (.r 45) (.c (.int .i64 1))), (some (44, true)), []⟩, ⟨(some 47), .b (.fad 0 (.r 46)), (some (44, true)), []⟩, ⟨(some 48), .b (.ld 1 false (.r 47)), (some (44, true)), []⟩, ⟨(some 49), .b (.bin .eql (.r 48) (.c (.int .i64 1))), (some (44, true)), []⟩, op 50 (.pick (.r 44) (.r 49) (.c (.bool false))), op 51 (.mov (.r 50)), ⟨(some 52), .b (.mov (.r 1)), (some (51, true)), []⟩, ⟨(some 53), .b (.iad 2 (.r 52) (.c (.int .i64 1))), (some (51, true)), []⟩, ⟨(some 54), .b (.fad 1 (.r 53)), (some (51, true)), []⟩, ⟨(some 55), .b (.ld 1 false (.r 54)), (some (51, true)), []⟩, ⟨(some 56), .b (.bsl 3 [.str ⟨#[]⟩] [(0, (.c (.str ⟨#[98]⟩))), (1, (.c (.str ⟨#[]⟩))), (2, (.c (.str ⟨#[98]⟩)))]), (some (51, true)), []⟩, ⟨(some 57), .call 13 [(.r 55), (.r 56)], (some (51, true)), []⟩, op 58 (.pick (.r 51) (.r 57) (.c (.bool false))), op 0 (.mov (.r 58))]) <|
  .ret⟩
def an11 : An := ⟨[], []⟩
def ir11 : Go.Rmp.Fn := ⟨17, 2, [.t 4],
  sq (.ops [op 4 (.mov (.c (.int .i64 0)))]) <|
  sq (.ops [op 6 (.mov (.r 0)), op 7 (.mov (.r 1)), op 8 (.bin .add (.r 7) (.c (.int .i64 1))), op 9 (.bin .rem (.r 6) (.r 8)), op 5 (.mov (.r 9))]) <|
  sq (sq (.ops [op 10 (.mov (.r 5)), op 11 (.bin .lss (.r 10) (.c (.int .i64 0)))]) <|
  .cond (.r 11)
    (.ops [op 12 (.mov (.r 5)), op 13 (.mov (.r 1)), op 14 (.bin .add (.r 12) (.r 13)), op 15 (.bin .add (.r 14) (.c (.int .i64 1))), op 5 (.mov (.r 15))])
    (.skip)) <|
  sq (.ops [op 16 (.mov (.r 5)), op 4 (.mov (.r 16))]) <|
  .ret⟩
def an12 : An := ⟨[(10, 4), (11, 9)], []⟩
def ir12 : Go.Rmp.Fn := ⟨52, 2, [.t 4, .t 5],
  sq (.ops [op 4 (.mov (.c (.sl .nil []))), op 5 (.mov (.c (.int .i64 0)))]) <|
  sq (sq (.ops [op 12 (.mov (.r 1)), cl 13 19 [(.r 12)], op 14 (.un .not (.r 13))]) <|
  .cond (.r 14)
    (sq (.ops [op 4 (.mov (.c (.sl .nil []))), op 5 (.mov (.c (.int .i64 1)))]) <|
    .ret)
    (.skip)) <|
  sq (.ops [op 6 (.mov (.c (.sl .nil [])))]) <|
  sq (sq (.ops [op 15 (.mov (.r 0)), op 16 (.len .sl (.r 15)), op 17 (.mov (.c (.int .i64 0)))]) <|
  .block 0 (
    .loop (
      sq (.ops [op 18 (.bin .lss (.r 17) (.r 16))]) <|
      sq (.cond (.r 18)
        (.skip)
        (.exit 0)) <|
      sq (.block 1 (
        sq (.ops [op 19 (.iad 1 (.r 15) (.r 17)), op 20 (.ld 1 false (.r 19)), op 8 (.mov (.r 20))]) <|
        sq (.ops [op 21 (.mov (.r 8)), op 22 (.mov (.r 1)), cl 23 20 [(.r 21), (.r 22)], op 9 (.mov (.r 23))]) <|
        sq (.ops [op 25 (.mov (.r 6)), op 26 (.mov (.r 9)), cl 27 22 [(.r 25), (.r 26), (.c (.fn 23 []))], op 24 (.mov (.r 27)), op 28 (.ext 0 (.r 24)), op 29 (.ext 1 (.r 24)), op 10 (.mov (.r 28)), op 11 (.mov (.r 29))]) <|
        sq (sq (.ops [op 30 (.mov (.r 11)), op 31 (.un .not (.r 30))]) <|
        .cond (.r 31)
          (.ops [op 32 (.mov (.r 6)), op 33 (.mov (.r 10)), op 34 (.mov (.r 9)), op 35 (.build [.int .i64 0, .sl .nil []] [(0, 1, (.r 34))]), op 36 (.bsm 1 [.int .i64 0, .sl .nil []] [(0, (.r 35))]), cl 37 25 [(.r 32), (.r 33), (.r 36)], op 6 (.mov (.r 37))])
          (.skip)) <|
        .ops [op 38 (.mov (.r 6)), op 39 (.mov (.r 10)), op 40 (.mov (.r 6)), op 41 (.mov (.r 10)), op 42 (.iad 2 (.r 40) (.r 41)), op 43 (.fad 1 (.r 42)), op 44 (.ld 1 false (.r 43)), op 45 (.mov (.r 8)), op 46 (.bsl 1 [.str ⟨#[]⟩] [(0, (.r 45))]), op 47 (.app 1 16 true (.r 44) (.r 46)), op 48 (.iad 2 (.r 38) (.r 39)), op 49 (.fad 1 (.r 48)), ef (.st 1 (.r 49) (.r 47))])) <|
      .ops [op 50 (.bin .add (.r 17) (.c (.int .i64 1))), op 17 (.mov (.r 50))]))) <|
  sq (.ops [op 51 (.mov (.r 6)), op 4 (.mov (.r 51)), op 5 (.mov (.c (.int .i64 0)))]) <|
  .ret⟩
def an13 : An := ⟨[], [(6, [(0, true), (1, true), (2, true), (3, true), (4, true), (5, true), (6, true), (7, true), (8, true)])]⟩
def ir13 : Go.Rmp.Fn := ⟨26, 2, [.t 4],
  sq (.ops [op 4 (.mov (.c (.bool false)))]) <|
  sq (sq (.ops [op 6 (.mov (.r 0)), op 7 (.len .sl (.r 6)), op 8 (.mov (.r 1)), op 9 (.len .sl (.r 8)), op 10 (.bin .neq (.r 7) (.r 9))]) <|
  .cond (.r 10)
    (sq (.ops [op 4 (.mov (.c (.bool false)))]) <|
    .ret)
    (.skip)) <|
  sq (sq (.ops [op 5 (.mov (.c (.int .i64 0)))]) <|
  .block 0 (
    .loop (
      sq (sq (.ops [op 11 (.mov (.r 5)), op 12 (.mov (.r 0)), op 13 (.len .sl (.r 12)), op 14 (.bin .lss (.r 11) (.r 13))]) <|
      .cond (.r 14)
        (.skip)
        (.exit 0)) <|
      sq (.block 1 (
        sq (.ops [op 17 (.mov (.r 0)), op 18 (.mov (.r 5)), op 19 (.iad 1 (.r 17) (.r 18)), op 20 (.ld 1 false (.r 19)), op 21 (.mov (.r 1)), op 22 (.mov (.r 5)), op 23 (.iad 1 (.r 21) (.r 22)), op 24 (.ld 1 false (.r 23)), op 25 (.bin .neq (.r 20) (.r 24))]) <|
        .cond (.r 25)
          (sq (.ops [op 4 (.mov (.c (.bool false)))]) <|
          .ret)
          (.skip))) <|
      .ops [op 15 (.mov (.r 5)), op 16 (.bin .add (.r 15) (.c (.int .i64 1))), op 5 (.mov (.r 16))]))) <|
  sq (.ops [op 4 (.mov (.c (.bool true)))]) <|
  .ret⟩
def an15 : An := ⟨[(10, 4), (11, 9)], [(11, [(0, true), (1, true), (2, true), (3, true), (4, true), (5, true), (6, true), (7, true), (8, true), (9, false), (10, true), (11, true), (12, false)])]⟩
def ir15 : Go.Rmp.Fn := ⟨53, 2, [.t 4, .t 5],
  sq (.ops [op 4 (.mov (.c (.sl .nil []))), op 5 (.mov (.c (.int .i64 0)))]) <|
  sq (sq (.ops [op 12 (.mov (.r 1)), cl 13 19 [(.r 12)], op 14 (.un .not (.r 13))]) <|
  .cond (.r 14)
    (sq (.ops [op 4 (.mov (.c (.sl .nil []))), op 5 (.mov (.c (.int .i64 1)))]) <|
    .ret)
    (.skip)) <|
  sq (.ops [op 6 (.mov (.c (.sl .nil [])))]) <|
  sq (sq (.ops [op 15 (.mov (.r 0)), op 16 (.len .sl (.r 15)), op 17 (.mov (.c (.int .i64 0)))]) <|
  .block 0 (
    .loop (
      sq (.ops [op 18 (.bin .lss (.r 17) (.r 16))]) <|
      sq (.cond (.r 18)
        (.skip)
        (.exit 0)) <|
      sq (.block 1 (
        sq (.ops [op 19 (.iad 2 (.r 15) (.r 17)), op 20 (.ld 2 true (.r 19)), op 8 (.alloc [.str ⟨#[]⟩, .str ⟨#[]⟩]), ef (.st 2 (.r 8) (.r 20))]) <|
        sq (.ops [op 21 (.fad 0 (.r 8)), op 22 (.ld 1 false (.r 21)), op 23 (.mov (.r 1)), cl 24 20 [(.r 22), (.r 23)], op 9 (.mov (.r 24))]) <|
        sq (.ops [op 26 (.mov (.r 6)), op 27 (.mov (.r 9)), cl 28 26 [(.r 26), (.r 27), (.c (.fn 27 []))], op 25 (.mov (.r 28)), op 29 (.ext 0 (.r 25)), op 30 (.ext 1 (.r 25)), op 10 (.mov (.r 29)), op 11 (.mov (.r 30))]) <|
        sq (sq (.ops [op 31 (.mov (.r 11)), op 32 (.un .not (.r 31))]) <|
        .cond (.r 32)
          (.ops [op 33 (.mov (.r 6)), op 34 (.mov (.r 10)), op 35 (.mov (.r 9)), op 36 (.build [.int .i64 0, .sl .nil []] [(0, 1, (.r 35))]), op 37 (.bsm 1 [.int .i64 0, .sl .nil []] [(0, (.r 36))]), cl 38 28 [(.r 33), (.r 34), (.r 37)], op 6 (.mov (.r 38))])
          (.skip)) <|
        .ops [op 39 (.mov (.r 6)), op 40 (.mov (.r 10)), op 41 (.mov (.r 6)), op 42 (.mov (.r 10)), op 43 (.iad 2 (.r 41) (.r 42)), op 44 (.fad 1 (.r 43)), op 45 (.ld 1 false (.r 44)), op 46 (.ld 2 true (.r 8)), op 47 (.bsl 1 [.str ⟨#[]⟩, .str ⟨#[]⟩] [(0, (.r 46))]), op 48 (.app 2 32 true (.r 45) (.r 47)), op 49 (.iad 2 (.r 39) (.r 40)), op 50 (.fad 1 (.r 49)), ef (.st 1 (.r 50) (.r 48))])) <|
      .ops [op 51 (.bin .add (.r 17) (.c (.int .i64 1))), op 17 (.mov (.r 51))]))) <|
  sq (.ops [op 52 (.mov (.r 6)), op 4 (.mov (.r 52)), op 5 (.mov (.c (.int .i64 0)))]) <|
  .ret⟩
def an17 : An := ⟨[], [(6, [(0, true), (1, true), (2, true), (3, true), (4, true), (5, true), (6, true), (7, true), (8, true)])]⟩
def ir17 : Go.Rmp.Fn := ⟨26, 2, [.t 4],
  sq (.ops [op 4 (.mov (.c (.bool false)))]) <|
  sq (sq (.ops [op 6 (.mov (.r 0)), op 7 (.len .sl (.r 6)), op 8 (.mov (.r 1)), op 9 (.len .sl (.r 8)), op 10 (.bin .neq (.r 7) (.r 9))]) <|
  .cond (.r 10)
    (sq (.ops [op 4 (.mov (.c (.bool false)))]) <|
    .ret)
    (.skip)) <|
  sq (sq (.ops [op 5 (.mov (.c (.int .i64 0)))]) <|
  .block 0 (
    .loop (
      sq (sq (.ops [op 11 (.mov (.r 5)), op 12 (.mov (.r 0)), op 13 (.len .sl (.r 12)), op 14 (.bin .lss (.r 11) (.r 13))]) <|
      .cond (.r 14)
        (.skip)
        (.exit 0)) <|
      sq (.block 1 (
        sq (.ops [op 17 (.mov (.r 0)), op 18 (.mov (.r 5)), op 19 (.iad 2 (.r 17) (.r 18)), op 20 (.ld 2 true (.r 19)), op 21 (.mov (.r 1)), op 22 (.mov (.r 5)), op 23 (.iad 2 (.r 21) (.r 22)), op 24 (.ld 2 true (.r 23)), op 25 (.eqs true [.str, .str] (.r 20) (.r 24))]) <|
        .cond (.r 25)
          (sq (.ops [op 4 (.mov (.c (.bool false)))]) <|
          .ret)
          (.skip))) <|
      .ops [op 15 (.mov (.r 5)), op 16 (.bin .add (.r 15) (.c (.int .i64 1))), op 5 (.mov (.r 16))]))) <|
  sq (.ops [op 4 (.mov (.c (.bool true)))]) <|
  .ret⟩
def an18 : An := ⟨[], [(9, [(0, true), (1, true), (2, true), (3, true), (4, true), (5, true), (6, false), (7, true), (8, false)]), (16, [(0, true), (1, true), (2, true), (3, true), (4, true), (5, true), (6, false), (7, true), (8, true), (9, false)]), (41, [(0, true), (1, true), (2, true), (3, true), (4, true), (5, true), (6, true), (7, true), (8, false), (9, true), (10, true), (11, true), (12, true), (13, true), (14, true), (15, true), (16, true), (17, true), (18, true), (19, true), (20, true), (21, true), (22, true), (23, true), (24, true), (25, true), (26, true), (27, false), (28, true), (29, true), (30, true)]), (49, [(0, true), (1, true), (2, true), (3, true), (4, true), (5, true), (6, true), (7, true), (8, true), (9, false), (10, true), (11, true), (12, true), (13, true), (14, true), (15, true), (16, true), (17, true), (18, true), (19, true), (20, true), (21, true), (22, true), (23, true), (24, true), (25, true), (26, true), (27, true), (28, true), (29, false), (30, true), (31, true), (32, true)])]⟩
def ir18 : Go.Rmp.Fn := ⟨209, 2, [.t 4],
  sq (.ops [op 4 (.mov (.c (.bool false)))]) <|
  sq (.ops [op 5 (.mov (.c (.sl .nil [])))]) <|
  sq (.ops [op 6 (.mov (.c (.sl .nil [])))]) <|
  sq (sq (.ops [op 7 (.mov (.c (.int .i64 0)))]) <|
  .block 0 (
    .loop (
      sq (sq (.ops [op 21 (.mov (.r 7)), op 22 (.mov (.r 0)), op 23 (.len .sl (.r 22)), op 24 (.bin .lss (.r 21) (.r 23))]) <|
      .cond (.r 24)
        (.skip)
        (.exit 0)) <|
      sq (.block 1 (
        sq (.ops [op 8 (.mov (.c (.int .i64 0)))]) <|
        .block 2 (
          .loop (
            sq (sq (.ops [op 27 (.mov (.r 8)), op 28 (.mov (.r 0)), op 29 (.mov (.r 7)), op 30 (.iad 1 (.r 28) (.r 29)), op 31 (.ld 1 false (.r 30)), op 32 (.len .sl (.r 31)), op 33 (.bin .lss (.r 27) (.r 32))]) <|
            .cond (.r 33)
              (.skip)
              (.exit 2)) <|
            sq (.block 3 (
              .ops [op 36 (.mov (.r 0)), op 37 (.mov (.r 7)), op 38 (.iad 1 (.r 36) (.r 37)), op 39 (.ld 1 false (.r 38)), op 40 (.mov (.r 8)), op 41 (.mov (.r 7)), ⟨(some 42), .call 29 [(.r 41)], none, [⟨39, .ld 1 false (.r 38), none⟩]⟩, op 43 (.iad 1 (.r 39) (.r 40)), ef (.st 1 (.r 43) (.r 42))])) <|
            .ops [op 34 (.mov (.r 8)), op 35 (.bin .add (.r 34) (.c (.int .i64 1))), op 8 (.mov (.r 35))])))) <|
      .ops [op 25 (.mov (.r 7)), op 26 (.bin .add (.r 25) (.c (.int .i64 1))), op 7 (.mov (.r 26))]))) <|
  sq (sq (.ops [op 9 (.mov (.c (.int .i64 0)))]) <|
  .block 4 (
    .loop (
      sq (sq (.ops [op 44 (.mov (.r 9)), op 45 (.mov (.r 1)), op 46 (.len .sl (.r 45)), op 47 (.bin .lss (.r 44) (.r 46))]) <|
      .cond (.r 47)
        (.skip)
        (.exit 4)) <|
      sq (.block 5 (
        sq (.ops [op 10 (.mov (.c (.int .i64 0)))]) <|
        .block 6 (
          .loop (
            sq (sq (.ops [op 50 (.mov (.r 10)), op 51 (.mov (.r 1)), op 52 (.mov (.r 9)), op 53 (.iad 1 (.r 51) (.r 52)), op 54 (.ld 1 false (.r 53)), op 55 (.len .sl (.r 54)), op 56 (.bin .lss (.r 50) (.r 55))]) <|
            .cond (.r 56)
              (.skip)
              (.exit 6)) <|
            sq (.block 7 (
              .ops [op 59 (.mov (.r 1)), op 60 (.mov (.r 9)), op 61 (.iad 1 (.r 59) (.r 60)), op 62 (.ld 1 false (.r 61)), op 63 (.mov (.r 10)), op 64 (.mov (.r 9)), ⟨(some 65), .call 29 [(.r 64)], none, [⟨62, .ld 1 false (.r 61), none⟩]⟩, op 66 (.build [.str ⟨#[]⟩, .str ⟨#[]⟩] [(0, 1, (.r 65))]), op 67 (.iad 2 (.r 62) (.r 63)), ef (.st 2 (.r 67) (.r 66))])) <|
            .ops [op 57 (.mov (.r 10)), op 58 (.bin .add (.r 57) (.c (.int .i64 1))), op 10 (.mov (.r 58))])))) <|
      .ops [op 48 (.mov (.r 9)), op 49 (.bin .add (.r 48) (.c (.int .i64 1))), op 9 (.mov (.r 49))]))) <|
  sq (sq (.ops [op 11 (.mov (.c (.int .i64 0)))]) <|
  .block 8 (
    .loop (
      sq (sq (.ops [op 68 (.mov (.r 11)), op 69 (.mov (.r 0)), op 70 (.len .sl (.r 69)), op 71 (.bin .lss (.r 68) (.r 70))]) <|
      .cond (.r 71)
        (.skip)
        (.exit 8)) <|
      sq (.block 9 (
        sq (.ops [op 74 (.mov (.r 0)), op 75 (.mov (.r 11)), op 76 (.iad 1 (.r 74) (.r 75)), op 77 (.ld 1 false (.r 76)), op 12 (.mov (.r 77))]) <|
        sq (sq (.ops [op 13 (.mov (.c (.int .i64 0)))]) <|
        .block 10 (
          .loop (
            sq (sq (.ops [op 78 (.mov (.r 13)), op 79 (.bin .lss (.r 78) (.c (.int .i64 30)))]) <|
            .cond (.r 79)
              (.skip)
              (.exit 10)) <|
            sq (.block 11 (
              .ops [op 82 (.mov (.r 12)), op 83 (.mov (.r 11)), cl 84 29 [(.r 83)], op 85 (.bsl 1 [.str ⟨#[]⟩] [(0, (.r 84))]), op 86 (.app 1 16 false (.r 82) (.r 85)), op 12 (.mov (.r 86))])) <|
            .ops [op 80 (.mov (.r 13)), op 81 (.bin .add (.r 80) (.c (.int .i64 1))), op 13 (.mov (.r 81))]))) <|
        .ops [op 87 (.mov (.r 5)), op 88 (.mov (.r 12)), op 89 (.bsl 1 [.sl .nil []] [(0, (.r 88))]), op 90 (.app 1 24 false (.r 87) (.r 89)), op 5 (.mov (.r 90))])) <|
      .ops [op 72 (.mov (.r 11)), op 73 (.bin .add (.r 72) (.c (.int .i64 1))), op 11 (.mov (.r 73))]))) <|
  sq (sq (.ops [op 14 (.mov (.c (.int .i64 0)))]) <|
  .block 12 (
    .loop (
      sq (sq (.ops [op 91 (.mov (.r 14)), op 92 (.mov (.r 1)), op 93 (.len .sl (.r 92)), op 94 (.bin .lss (.r 91) (.r 93))]) <|
      .cond (.r 94)
        (.skip)
        (.exit 12)) <|
      sq (.block 13 (
        sq (.ops [op 97 (.mov (.r 1)), op 98 (.mov (.r 14)), op 99 (.iad 1 (.r 97) (.r 98)), op 100 (.ld 1 false (.r 99)), op 15 (.mov (.r 100))]) <|
        sq (sq (.ops [op 16 (.mov (.c (.int .i64 0)))]) <|
        .block 14 (
          .loop (
            sq (sq (.ops [op 101 (.mov (.r 16)), op 102 (.bin .lss (.r 101) (.c (.int .i64 30)))]) <|
            .cond (.r 102)
              (.skip)
              (.exit 14)) <|
            sq (.block 15 (
              .ops [op 105 (.mov (.r 15)), op 106 (.mov (.r 14)), cl 107 29 [(.r 106)], op 108 (.build [.str ⟨#[]⟩, .str ⟨#[]⟩] [(0, 1, (.r 107))]), op 109 (.bsl 1 [.str ⟨#[]⟩, .str ⟨#[]⟩] [(0, (.r 108))]), op 110 (.app 2 32 false (.r 105) (.r 109)), op 15 (.mov (.r 110))])) <|
            .ops [op 103 (.mov (.r 16)), op 104 (.bin .add (.r 103) (.c (.int .i64 1))), op 16 (.mov (.r 104))]))) <|
        .ops [op 111 (.mov (.r 6)), op 112 (.mov (.r 15)), op 113 (.bsl 1 [.sl .nil []] [(0, (.r 112))]), op 114 (.app 1 24 false (.r 111) (.r 113)), op 6 (.mov (.r 114))])) <|
      .ops [op 95 (.mov (.r 14)), op 96 (.bin .add (.r 95) (.c (.int .i64 1))), op 14 (.mov (.r 96))]))) <|
  sq (sq (.ops [op 17 (.mov (.c (.int .i64 0)))]) <|
  .block 16 (
    .loop (
      sq (sq (.ops [op 115 (.mov (.r 17)), op 116 (.mov (.r 5)), op 117 (.len .sl (.r 116)), op 118 (.bin .lss (.r 115) (.r 117))]) <|
      .cond (.r 118)
        (.skip)
        (.exit 16)) <|
      sq (.block 17 (
        sq (.ops [op 18 (.mov (.c (.int .i64 0)))]) <|
        .block 18 (
          .loop (
            sq (sq (.ops [op 121 (.mov (.r 18)), op 122 (.mov (.r 5)), op 123 (.mov (.r 17)), op 124 (.iad 1 (.r 122) (.r 123)), op 125 (.ld 1 false (.r 124)), op 126 (.len .sl (.r 125)), op 127 (.bin .lss (.r 121) (.r 126))]) <|
            .cond (.r 127)
              (.skip)
              (.exit 18)) <|
            sq (.block 19 (
              sq (.ops [op 130 (.mov (.r 5)), op 131 (.mov (.r 17)), op 132 (.iad 1 (.r 130) (.r 131)), op 133 (.ld 1 false (.r 132)), op 134 (.mov (.r 18)), op 135 (.iad 1 (.r 133) (.r 134)), op 136 (.ld 1 false (.r 135)), op 137 (.mov (.r 17)), ⟨(some 138), .call 29 [(.r 137)], none, [⟨133, .ld 1 false (.r 132), none⟩, ⟨136, .ld 1 false (.r 135), none⟩]⟩, op 139 (.bin .neq (.r 136) (.r 138)), op 140 (.mov (.r 139)), ⟨(some 141), .b (.mov (.r 18)), (some (140, false)), []⟩, ⟨(some 142), .b (.mov (.r 0)), (some (140, false)), []⟩, ⟨(some 143), .b (.mov (.r 17)), (some (140, false)), []⟩, ⟨(some 144), .b (.iad 1 (.r 142) (.r 143)), (some (140, false)), []⟩, ⟨(some 145), .b (.ld 1 false (.r 144)), (some (140, false)), []⟩, ⟨(some 146), .b (.len .sl (.r 145)), (some (140, false)), []⟩, ⟨(some 147), .b (.bin .lss (.r 141) (.r 146)), (some (140, false)), []⟩, ⟨(some 148), .b (.mov (.r 147)), (some (140, false)), []⟩, ⟨(some 149), .b (.mov (.r 0)), (some (148, true)), []⟩, ⟨(some 150), .b (.mov (.r 17)), (some (148, true)), []⟩, ⟨(some 151), .b (.iad 1 (.r 149) (.r 150)), (some (148, true)), []⟩, ⟨(some 152), .b (.ld 1 false (.r 151)), (some (148, true)), []⟩, ⟨(some 153), .b (.mov (.r 18)), (some (148, true)), []⟩, ⟨(some 154), .b (.iad 1 (.r 152) (.r 153)), (some (148, true)), []⟩, ⟨(some 155), .b (.ld 1 false (.r 154)), (some (148, true)), []⟩, ⟨(some 156), .b (.mov (.r 17)), (some (148, true)), []⟩, ⟨(some 157), .call 29 [(.r 156)], (some (148, true)), [⟨152, .ld 1 false (.r 151), (some (148, true))⟩, ⟨155, .ld 1 false (.r 154), (some (148, true))⟩]⟩, ⟨(some 158), .b (.bin .neq (.r 155) (.r 157)), (some (148, true)), []⟩, ⟨(some 159), .b (.pick (.r 148) (.r 158) (.c (.bool false))), (some (140, false)), []⟩, op 160 (.pick (.r 140) (.c (.bool true)) (.r 159))]) <|
              .cond (.r 160)
                (sq (.ops [op 4 (.mov (.c (.bool false)))]) <|
                .ret)
                (.skip))) <|
            .ops [op 128 (.mov (.r 18)), op 129 (.bin .add (.r 128) (.c (.int .i64 1))), op 18 (.mov (.r 129))])))) <|
      .ops [op 119 (.mov (.r 17)), op 120 (.bin .add (.r 119) (.c (.int .i64 1))), op 17 (.mov (.r 120))]))) <|
  sq (sq (.ops [op 19 (.mov (.c (.int .i64 0)))]) <|
  .block 20 (
    .loop (
      sq (sq (.ops [op 161 (.mov (.r 19)), op 162 (.mov (.r 6)), op 163 (.len .sl (.r 162)), op 164 (.bin .lss (.r 161) (.r 163))]) <|
      .cond (.r 164)
        (.skip)
        (.exit 20)) <|
      sq (.block 21 (
        sq (.ops [op 20 (.mov (.c (.int .i64 0)))]) <|
        .block 22 (
          .loop (
            sq (sq (.ops [op 167 (.mov (.r 20)), op 168 (.mov (.r 6)), op 169 (.mov (.r 19)), op 170 (.iad 1 (.r 168) (.r 169)), op 171 (.ld 1 false (.r 170)), op 172 (.len .sl (.r 171)), op 173 (.bin .lss (.r 167) (.r 172))]) <|
            .cond (.r 173)
              (.skip)
              (.exit 22)) <|
            sq (.block 23 (
              sq (.ops [op 176 (.mov (.r 6)), op 177 (.mov (.r 19)), op 178 (.iad 1 (.r 176) (.r 177)), op 179 (.ld 1 false (.r 178)), op 180 (.mov (.r 20)), op 181 (.iad 2 (.r 179) (.r 180)), op 182 (.fad 0 (.r 181)), op 183 (.ld 1 false (.r 182)), op 184 (.mov (.r 19)), ⟨(some 185), .call 29 [(.r 184)], none, [⟨179, .ld 1 false (.r 178), none⟩, ⟨183, .ld 1 false (.r 182), none⟩]⟩, op 186 (.bin .neq (.r 183) (.r 185)), op 187 (.mov (.r 186)), ⟨(some 188), .b (.mov (.r 20)), (some (187, false)), []⟩, ⟨(some 189), .b (.mov (.r 1)), (some (187, false)), []⟩, ⟨(some 190), .b (.mov (.r 19)), (some (187, false)), []⟩, ⟨(some 191), .b (.iad 1 (.r 189) (.r 190)), (some (187, false)), []⟩, ⟨(some 192), .b (.ld 1 false (.r 191)), (some (187, false)), []⟩, ⟨(some 193), .b (.len .sl (.r 192)), (some (187, false)), []⟩, ⟨(some 194), .b (.bin .lss (.r 188) (.r 193)), (some (187, false)), []⟩, ⟨(some 195), .b (.mov (.r 194)), (some (187, false)), []⟩, ⟨(some 196), .b (.mov (.r 1)), (some (195, true)), []⟩, ⟨(some 197), .b (.mov (.r 19)), (some (195, true)), []⟩, ⟨(some 198), .b (.iad 1 (.r 196) (.r 197)), (some (195, true)), []⟩, ⟨(some 199), .b (.ld 1 false (.r 198)), (some (195, true)), []⟩, ⟨(some 200), .b (.mov (.r 20)), (some (195, true)), []⟩, ⟨(some 201), .b (.iad 2 (.r 199) (.r 200)), (some (195, true)), []⟩, ⟨(some 202), .b (.fad 0 (.r 201)), (some (195, true)), []⟩, ⟨(some 203), .b (.ld 1 false (.r 202)), (some (195, true)), []⟩, ⟨(some 204), .b (.mov (.r 19)), (some (195, true)), []⟩, ⟨(some 205), .call 29 [(.r 204)], (some (195, true)), [⟨199, .ld 1 false (.r 198), (some (195, true))⟩, ⟨203, .ld 1 false (.r 202), (some (195, true))⟩]⟩, ⟨(some 206), .b (.bin .neq (.r 203) (.r 205)), (some (195, true)), []⟩, ⟨(some 207), .b (.pick (.r 195) (.r 206) (.c (.bool false))), (some (187, false)), []⟩, op 208 (.pick (.r 187) (.c (.bool true)) (.r 207))]) <|
              .cond (.r 208)
                (sq (.ops [op 4 (.mov (.c (.bool false)))]) <|
                .ret)
                (.skip))) <|
            .ops [op 174 (.mov (.r 20)), op 175 (.bin .add (.r 174) (.c (.int .i64 1))), op 20 (.mov (.r 175))])))) <|
      .ops [op 165 (.mov (.r 19)), op 166 (.bin .add (.r 165) (.c (.int .i64 1))), op 19 (.mov (.r 166))]))) <|
  sq (.ops [op 4 (.mov (.c (.bool true)))]) <|
  .ret⟩
def an19 : An := ⟨[], []⟩
def ir19 : Go.Rmp.Fn := ⟨9, 1, [.t 2],
  sq (.ops [op 2 (.mov (.c (.bool false)))]) <|
  sq (.ops [op 3 (.mov (.r 0)), op 4 (.bin .geq (.r 3) (.c (.int .i64 1))), op 5 (.mov (.r 4)), ⟨(some 6), .b (.mov (.r 0)), (some (5, true)), []⟩, ⟨(some 7), .b (.bin .leq (.r 6) (.c (.int .i64 64))), (some (5, true)), []⟩, op 8 (.pick (.r 5) (.r 7) (.c (.bool false))), op 2 (.mov (.r 8))]) <|
  .ret⟩
def an20 : An := ⟨[], []⟩
def ir20 : Go.Rmp.Fn := ⟨11, 2, [.t 4],
  sq (.ops [op 4 (.mov (.c (.int .i64 0)))]) <|
  sq (.ops [op 5 (.mov (.r 0)), cl 6 30 [(.r 5)], op 7 (.mov (.r 1)), op 8 (.cvi .u64 (.r 7)), op 9 (.bin .rem (.r 6) (.r 8)), op 10 (.cvi .i64 (.r 9)), op 4 (.mov (.r 10))]) <|
  .ret⟩
def an22 : An := ⟨[], []⟩
def ir22 : Go.Rmp.Fn := ⟨49, 3, [.t 6, .t 7],
  sq (.ops [op 6 (.mov (.c (.int .i64 0))), op 7 (.mov (.c (.bool false)))]) <|
  sq (.ops [op 12 (.mov (.r 0)), op 13 (.len .sl (.r 12)), op 8 (.mov (.r 13))]) <|
  sq (.ops [op 14 (.mov (.r 8)), op 9 (.mov (.c (.int .i64 0))), op 10 (.mov (.r 14))]) <|
  sq (.block 0 (
    .loop (
      sq (sq (.ops [op 15 (.mov (.r 9)), op 16 (.mov (.r 10)), op 17 (.bin .lss (.r 15) (.r 16))]) <|
      .cond (.r 17)
        (.skip)
        (.exit 0)) <|
      .block 1 (
        sq (.ops [op 18 (.mov (.r 9)), op 19 (.mov (.r 10)), op 20 (.bin .add (.r 18) (.r 19)), op 21 (.cvi .u64 (.r 20)), op 22 (.bin .shr (.r 21) (.c (.int .u64 1))), op 23 (.cvi .i64 (.r 22)), op 11 (.mov (.r 23))]) <|
        sq (.ops [op 24 (.mov (.r 2)), op 25 (.mov (.r 0)), op 26 (.mov (.r 11)), op 27 (.iad 2 (.r 25) (.r 26)), op 28 (.ld 2 true (.r 27)), op 29 (.mov (.r 1)), ⟨(some 30), .callv (.r 24) [(.r 28), (.r 29)], none, []⟩, op 31 (.bin .lss (.r 30) (.c (.int .i64 0)))]) <|
        .cond (.r 31)
          (.ops [op 32 (.mov (.r 11)), op 33 (.bin .add (.r 32) (.c (.int .i64 1))), op 9 (.mov (.r 33))])
          (.ops [op 34 (.mov (.r 11)), op 10 (.mov (.r 34))]))))) <|
  sq (.ops [op 35 (.mov (.r 9)), op 36 (.mov (.r 9)), op 37 (.mov (.r 8)), op 38 (.bin .lss (.r 36) (.r 37)), op 39 (.mov (.r 38)), ⟨(some 40), .b (.mov (.r 2)), (some (39, true)), []⟩, ⟨(some 41), .b (.mov (.r 0)), (some (39, true)), []⟩, ⟨(some 42), .b (.mov (.r 9)), (some (39, true)), []⟩, ⟨(some 43), .b (.iad 2 (.r 41) (.r 42)), (some (39, true)), []⟩, ⟨(some 44), .b (.ld 2 true (.r 43)), (some (39, true)), []⟩, ⟨(some 45), .b (.mov (.r 1)), (some (39, true)), []⟩, ⟨(some 46), .callv (.r 40) [(.r 44), (.r 45)], (some (39, true)), []⟩, ⟨(some 47), .b (.bin .eql (.r 46) (.c (.int .i64 0))), (some (39, true)), []⟩, op 48 (.pick (.r 39) (.r 47) (.c (.bool false))), op 6 (.mov (.r 35)), op 7 (.mov (.r 48))]) <|
  .ret⟩
def an23 : An := ⟨[], []⟩
def ir23 : Go.Rmp.Fn := ⟨9, 2, [.t 4],
  sq (.ops [op 2 (.box (.r 0)), op 4 (.mov (.c (.int .i64 0)))]) <|
  sq (.ops [op 5 (.fad 0 (.r 2)), op 6 (.ld 1 false (.r 5)), op 7 (.mov (.r 1)), cl 8 24 [(.r 6), (.r 7)], op 4 (.mov (.r 8))]) <|
  .ret⟩
def an24 : An := ⟨[], []⟩
def ir24 : Go.Rmp.Fn := ⟨20, 2, [.t 4],
  sq (.ops [op 4 (.mov (.c (.int .i64 0)))]) <|
  sq (.ops [op 7 (.mov (.r 0)), cl 8 32 [(.r 7)], op 5 (.mov (.r 8))]) <|
  sq (.ops [op 9 (.mov (.r 1)), cl 10 32 [(.r 9)], op 6 (.mov (.r 10))]) <|
  sq (sq (.ops [op 11 (.mov (.r 5))]) <|
  .cond (.r 11)
    (sq (sq (.ops [op 12 (.mov (.r 6))]) <|
    .cond (.r 12)
      (sq (.ops [op 4 (.mov (.c (.int .i64 0)))]) <|
      .ret)
      (.skip)) <|
    sq (.ops [op 4 (.mov (.c (.int .i64 (-1))))]) <|
    .ret)
    (.skip)) <|
  sq (sq (.ops [op 13 (.mov (.r 6))]) <|
  .cond (.r 13)
    (sq (.ops [op 4 (.mov (.c (.int .i64 1)))]) <|
    .ret)
    (.skip)) <|
  sq (sq (.ops [op 14 (.mov (.r 0)), op 15 (.mov (.r 1)), op 16 (.bin .lss (.r 14) (.r 15))]) <|
  .cond (.r 16)
    (sq (.ops [op 4 (.mov (.c (.int .i64 (-1))))]) <|
    .ret)
    (.skip)) <|
  sq (sq (.ops [op 17 (.mov (.r 0)), op 18 (.mov (.r 1)), op 19 (.bin .gtr (.r 17) (.r 18))]) <|
  .cond (.r 19)
    (sq (.ops [op 4 (.mov (.c (.int .i64 1)))]) <|
    .ret)
    (.skip)) <|
  sq (.ops [op 4 (.mov (.c (.int .i64 0)))]) <|
  .ret⟩
def an25 : An := ⟨[(7, 2)], [(11, [(0, true), (1, true), (2, true), (3, true), (4, true), (5, true), (6, true), (7, true), (8, false)]), (15, [(0, true), (1, true), (2, true), (3, true), (4, true), (5, true), (6, true), (7, true), (8, false)])]⟩
def ir25 : Go.Rmp.Fn := ⟨95, 3, [.t 6],
  sq (.ops [op 6 (.mov (.c (.sl .nil [])))]) <|
  sq (.ops [op 10 (.mov (.r 0)), op 11 (.mov (.r 1)), op 12 (.sll 2 (.r 10) (some (.r 11)) none none)]) <|
  sq (.ops [op 13 (.mov (.r 2)), op 14 (.len .sl (.r 13)), op 7 (.mov (.r 14))]) <|
  sq (sq (.ops [op 15 (.mov (.r 7)), op 16 (.bin .eql (.r 15) (.c (.int .i64 0)))]) <|
  .cond (.r 16)
    (sq (.ops [op 17 (.mov (.r 0)), op 6 (.mov (.r 17))]) <|
    .ret)
    (.skip)) <|
  sq (.ops [op 18 (.mov (.r 0)), op 19 (.len .sl (.r 18)), op 8 (.mov (.r 19))]) <|
  sq (sq (.ops [op 20 (.mov (.r 1)), op 21 (.mov (.r 8)), op 22 (.bin .eql (.r 20) (.r 21))]) <|
  .cond (.r 22)
    (sq (.ops [op 23 (.mov (.r 0)), op 24 (.mov (.r 2)), op 25 (.app 2 32 true (.r 23) (.r 24)), op 6 (.mov (.r 25))]) <|
    .ret)
    (.skip)) <|
  sq (sq (.ops [op 26 (.mov (.r 8)), op 27 (.mov (.r 7)), op 28 (.bin .add (.r 26) (.r 27)), op 29 (.mov (.r 0)), op 30 (.cap (.r 29)), op 31 (.bin .gtr (.r 28) (.r 30))]) <|
  .cond (.r 31)
    (sq (.ops [op 32 (.mov (.r 0)), op 33 (.mov (.r 1)), op 34 (.sll 2 (.r 32) none (some (.r 33)) none), op 35 (.mov (.r 8)), op 36 (.mov (.r 7)), op 37 (.bin .add (.r 35) (.r 36)), op 38 (.mov (.r 1)), op 39 (.bin .sub (.r 37) (.r 38)), op 40 (.apz 2 32 [.int .i64 0, .sl .nil []] (.r 34) (.r 39)), op 9 (.mov (.r 40))]) <|
    sq (.ops [op 41 (.mov (.r 9)), op 42 (.mov (.r 1)), op 43 (.sll 2 (.r 41) (some (.r 42)) none none), op 44 (.mov (.r 2)), op 45 (.cpy 2 (.r 43) (.r 44))]) <|
    sq (.ops [op 46 (.mov (.r 9)), op 47 (.mov (.r 1)), op 48 (.mov (.r 7)), op 49 (.bin .add (.r 47) (.r 48)), op 50 (.sll 2 (.r 46) (some (.r 49)) none none), op 51 (.mov (.r 0)), op 52 (.mov (.r 1)), op 53 (.sll 2 (.r 51) (some (.r 52)) none none), op 54 (.cpy 2 (.r 50) (.r 53))]) <|
    sq (.ops [op 55 (.mov (.r 9)), op 6 (.mov (.r 55))]) <|
    .ret)
    (.skip)) <|
  sq (.ops [op 56 (.mov (.r 0)), op 57 (.mov (.r 8)), op 58 (.mov (.r 7)), op 59 (.bin .add (.r 57) (.r 58)), op 60 (.sll 2 (.r 56) none (some (.r 59)) none), op 0 (.mov (.r 60))]) <|
  sq (sq (.ops [op 61 (.mov (.r 2)), op 62 (.mov (.r 0)), op 63 (.mov (.r 1)), op 64 (.mov (.r 7)), op 65 (.bin .add (.r 63) (.r 64)), op 66 (.sll 2 (.r 62) (some (.r 65)) none none), op 67 (.ovl 2 (.r 61) (.r 66)), op 68 (.un .not (.r 67))]) <|
  .cond (.r 68)
    (sq (.ops [op 69 (.mov (.r 0)), op 70 (.mov (.r 1)), op 71 (.mov (.r 7)), op 72 (.bin .add (.r 70) (.r 71)), op 73 (.sll 2 (.r 69) (some (.r 72)) none none), op 74 (.mov (.r 0)), op 75 (.mov (.r 1)), op 76 (.sll 2 (.r 74) (some (.r 75)) none none), op 77 (.cpy 2 (.r 73) (.r 76))]) <|
    sq (.ops [op 78 (.mov (.r 0)), op 79 (.mov (.r 1)), op 80 (.sll 2 (.r 78) (some (.r 79)) none none), op 81 (.mov (.r 2)), op 82 (.cpy 2 (.r 80) (.r 81))]) <|
    sq (.ops [op 83 (.mov (.r 0)), op 6 (.mov (.r 83))]) <|
    .ret)
    (.skip)) <|
  sq (.ops [op 84 (.mov (.r 0)), op 85 (.mov (.r 8)), op 86 (.sll 2 (.r 84) (some (.r 85)) none none), op 87 (.mov (.r 2)), op 88 (.cpy 2 (.r 86) (.r 87))]) <|
  sq (.ops [op 89 (.mov (.r 0)), op 90 (.mov (.r 1)), op 91 (.sll 2 (.r 89) (some (.r 90)) none none), op 92 (.mov (.r 7)), cl 93 34 [(.r 91), (.r 92)]]) <|
  sq (.ops [op 94 (.mov (.r 0)), op 6 (.mov (.r 94))]) <|
  .ret⟩
def an26 : An := ⟨[], []⟩
def ir26 : Go.Rmp.Fn := ⟨49, 3, [.t 6, .t 7],
  sq (.ops [op 6 (.mov (.c (.int .i64 0))), op 7 (.mov (.c (.bool false)))]) <|
  sq (.ops [op 12 (.mov (.r 0)), op 13 (.len .sl (.r 12)), op 8 (.mov (.r 13))]) <|
  sq (.ops [op 14 (.mov (.r 8)), op 9 (.mov (.c (.int .i64 0))), op 10 (.mov (.r 14))]) <|
  sq (.block 0 (
    .loop (
      sq (sq (.ops [op 15 (.mov (.r 9)), op 16 (.mov (.r 10)), op 17 (.bin .lss (.r 15) (.r 16))]) <|
      .cond (.r 17)
        (.skip)
        (.exit 0)) <|
      .block 1 (
        sq (.ops [op 18 (.mov (.r 9)), op 19 (.mov (.r 10)), op 20 (.bin .add (.r 18) (.r 19)), op 21 (.cvi .u64 (.r 20)), op 22 (.bin .shr (.r 21) (.c (.int .u64 1))), op 23 (.cvi .i64 (.r 22)), op 11 (.mov (.r 23))]) <|
        sq (.ops [op 24 (.mov (.r 2)), op 25 (.mov (.r 0)), op 26 (.mov (.r 11)), op 27 (.iad 2 (.r 25) (.r 26)), op 28 (.ld 2 true (.r 27)), op 29 (.mov (.r 1)), ⟨(some 30), .callv (.r 24) [(.r 28), (.r 29)], none, []⟩, op 31 (.bin .lss (.r 30) (.c (.int .i64 0)))]) <|
        .cond (.r 31)
          (.ops [op 32 (.mov (.r 11)), op 33 (.bin .add (.r 32) (.c (.int .i64 1))), op 9 (.mov (.r 33))])
          (.ops [op 34 (.mov (.r 11)), op 10 (.mov (.r 34))]))))) <|
  sq (.ops [op 35 (.mov (.r 9)), op 36 (.mov (.r 9)), op 37 (.mov (.r 8)), op 38 (.bin .lss (.r 36) (.r 37)), op 39 (.mov (.r 38)), ⟨(some 40), .b (.mov (.r 2)), (some (39, true)), []⟩, ⟨(some 41), .b (.mov (.r 0)), (some (39, true)), []⟩, ⟨(some 42), .b (.mov (.r 9)), (some (39, true)), []⟩, ⟨(some 43), .b (.iad 2 (.r 41) (.r 42)), (some (39, true)), []⟩, ⟨(some 44), .b (.ld 2 true (.r 43)), (some (39, true)), []⟩, ⟨(some 45), .b (.mov (.r 1)), (some (39, true)), []⟩, ⟨(some 46), .callv (.r 40) [(.r 44), (.r 45)], (some (39, true)), []⟩, ⟨(some 47), .b (.bin .eql (.r 46) (.c (.int .i64 0))), (some (39, true)), []⟩, op 48 (.pick (.r 39) (.r 47) (.c (.bool false))), op 6 (.mov (.r 35)), op 7 (.mov (.r 48))]) <|
  .ret⟩
def an27 : An := ⟨[], []⟩
def ir27 : Go.Rmp.Fn := ⟨9, 2, [.t 4],
  sq (.ops [op 2 (.box (.r 0)), op 4 (.mov (.c (.int .i64 0)))]) <|
  sq (.ops [op 5 (.fad 0 (.r 2)), op 6 (.ld 1 false (.r 5)), op 7 (.mov (.r 1)), cl 8 24 [(.r 6), (.r 7)], op 4 (.mov (.r 8))]) <|
  .ret⟩
def an28 : An := ⟨[(7, 2)], [(11, [(0, true), (1, true), (2, true), (3, true), (4, true), (5, true), (6, true), (7, true), (8, false)]), (15, [(0, true), (1, true), (2, true), (3, true), (4, true), (5, true), (6, true), (7, true), (8, false)])]⟩
def ir28 : Go.Rmp.Fn := ⟨95, 3, [.t 6],
  sq (.ops [op 6 (.mov (.c (.sl .nil [])))]) <|
  sq (.ops [op 10 (.mov (.r 0)), op 11 (.mov (.r 1)), op 12 (.sll 2 (.r 10) (some (.r 11)) none none)]) <|
  sq (.ops [op 13 (.mov (.r 2)), op 14 (.len .sl (.r 13)), op 7 (.mov (.r 14))]) <|
  sq (sq (.ops [op 15 (.mov (.r 7)), op 16 (.bin .eql (.r 15) (.c (.int .i64 0)))]) <|
  .cond (.r 16)
    (sq (.ops [op 17 (.mov (.r 0)), op 6 (.mov (.r 17))]) <|
    .ret)
    (.skip)) <|
  sq (.ops [op 18 (.mov (.r 0)), op 19 (.len .sl (.r 18)), op 8 (.mov (.r 19))]) <|
  sq (sq (.ops [op 20 (.mov (.r 1)), op 21 (.mov (.r 8)), op 22 (.bin .eql (.r 20) (.r 21))]) <|
  .cond (.r 22)
    (sq (.ops [op 23 (.mov (.r 0)), op 24 (.mov (.r 2)), op 25 (.app 2 32 true (.r 23) (.r 24)), op 6 (.mov (.r 25))]) <|
    .ret)
    (.skip)) <|
  sq (sq (.ops [op 26 (.mov (.r 8)), op 27 (.mov (.r 7)), op 28 (.bin .add (.r 26) (.r 27)), op 29 (.mov (.r 0)), op 30 (.cap (.r 29)), op 31 (.bin .gtr (.r 28) (.r 30))]) <|
  .cond (.r 31)
    (sq (.ops [op 32 (.mov (.r 0)), op 33 (.mov (.r 1)), op 34 (.sll 2 (.r 32) none (some (.r 33)) none), op 35 (.mov (.r 8)), op 36 (.mov (.r 7)), op 37 (.bin .add (.r 35) (.r 36)), op 38 (.mov (.r 1)), op 39 (.bin .sub (.r 37) (.r 38)), op 40 (.apz 2 32 [.int .i64 0, .sl .nil []] (.r 34) (.r 39)), op 9 (.mov (.r 40))]) <|
    sq (.ops [op 41 (.mov (.r 9)), op 42 (.mov (.r 1)), op 43 (.sll 2 (.r 41) (some (.r 42)) none none), op 44 (.mov (.r 2)), op 45 (.cpy 2 (.r 43) (.r 44))]) <|
    sq (.ops [op 46 (.mov (.r 9)), op 47 (.mov (.r 1)), op 48 (.mov (.r 7)), op 49 (.bin .add (.r 47) (.r 48)), op 50 (.sll 2 (.r 46) (some (.r 49)) none none), op 51 (.mov (.r 0)), op 52 (.mov (.r 1)), op 53 (.sll 2 (.r 51) (some (.r 52)) none none), op 54 (.cpy 2 (.r 50) (.r 53))]) <|
    sq (.ops [op 55 (.mov (.r 9)), op 6 (.mov (.r 55))]) <|
    .ret)
    (.skip)) <|
  sq (.ops [op 56 (.mov (.r 0)), op 57 (.mov (.r 8)), op 58 (.mov (.r 7)), op 59 (.bin .add (.r 57) (.r 58)), op 60 (.sll 2 (.r 56) none (some (.r 59)) none), op 0 (.mov (.r 60))]) <|
  sq (sq (.ops [op 61 (.mov (.r 2)), op 62 (.mov (.r 0)), op 63 (.mov (.r 1)), op 64 (.mov (.r 7)), op 65 (.bin .add (.r 63) (.r 64)), op 66 (.sll 2 (.r 62) (some (.r 65)) none none), op 67 (.ovl 2 (.r 61) (.r 66)), op 68 (.un .not (.r 67))]) <|
  .cond (.r 68)
    (sq (.ops [op 69 (.mov (.r 0)), op 70 (.mov (.r 1)), op 71 (.mov (.r 7)), op 72 (.bin .add (.r 70) (.r 71)), op 73 (.sll 2 (.r 69) (some (.r 72)) none none), op 74 (.mov (.r 0)), op 75 (.mov (.r 1)), op 76 (.sll 2 (.r 74) (some (.r 75)) none none), op 77 (.cpy 2 (.r 73) (.r 76))]) <|
    sq (.ops [op 78 (.mov (.r 0)), op 79 (.mov (.r 1)), op 80 (.sll 2 (.r 78) (some (.r 79)) none none), op 81 (.mov (.r 2)), op 82 (.cpy 2 (.r 80) (.r 81))]) <|
    sq (.ops [op 83 (.mov (.r 0)), op 6 (.mov (.r 83))]) <|
    .ret)
    (.skip)) <|
  sq (.ops [op 84 (.mov (.r 0)), op 85 (.mov (.r 8)), op 86 (.sll 2 (.r 84) (some (.r 85)) none none), op 87 (.mov (.r 2)), op 88 (.cpy 2 (.r 86) (.r 87))]) <|
  sq (.ops [op 89 (.mov (.r 0)), op 90 (.mov (.r 1)), op 91 (.sll 2 (.r 89) (some (.r 90)) none none), op 92 (.mov (.r 7)), cl 93 36 [(.r 91), (.r 92)]]) <|
  sq (.ops [op 94 (.mov (.r 0)), op 6 (.mov (.r 94))]) <|
  .ret⟩
def an29 : An := ⟨[], []⟩
def ir29 : Go.Rmp.Fn := ⟨10, 1, [.t 2],
  sq (.ops [op 2 (.mov (.c (.str ⟨#[]⟩)))]) <|
  sq (.ops [op 3 (.mov (.r 0)), op 4 (.cvi .u8 (.r 3)), op 5 (.mov (.r 0)), op 6 (.bin .shr (.r 5) (.c (.int .u64 8))), op 7 (.cvi .u8 (.r 6)), op 8 (.bsl 5 [.int .u8 0] [(0, (.r 4)), (1, (.r 7)), (2, (.c (.int .u8 7))), (3, (.c (.int .u8 7))), (4, (.c (.int .u8 7)))]), op 9 (.cvs (.r 8)), op 2 (.mov (.r 9))]) <|
  .ret⟩
def an30 : An := ⟨[], []⟩
def ir30 : Go.Rmp.Fn := ⟨6, 1, [.t 2],
  sq (.ops [op 2 (.mov (.c (.int .u64 0)))]) <|
  sq (.ops [cl 3 38 [], op 4 (.mov (.r 0)), cl 5 37 [(.r 3), (.r 4)], op 2 (.mov (.r 5))]) <|
  .ret⟩
def an32 : An := ⟨[], []⟩
def ir32 : Go.Rmp.Fn := ⟨6, 1, [.t 2],
  sq (.ops [op 2 (.mov (.c (.bool false)))]) <|
  sq (.ops [op 3 (.mov (.r 0)), op 4 (.mov (.r 0)), op 5 (.bin .neq (.r 3) (.r 4)), op 2 (.mov (.r 5))]) <|
  .ret⟩
def an37 : An := ⟨[], []⟩
def ir37 : Go.Rmp.Fn := ⟨21, 2, [.t 4],
  sq (.ops [op 4 (.mov (.c (.int .u64 0)))]) <|
  sq (sq (.ops [op 6 (.mov (.r 1)), op 7 (.len .str (.r 6)), op 8 (.mov (.c (.int .i64 0)))]) <|
  .block 0 (
    .loop (
      sq (.ops [op 9 (.bin .lss (.r 8) (.r 7))]) <|
      sq (.cond (.r 9)
        (.skip)
        (.exit 0)) <|
      sq (.block 1 (
        sq (.ops [op 10 (.mov (.r 8)), op 5 (.mov (.r 10))]) <|
        sq (.ops [op 11 (.mov (.r 0)), op 12 (.mov (.r 1)), op 13 (.mov (.r 5)), op 14 (.ixs (.r 12) (.r 13)), op 15 (.cvi .u64 (.r 14)), op 16 (.bin .xor (.r 11) (.r 15)), op 0 (.mov (.r 16))]) <|
        .ops [op 17 (.mov (.r 0)), op 18 (.bin .mul (.r 17) (.c (.int .u64 1099511628211))), op 0 (.mov (.r 18))])) <|
      .ops [op 19 (.bin .add (.r 8) (.c (.int .i64 1))), op 8 (.mov (.r 19))]))) <|
  sq (.ops [op 20 (.mov (.r 0)), op 4 (.mov (.r 20))]) <|
  .ret⟩
def an38 : An := ⟨[], []⟩
def ir38 : Go.Rmp.Fn := ⟨1, 0, [.t 0],
  sq (.ops [op 0 (.mov (.c (.int .u64 0)))]) <|
  sq (.ops [op 0 (.mov (.c (.int .u64 14695981039346656037)))]) <|
  .ret⟩
theorem c7 : compFn Try.prog an7 7 = some ir7 := by kernel_rfl
theorem c8 : compFn Try.prog an8 8 = some ir8 := by kernel_rfl
theorem c10 : compFn Try.prog an10 10 = some ir10 := by kernel_rfl
theorem c11 : compFn Try.prog an11 11 = some ir11 := by kernel_rfl
theorem c12 : compFn Try.prog an12 12 = some ir12 := by kernel_rfl
theorem c13 : compFn Try.prog an13 13 = some ir13 := by kernel_rfl
theorem c15 : compFn Try.prog an15 15 = some ir15 := by kernel_rfl
theorem c17 : compFn Try.prog an17 17 = some ir17 := by kernel_rfl
theorem c18 : compFn Try.prog an18 18 = some ir18 := by kernel_rfl
theorem c19 : compFn Try.prog an19 19 = some ir19 := by kernel_rfl
theorem c20 : compFn Try.prog an20 20 = some ir20 := by kernel_rfl
theorem c22 : compFn Try.prog an22 22 = some ir22 := by kernel_rfl
theorem c23 : compFn Try.prog an23 23 = some ir23 := by kernel_rfl
theorem c24 : compFn Try.prog an24 24 = some ir24 := by kernel_rfl
theorem c25 : compFn Try.prog an25 25 = some ir25 := by kernel_rfl
theorem c26 : compFn Try.prog an26 26 = some ir26 := by kernel_rfl
theorem c27 : compFn Try.prog an27 27 = some ir27 := by kernel_rfl
theorem c28 : compFn Try.prog an28 28 = some ir28 := by kernel_rfl
theorem c29 : compFn Try.prog an29 29 = some ir29 := by kernel_rfl
theorem c30 : compFn Try.prog an30 30 = some ir30 := by kernel_rfl
theorem c32 : compFn Try.prog an32 32 = some ir32 := by kernel_rfl
theorem c37 : compFn Try.prog an37 37 = some ir37 := by kernel_rfl
theorem c38 : compFn Try.prog an38 38 = some ir38 := by kernel_rfl
def envFn : Nat → Option Go.Rmp.Fn
  | 7 => some ir7
  | 8 => some ir8
  | 10 => some ir10
  | 11 => some ir11
  | 12 => some ir12
  | 13 => some ir13
  | 15 => some ir15
  | 17 => some ir17
  | 18 => some ir18
  | 19 => some ir19
  | 20 => some ir20
  | 22 => some ir22
  | 23 => some ir23
  | 24 => some ir24
  | 25 => some ir25
  | 26 => some ir26
  | 27 => some ir27
  | 28 => some ir28
  | 29 => some ir29
  | 30 => some ir30
  | 32 => some ir32
  | 37 => some ir37
  | 38 => some ir38
  | _ => none
def env : Env := ⟨envFn, fun _ _ _ _ => False, fun _ _ _ _ _ h _ => h⟩
theorem envOk : EnvOk Try.prog env where
  mixed := by kernel_rfl
  fn := by
    intro f fn h
    simp only [env, envFn] at h
    split at h
    · cases h; exact ⟨_, c7⟩
    · cases h; exact ⟨_, c8⟩
    · cases h; exact ⟨_, c10⟩
    · cases h; exact ⟨_, c11⟩
    · cases h; exact ⟨_, c12⟩
    · cases h; exact ⟨_, c13⟩
    · cases h; exact ⟨_, c15⟩
    · cases h; exact ⟨_, c17⟩
    · cases h; exact ⟨_, c18⟩
    · cases h; exact ⟨_, c19⟩
    · cases h; exact ⟨_, c20⟩
    · cases h; exact ⟨_, c22⟩
    · cases h; exact ⟨_, c23⟩
    · cases h; exact ⟨_, c24⟩
    · cases h; exact ⟨_, c25⟩
    · cases h; exact ⟨_, c26⟩
    · cases h; exact ⟨_, c27⟩
    · cases h; exact ⟨_, c28⟩
    · cases h; exact ⟨_, c29⟩
    · cases h; exact ⟨_, c30⟩
    · cases h; exact ⟨_, c32⟩
    · cases h; exact ⟨_, c37⟩
    · cases h; exact ⟨_, c38⟩
    · cases h
  prim := by intro f az H Q h; exact h.elim
end Go.Proofs.Ytpbilghnfldmiaa.Ir
end
