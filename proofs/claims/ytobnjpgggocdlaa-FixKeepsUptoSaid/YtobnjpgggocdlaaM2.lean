/- Part of a proof of a law of this seat: the machine of plain values, its simulation, and the contracts of the functions that the law reaches. Conditions: none beyond the given row. -/
import Derived.Test.YtobnjpgggocdlaaM1
import Derived.OpenShut
import Derived.RowKit3
import Derived.ChangeSame
import Derived.ReadAgain
import Derived.ChangeCalls
import Derived.Deep.Frames
import Derived.Laws.Strings
import Derived.Test.YtobnjpgggocdlaaProg
import Derived.KernelRfl
open Int renaming reduceLT → q6, reduceLE → q7, reduceBEq → q8, reduceBNe → q9, reduceEq → j3
open Nat renaming reduceAdd → j4, reduceLeDiff → j5, reduceLT → j6, reduceEqDiff → j7
set_option linter.unusedSimpArgs false
set_option linter.unusedVariables false
set_option linter.unnecessarySimpa false
set_option maxHeartbeats 4000000
section
namespace Go.Rmp
inductive Sh where
  | int (k : IntKind) | str | bool
  | sl (l : List Sh)
  | ag (l : List Sh)
def shFs (P : Program) (f : TypeId → Option (List Sh)) : List Field → Nat → Option (List Sh)
  | [], _ => some []
  | x :: xs, off => match f x.type with
    | some l => if x.offset = off ∧ l.length = P.cellsOf x.type then (shFs P f xs (off + l.length)).map (l ++ ·) else none
    | none => none
def arrFs (k : Nat) (e : TypeId) (c : Nat) : List Field := (List.range k).map fun i => { (default : Field) with type := e, offset := i * c }
def shOf (P : Program) : Nat → TypeId → Option (List Sh)
  | 0, _ => none
  | n + 1, t => match P.underlying t with
    | some .bool => some [.bool]
    | some (.int k) => some [.int k]
    | some .string => some [.str]
    | some (.slice e) => match shOf P n e with
      | some l => if l.length = P.cellsOf e ∧ l.length ≠ 0 then some [.sl l] else none
      | none => none
    | some (.struct fs) => match shFs P (shOf P n) fs.toList 0 with
      | some l => if l.length = P.cellsOf t then some l else none
      | none => none
    | some (.array k e) => match shFs P (shOf P n) (arrFs k e (P.cellsOf e)) 0 with
      | some l => if l.length = P.cellsOf t then some l else none
      | none => none
    | _ => none
inductive HasSh (B : Nat) : Sh → T → Prop
  | int {k n} (h : (Lit.int k n).wf = true) : HasSh B (.int k) (.int k n)
  | bool (b) : HasSh B .bool (.bool b)
  | str {s : ByteArray} (h : s.size ≤ maxLen) (hB : s.size ≤ B) : HasSh B .str (.str s)
  | nil {l} : HasSh B (.sl l) (.sl .nil [])
  | sl {l es} (hl : es.length ≤ maxLen) (hB : es.length ≤ B) (h0 : ∀ c ∈ es, c.length = l.length) (h : ∀ c ∈ es, ∀ (j : Nat) (s : Sh) (t : T), l[j]? = some s → c[j]? = some t → HasSh B s t) : HasSh B (.sl l) (.sl .arg es)
  | ag {l cs} (hl : cs.length = l.length) (h : ∀ (j : Nat) (s : Sh) (t : T), l[j]? = some s → cs[j]? = some t → HasSh B s t) : HasSh B (.ag l) (.agg cs)
mutual
def T.bk : T → Nat
  | .str s => s.size + 1
  | .sl _ es => bkE es + 1
  | _ => 1
def bkL : List T → Nat
  | [] => 0
  | t :: ts => t.bk + bkL ts
def bkE : List (List T) → Nat
  | [] => 0
  | c :: es => bkL c + bkE es
end
theorem bkL_app (a b : List T) : bkL (a ++ b) = bkL a + bkL b := by
  induction a with
  | nil => simp [bkL]
  | cons t a ih => simp only [List.cons_append, bkL, ih]; omega
mutual
def bulkW {H : Type} : DataW H → Nat
  | .lit (.string bytes) => bytes.length + 1
  | .lit _ => 1
  | .nil => 1
  | .ptr d => bulkW d + 1
  | .slice elems spare => bulkAllW elems + bulkAllW spare + 1
  | .agg parts => bulkAllW parts + 1
  | .iface _ d => bulkW d + 1
  | .map entries => bulkEntriesW entries + 1
  | .held _ => 1
def bulkAllW {H : Type} : List (DataW H) → Nat
  | [] => 0
  | d :: r => bulkW d + bulkAllW r
def bulkEntriesW {H : Type} : List (Lit × DataW H) → Nat
  | [] => 0
  | x :: r => bulkEntryW x + bulkEntriesW r
def bulkEntryW {H : Type} : Lit × DataW H → Nat
  | (.string bytes, d) => bytes.length + bulkW d + 1
  | (_, d) => bulkW d + 1
end
theorem bulk_one {H : Type} (d : DataW H) : 1 ≤ bulkW d := by
  cases d with
  | lit l => cases l <;> simp [bulkW]
  | _ => simp [bulkW]
theorem bulk_part {H : Type} {d : DataW H} {l : List (DataW H)} (h : d ∈ l) : bulkW d ≤ bulkAllW l := by
  induction l with
  | nil => cases h
  | cons x r ih =>
    simp only [bulkAllW]
    rcases List.mem_cons.1 h with rfl | h
    · omega
    · have := ih h; omega
theorem bkE_le {H : Type} : ∀ (es : List (List T)) (ds : List (DataW H)), es.length ≤ ds.length → (∀ (i : Nat) c d, es[i]? = some c → ds[i]? = some d → bkL c ≤ bulkW d) → bkE es ≤ bulkAllW ds
  | [], _, _, _ => by simp [bkE]
  | c :: es, [], h, _ => by simp at h
  | c :: es, d :: ds, h, hk => by
    have h1 := hk 0 c d rfl rfl
    have h2 := bkE_le es ds (by simpa using h) fun i c d a b => hk (i + 1) c d (by simpa using a) (by simpa using b)
    simp only [bkE, bulkAllW]; omega
theorem bulk_len {H : Type} (l : List (DataW H)) : l.length ≤ bulkAllW l := by
  induction l with
  | nil => simp
  | cons x r ih => have := bulk_one x; simp only [bulkAllW, List.length_cons]; omega
def g0 (P : Program) (W : World) : Ctx := ⟨fun _ => none, fun r _ => if r < W.heap.size then .imm else .free, fun _ _ => none, fun n c k => ∃ an, compC P n an false k = some c⟩
theorem sr0 (P : Program) (W : World) : SR W (g0 P W) [] W where
  size := Nat.le_refl _
  old _ _ := rfl
  imm0 r o h := by simp [g0, h]
  fresh r o h := by simp only [g0]; rw [if_neg (by omega)]
  dom b x h := by simp [g0] at h
  domt t e x h := by simp [g0] at h
  blk b x h := by simp at h
  env := ⟨rfl, rfl⟩
theorem ck0 (P : Program) (W : World) : CkAll P (g0 P W) := fun _ _ _ => Iff.rfl
theorem list_of {α : Type} {Q : Nat → α → Prop} : ∀ (n : Nat), (∀ i, i < n → ∃ c, Q i c) → ∃ l : List α, l.length = n ∧ ∀ (i : Nat) (c : α), l[i]? = some c → Q i c
  | 0, _ => ⟨[], rfl, by simp⟩
  | n + 1, h => by
    obtain ⟨l, hl, hq⟩ := list_of n fun i hi => h i (by omega)
    obtain ⟨c, hc⟩ := h n (by omega)
    refine ⟨l ++ [c], by simp [hl], fun i d hd => ?_⟩
    by_cases hi : i < n
    · rw [List.getElem?_append_left (by omega)] at hd; exact hq i d hd
    · rw [List.getElem?_append_right (by omega)] at hd
      have : i = n := by
        have := (List.getElem?_eq_some_iff.1 hd).1; simp at this; omega
      subst this; simp [hl] at hd; subst hd; exact hc
section
variable {H : Type} {enc : TypeId × Value → H} {P : Program} {W : World} {held : Bool} {B : Nat}
theorem cells_at {a : Addr} {n : Nat} {cs : List Value} (h : W.cells? 0 a n = some cs) : cs.length = n ∧ ∀ (j : Nat) (v : Value), cs[j]? = some v → W.cell? (a.add j) = some v := by
  unfold World.cells? at h
  rw [if_pos (Nat.zero_le _)] at h
  have key : ∀ (n : Nat) (cs : List Value), (List.range n).mapM (fun i => W.cell? (a.add i)) = some cs → cs.length = n ∧ ∀ (j : Nat) (v : Value), cs[j]? = some v → W.cell? (a.add j) = some v := by
    intro n
    induction n with
    | zero => intro cs h; simp at h; subst h; simp
    | succ n ih =>
      intro cs h
      rw [List.range_succ, List.mapM_append] at h
      cases h1 : (List.range n).mapM (fun i => W.cell? (a.add i)) with
      | none => simp [h1] at h
      | some l =>
        cases h2 : W.cell? (a.add n) with
        | none => simp [h1, h2] at h
        | some v =>
          simp [h1, h2] at h
          subst h
          obtain ⟨k1, k2⟩ := ih l h1
          refine ⟨by simp [k1], fun j u hj => ?_⟩
          by_cases hjn : j < n
          · rw [List.getElem?_append_left (by omega)] at hj; exact k2 j u hj
          · rw [List.getElem?_append_right (by omega)] at hj
            have : j = n := by
              have := (List.getElem?_eq_some_iff.1 hj).1; simp at this; omega
            subst this; simp [k1] at hj; subst hj; exact h2
  exact key n cs h
def Reads (enc : TypeId × Value → H) (P : Program) (W : World) (held : Bool) (B : Nat) (t : TypeId) (l : List Sh) : Prop :=
  ∀ fuel cs d ps, DataW.trod enc P W 0 (fun _ => true) held fuel t cs = some (d, ps) → bulkW d ≤ B → cs.length = l.length ∧ ∃ ts : List T, VRs (g0 P W) W ts cs ∧ ones ts ∧ (∀ (j : Nat) (s : Sh) (t : T), l[j]? = some s → ts[j]? = some t → HasSh B s t) ∧ bkL ts ≤ bulkW d
theorem reads_fields {f : TypeId → Option (List Sh)} {n : Nat} {cs : List Value} : ∀ (fs : List Field) (off : Nat) (l : List Sh) (xs : List (DataW H × List MemPlace)), shFs P f fs off = some l → (∀ x ∈ fs, ∀ l', f x.type = some l' → Reads enc P W held B x.type l') →
    xs.length = fs.length → (∀ (i : Nat) (x : Field), fs[i]? = some x → DataW.trod enc P W 0 (fun _ => true) held n x.type ((cs.drop x.offset).take (P.cellsOf x.type)) = xs[i]?) → (∀ x ∈ xs, bulkW x.1 ≤ B) → off + l.length ≤ cs.length →
    ∃ ts : List T, VRs (g0 P W) W ts ((cs.drop off).take l.length) ∧ ones ts ∧ (∀ (j : Nat) (s : Sh) (t : T), l[j]? = some s → ts[j]? = some t → HasSh B s t) ∧ bkL ts ≤ bulkAllW (xs.map (·.1))
  | [], off, l, xs, h, _, _, _, _, _ => by
    simp only [shFs, Option.some.injEq] at h; subst h
    exact ⟨[], by simpa using VRs.nil, by simp [ones], by simp, by simp [bkL]⟩
  | x :: fs, off, l, xs, h, hr, hl, ht, hb, hle => by
    simp only [shFs] at h
    split at h
    · rename_i l1 h1
      split at h
      · rename_i hc
        simp only [Option.map_eq_some_iff] at h
        obtain ⟨l2, h2, rfl⟩ := h
        cases xs with
        | nil => simp at hl
        | cons y xs =>
          have t0 := ht 0 x rfl
          simp only [List.getElem?_cons_zero] at t0
          obtain ⟨d, ps⟩ := y
          obtain ⟨a1, ts1, a2, a3, a4, a5⟩ := hr x (by simp) l1 h1 n _ d ps t0 (hb (d, ps) (by simp))
          obtain ⟨ts2, b2, b3, b4, b5⟩ := reads_fields fs (off + l1.length) l2 xs h2 (fun z hz => hr z (by simp [hz])) (by simpa using hl) (fun i z hz => by have := ht (i + 1) z (by simpa using hz); simpa using this) (fun z hz => hb z (by simp [hz])) (by simp at hle; omega)
          have e1 : (cs.drop off).take (l1 ++ l2).length = (cs.drop x.offset).take (P.cellsOf x.type) ++ (cs.drop (off + l1.length)).take l2.length := by
            rw [hc.1, ← hc.2, List.length_append, List.take_add, List.drop_drop]
          have hlen1 : ts1.length = l1.length := by rw [a2.1, a1]
          refine ⟨ts1 ++ ts2, by rw [e1]; exact a2.append b2, fun t ht => ?_, fun j s t hs ht => ?_, by rw [bkL_app]; simp only [List.map_cons, bulkAllW]; omega⟩
          · rcases List.mem_append.1 ht with h | h
            · exact a3 t h
            · exact b3 t h
          · by_cases hj : j < l1.length
            · rw [List.getElem?_append_left hj] at hs
              rw [List.getElem?_append_left (by omega)] at ht
              exact a4 j s t hs ht
            · rw [List.getElem?_append_right (by omega)] at hs
              rw [List.getElem?_append_right (by omega), hlen1] at ht
              exact b4 _ s t hs ht
      · cases h
    · cases h
theorem imm_of {r o : Nat} {v : Value} (h : W.cell? ⟨r, o, none⟩ = some v) : Imm (g0 P W) W r o v := ⟨by simp [g0, cell_lt h], h⟩
theorem reads : ∀ (n : Nat) (t : TypeId) (l : List Sh), shOf P n t = some l → Reads enc P W held B t l
  | 0, _, _, h => by simp [shOf] at h
  | n + 1, t, l, h => by
    intro fuel cs d ps hd hb
    simp only [shOf] at h
    split at h
    · rename_i hu; cases h
      obtain ⟨b, rfl, hx⟩ := DataW.trod_bool hu hd
      exact ⟨rfl, [.bool b], VRs.cons (.bool b) VRs.nil, by simp [ones, T.one], fun j s t hs ht => by cases j with
        | zero => simp at hs ht; subst hs; subst ht; exact .bool b
        | succ j => simp at hs, by have := bulk_one d; simp only [bkL, T.bk]; omega⟩
    · rename_i k hu; cases h
      obtain ⟨m, rfl, hx, hw⟩ := DataW.trod_int hu hd
      exact ⟨rfl, [.int k m], VRs.cons (.int k m) VRs.nil, by simp [ones, T.one], fun j s t hs ht => by cases j with
        | zero => simp at hs ht; subst hs; subst ht; exact .int hw
        | succ j => simp at hs, by have := bulk_one d; simp only [bkL, T.bk]; omega⟩
    · rename_i hu; cases h
      obtain ⟨s, rfl, hx, hw⟩ := DataW.trod_string hu hd
      cases hx
      exact ⟨rfl, [.str s], VRs.cons (.str s) VRs.nil, by simp [ones, T.one], fun j s' t hs ht => by cases j with
        | zero => simp at hs ht; subst hs; subst ht; exact .str hw (by simp [bulkW] at hb; have : s.data.size = s.size := rfl; omega)
        | succ j => simp at hs, by simp only [bkL, T.bk, bulkW]; have : s.data.size = s.size := rfl; simp⟩
    · rename_i e hu
      split at h
      · rename_i le he
        split at h
        · rename_i hc
          cases h
          have ih := reads n e le he
          rcases DataW.trod_slice hu hd with ⟨rfl, hx⟩ | ⟨a, len, cap, elems, rest, m, _, rfl, hx, _, h1, h2, h3, h4, h5, _⟩
          · exact ⟨rfl, [.sl .nil []], VRs.cons .slnil VRs.nil, by simp [ones, T.one], fun j s t hs ht => by cases j with
              | zero => simp at hs ht; subst hs; subst ht; exact .nil
              | succ j => simp at hs, by have := bulk_one d; simp only [bkL, T.bk, bkE]; omega⟩
          · cases hx
            have hbe : ∀ x ∈ elems, bulkW x.1 ≤ B := fun x hx => by
              have := bulk_part (List.mem_map_of_mem (f := (·.1)) hx); simp only [bulkW] at hb; omega
            have hlB : len ≤ B := by
              have := bulk_len (elems.map (·.1)); simp only [bulkW] at hb; simp at this; omega
            have hel : ∀ i, i < len → ∃ c : List T, c.length = le.length ∧ ∃ us, W.cells? 0 (a.add (i * P.cellsOf e)) (P.cellsOf e) = some us ∧ VRs (g0 P W) W c us ∧ ones c ∧ (∀ (j : Nat) (s : Sh) (t : T), le[j]? = some s → c[j]? = some t → HasSh B s t) ∧ ∀ d, (elems.map (·.1))[i]? = some d → bkL c ≤ bulkW d := by
              intro i hi
              have hk := h4 i hi
              have hi' : i < elems.length := by omega
              rw [List.getElem?_eq_getElem hi'] at hk
              obtain ⟨us, k1, k2⟩ := Option.bind_eq_some_iff.1 hk
              obtain ⟨q1, ts, q2, q3, q4, q5⟩ := ih m us elems[i].1 elems[i].2 k2 (hbe _ (List.getElem_mem hi'))
              exact ⟨ts, by rw [q2.1, q1], us, k1, q2, q3, q4, fun d hd => by rw [List.getElem?_map, List.getElem?_eq_getElem hi'] at hd; simp only [Option.map_some, Option.some.injEq] at hd; subst hd; exact q5⟩
            obtain ⟨es, he1, he2⟩ := list_of len hel
            have hsh : HasSh B (.sl le) (.sl .arg es) := .sl (by omega) (by omega) (fun c hc => by
              obtain ⟨i, hi, rfl⟩ := List.getElem_of_mem hc
              exact (he2 i _ (List.getElem?_eq_getElem hi)).1) (fun c hc => by
              obtain ⟨i, hi, rfl⟩ := List.getElem_of_mem hc
              obtain ⟨_, _, _, _, _, q, _⟩ := he2 i _ (List.getElem?_eq_getElem hi)
              exact q)
            have hvr : VR (g0 P W) W (.sl .arg es) (.slice (some a) len cap) := by
              by_cases hcap : cap = 0
              · have : len = 0 := by omega
                subst this; subst hcap
                have : es = [] := List.eq_nil_of_length_eq_zero he1
                subst this; exact .slarg _
              · have hspot : a.spot = none := by
                  have hcell : ∃ us, W.cells? 0 (a.add (0 * P.cellsOf e)) (P.cellsOf e) = some us := by
                    by_cases hl : 0 < len
                    · obtain ⟨_, _, us, k, _⟩ := hel 0 hl; exact ⟨us, k⟩
                    · have h0 : len = 0 := by omega
                      obtain ⟨k1, k2⟩ := h5 rfl
                      have := k2 0 (by omega)
                      have hr : 0 < rest.length := by omega
                      rw [List.getElem?_eq_getElem hr, h0] at this
                      obtain ⟨us, k3, _⟩ := Option.bind_eq_some_iff.1 this
                      exact ⟨us, by simpa using k3⟩
                  obtain ⟨us, hus⟩ := hcell
                  obtain ⟨k1, k2⟩ := cells_at hus
                  have hpos : 0 < us.length := by omega
                  have hc0 := k2 0 us[0] (List.getElem?_eq_getElem hpos)
                  unfold World.cell? at hc0
                  split at hc0
                  · split at hc0
                    · cases hc0
                    · rename_i hsp; simpa [Addr.add] using hsp
                  · cases hc0
                obtain ⟨r, o, sp⟩ := a
                simp only at hspot; subst hspot
                rw [← he1]
                have hn : ∀ c ∈ es, c.length = le.length := fun c hc => by
                  obtain ⟨i, hi, rfl⟩ := List.getElem_of_mem hc
                  exact (he2 i _ (List.getElem?_eq_getElem hi)).1
                have hcell : ∀ (i j : Nat) (c : List T) (t : T), es[i]? = some c → c[j]? = some t → ∃ v, W.cell? ⟨r, o + i * le.length + j, none⟩ = some v ∧ VR (g0 P W) W t v ∧ t.one = true := by
                  intro i j c t hi hj
                  obtain ⟨q1, us, q2, q3, q4, _⟩ := he2 i c hi
                  obtain ⟨k1, k2⟩ := cells_at q2
                  have hju : j < us.length := by rw [← q3.1]; exact (List.getElem?_eq_some_iff.1 hj).1
                  refine ⟨us[j], ?_, q3.2 j t _ hj (List.getElem?_eq_getElem hju), q4 t (List.mem_of_getElem? hj)⟩
                  have := k2 j us[j] (List.getElem?_eq_getElem hju)
                  rw [← hc.1, add_mk, add_mk] at this
                  exact this
                refine .sl (n := le.length) (fun i j => (W.cell? ⟨r, o + i * le.length + j, none⟩).getD undef) trivial (by omega) hn (fun i j c t hi hj => ?_) (fun i j c t hi hj => ?_)
                · obtain ⟨v, q1, q2, q3⟩ := hcell i j c t hi hj
                  exact ⟨q3, by rw [q1]; exact imm_of q1⟩
                · obtain ⟨v, q1, q2, q3⟩ := hcell i j c t hi hj
                  rw [q1]; exact q2
            exact ⟨rfl, [.sl .arg es], VRs.cons hvr VRs.nil, by simp [ones, T.one], fun j s t hs ht => by cases j with
              | zero => simp at hs ht; subst hs; subst ht; exact hsh
              | succ j => simp at hs, by
              have hbk := bkE_le es (elems.map (·.1)) (by simp; omega) fun i c d hc hd => by
                obtain ⟨_, _, _, _, _, _, q⟩ := he2 i c hc
                exact q d hd
              simp only [bkL, T.bk, bulkW]; omega⟩
        · cases h
      · cases h
    · rename_i fs hu
      split at h
      · rename_i l' hl'
        split at h
        · rename_i hc
          cases h
          obtain ⟨xs, m, _, hx, k1, k2, k3⟩ := DataW.trod_struct hu hd
          cases hx
          have hbe : ∀ x ∈ xs, bulkW x.1 ≤ B := fun x hx => by
            have := bulk_part (List.mem_map_of_mem (f := (·.1)) hx); simp only [bulkW] at hb; omega
          obtain ⟨ts, a1, a2, a3, a4⟩ := reads_fields (n := m) (cs := cs) fs.toList 0 l xs hl' (fun x _ l2 h2 => reads n x.type l2 h2) (by simpa using k2) (fun i x hi => k3 i x (by simpa using hi)) hbe (by omega)
          have e1 : (cs.drop 0).take l.length = cs := by rw [List.drop_zero, hc, ← k1]; simp
          rw [e1] at a1
          exact ⟨by omega, ts, a1, a2, a3, by simp only [bulkW]; omega⟩
        · cases h
      · cases h
    · rename_i k e hu
      split at h
      · rename_i l' hl'
        split at h
        · rename_i hc
          cases h
          obtain ⟨xs, m, _, hx, k1, k2, k3⟩ := DataW.trod_array hu hd
          cases hx
          have hbe : ∀ x ∈ xs, bulkW x.1 ≤ B := fun x hx => by
            have := bulk_part (List.mem_map_of_mem (f := (·.1)) hx); simp only [bulkW] at hb; omega
          obtain ⟨ts, a1, a2, a3, a4⟩ := reads_fields (n := m) (cs := cs) (arrFs k e (P.cellsOf e)) 0 l xs hl' (fun x hx l2 h2 => by
            obtain ⟨i, _, rfl⟩ := List.mem_map.1 hx; exact reads n e l2 h2) (by rw [k2]; simp [arrFs]) (fun i x hi => by
            simp only [arrFs, List.getElem?_map, Option.map_eq_some_iff] at hi
            obtain ⟨j, hj, rfl⟩ := hi
            obtain ⟨h1, h2⟩ := List.getElem?_eq_some_iff.1 hj
            rw [List.getElem_range] at h2
            subst h2
            exact k3 i (by simpa using h1)) hbe (by omega)
          have e1 : (cs.drop 0).take l.length = cs := by rw [List.drop_zero, hc, ← k1]; simp
          rw [e1] at a1
          exact ⟨by omega, ts, a1, a2, a3, by simp only [bulkW]; omega⟩
        · cases h
      · cases h
    · cases h
def shArg (P : Program) (t : TypeId) : Option Sh := match P.underlying t with
  | some .bool | some (.int _) | some .string | some (.slice _) => match shOf P 9 t with
    | some [s] => some s
    | _ => none
  | some (.struct _) | some (.array _ _) => match shOf P 9 t with
    | some l => some (.ag l)
    | none => none
  | _ => none
def shArgs (P : Program) : List TypeId → Option (List Sh)
  | [] => some []
  | t :: ts => match shArg P t, shArgs P ts with
    | some s, some l => some (s :: l)
    | _, _ => none
inductive HasShs (B : Nat) : List Sh → List T → Prop
  | nil : HasShs B [] []
  | cons {s t ss ts} (h : HasSh B s t) (hs : HasShs B ss ts) : HasShs B (s :: ss) (t :: ts)
theorem read_arg {base : Nat} {t : TypeId} {s : Sh} {v : Value} {d : DataW H} {p : List MemPlace} (h : shArg P t = some s) (hv : Value.okWide P W .any base t v) (hf : DataW.Trod enc P W 0 (fun _ => true) held t v d p) (hB : bulkW d ≤ B) :
    ∃ u : T, VR (g0 P W) W u v ∧ HasSh B s u ∧ u.bk ≤ bulkW d := by
  obtain ⟨fuel, hf⟩ := hf
  have one : (∀ cs, v ≠ .agg cs) → v.cells.toList = [v] := by
    intro h; cases v <;> first | rfl | exact absurd rfl (h _)
  have sc : v.cells.toList = [v] → (match shOf P 9 t with | some [s] => some s | _ => none) = some s → ∃ u : T, VR (g0 P W) W u v ∧ HasSh B s u ∧ u.bk ≤ bulkW d := by
    intro hone h
    split at h
    · rename_i s' h3
      cases h
      obtain ⟨c1, us, c2, c3, c4, c5⟩ := reads (B := B) 9 t [s] h3 fuel _ d p hf hB
      rw [hone] at c2
      have hul : us.length = 1 := by have := c2.1; simpa using this
      obtain ⟨u, rfl⟩ : ∃ u, us = [u] := by
        cases us with
        | nil => simp at hul
        | cons u us' => cases us' with
          | nil => exact ⟨u, rfl⟩
          | cons _ _ => simp at hul
      exact ⟨u, c2.head, c4 0 s u rfl rfl, by simp only [bkL] at c5; omega⟩
    · cases h
  have ag : (∃ cs, v = .agg cs) → (match shOf P 9 t with | some l => some (Sh.ag l) | none => none) = some s → ∃ u : T, VR (g0 P W) W u v ∧ HasSh B s u ∧ u.bk ≤ bulkW d := by
    rintro ⟨cs, rfl⟩ h
    split at h
    · rename_i l h3
      cases h
      obtain ⟨c1, us, c2, c3, c4, c5⟩ := reads (B := B) 9 t l h3 fuel _ d p hf hB
      have hc : (Value.agg cs).cells.toList = cs.toList := rfl
      rw [hc] at c1 c2
      refine ⟨.agg us, .agg (by have := c2.1; simpa using this.symm) c3 (fun i t v a b => c2.2 i t v a (by simpa using b)), .ag (by rw [c2.1, c1]) c4, by have := bulk_one d; simp only [T.bk]; omega⟩
    · cases h
  simp only [shArg] at h
  split at h
  · rename_i hu
    exact sc (one (by rintro cs rfl; simp [Value.okWide, hu, Cell.okWide, Cell.ok] at hv)) h
  · rename_i hu
    exact sc (one (by rintro cs rfl; simp [Value.okWide, hu, Cell.okWide, Cell.ok] at hv)) h
  · rename_i hu
    exact sc (one (by rintro cs rfl; simp [Value.okWide, hu, Cell.okWide, Cell.ok] at hv)) h
  · rename_i hu
    exact sc (one (by rintro cs rfl; simp [Value.okWide, hu, Cell.okWide, Cell.ok] at hv)) h
  · rename_i hu
    exact ag (by cases v <;> first | exact ⟨_, rfl⟩ | simp [Value.okWide, hu] at hv) h
  · rename_i hu
    exact ag (by cases v <;> first | exact ⟨_, rfl⟩ | simp [Value.okWide, hu] at hv) h
  · cases h
theorem read_args {base : Nat} : ∀ (ts : List TypeId) (shs : List Sh) (args : List Value) (ds : List (DataW H)) (p : List MemPlace), shArgs P ts = some shs → (∀ (j : Nat) t v, ts[j]? = some t → args[j]? = some v → Value.okWide P W .any base t v) →
    DataW.TrodAll enc P W 0 (fun _ => true) held ts args ds p → bulkAllW ds ≤ B → ∃ aq : List T, VRs (g0 P W) W aq args ∧ HasShs B shs aq ∧ bkL aq ≤ bulkAllW ds
  | [], shs, args, ds, p, h, _, hA, _ => by
    cases args <;> cases ds <;> simp [DataW.TrodAll] at hA
    simp only [shArgs, Option.some.injEq] at h; subst h
    exact ⟨[], VRs.nil, .nil, by simp [bkL]⟩
  | t :: ts, shs, args, ds, p, h, hval, hA, hB => by
    cases args with
    | nil => cases ds <;> simp [DataW.TrodAll] at hA
    | cons v args =>
      cases ds with
      | nil => simp [DataW.TrodAll] at hA
      | cons d ds =>
        obtain ⟨p, q, hf, h2, _⟩ := hA
        simp only [shArgs] at h
        split at h
        · rename_i s l h3 h4
          cases h
          simp only [bulkAllW] at hB
          obtain ⟨aq, b1, b2, b3⟩ := read_args ts l args ds q h4 (fun j t v a b => hval (j + 1) t v (by simpa using a) (by simpa using b)) h2 (by omega)
          obtain ⟨u, c1, c2, c3⟩ := read_arg (B := B) (base := base) (d := d) (p := p) h3 (hval 0 t v rfl rfl) hf (by omega)
          refine ⟨u :: aq, VRs.cons c1 b1, .cons c2 b2, ?_⟩
          show T.bk u + bkL aq ≤ bulkW d + bulkAllW ds
          omega
        · cases h
end
end Go.Rmp
end

section
namespace Go.Rmp
open Go.ChangeShapes Go.RowKit
section
variable {H : Type} {enc : TypeId × Value → H} {P : Program} {W W' : World}
theorem trodAll_carry {sp : Nat → Bool} {held : Bool} : ∀ (ts : List TypeId) (vs : List Value) (ds : List (DataW H)) (ps : List MemPlace), DataW.TrodAll enc P W 0 sp held ts vs ds ps → (∀ p ∈ ps, W.sameAt W' p) → DataW.TrodAll enc P W' 0 sp held ts vs ds ps
  | [], [], [], _, h, _ => h
  | t :: ts, v :: vs, d :: ds, ps, ⟨p, q, ⟨n, hn⟩, h2, e⟩, hs => ⟨p, q, ⟨n, DataW.trod_carry n t _ _ hn (fun x hx => hs x (by rw [e]; exact List.mem_append_left _ hx))⟩, trodAll_carry ts vs ds q h2 (fun x hx => hs x (by rw [e]; exact List.mem_append_right _ hx)), e⟩
  | [], _ :: _, _, _, h, _ => h.elim
  | [], [], _ :: _, _, h, _ => h.elim
  | _ :: _, [], _, _, h, _ => h.elim
  | _ :: _, _ :: _, [], _, h, _ => h.elim
theorem keptBut_of {g : Ctx} {Hh : Heap} (h : SR W g Hh W') (S : MemPlace → Prop) : W.keptBut W' S := by
  refine ⟨h.env.1, h.env.2, fun i hi => ?_⟩
  rw [h.old i hi]
  exact (World.keptBut_refl W S).2.2 i hi
theorem frozen_old (h : ∀ r, r < W.heap.size → W'.heap[r]? = W.heap[r]?) {b o : Nat} (hb : b < W.heap.size) : W'.frozen? ⟨b, o, none⟩ = W.frozen? ⟨b, o, none⟩ := by
  unfold World.frozen?
  rw [h _ hb]
theorem law_calls {E : Env} (hE : EnvOk P E W) {f : FuncId} {aq : List T} {args : List Value} (hv : VRs (g0 P W) W aq args) (hW : Go.Rmp.W E (.call f aq) [] (fun o _ => o = .val (.bool true))) :
    Calls P f args.toArray W fun e W' => e = .returned (.bool true) ∧ (∀ S, W.keptBut W' S) ∧ ∀ r, r < W.heap.size → W'.heap[r]? = W.heap[r]? := by
  obtain ⟨_, hc⟩ := Go.Rmp.W.sim hE hW (g0 P W) W args (ck0 P W) (sr0 P W) hv
  refine (callsIn_wide.1 hc).mono fun e W' ⟨v, t, g', H', he, hq, _, sr, hvr, _⟩ => ?_
  cases hq
  cases hvr
  exact ⟨he, keptBut_of sr, sr.old⟩
theorem law_contractB {E : Env} (hE : EnvOk P E W) {f : FuncId} {fn : Func} {s : ChangeSpec} {shs : List Sh} {B : Nat} {tb : TypeId} (K : Kids P (· < P.types.size)) (hz : ∀ t e, t < P.types.size → P.underlying t = some (.slice e) → 0 < P.cellsOf e)
    (hsh : shArgs P fn.params.toList = some shs) (hlt : ∀ t ∈ fn.params.toList, t < P.types.size) (hrt : fn.resultTypes = #[tb]) (htb : P.underlying tb = some .bool) (hvars : s.vars = [])
    (hfn : ∀ ds : List (DataW H), ds.length = fn.params.toList.length → s.fn H ds = { results := [.lit (.bool true)], args := ds })
    (hlaw : ∀ aq : List T, HasShs B shs aq → bkL aq ≤ B → Go.Rmp.W E (.call f aq) [] (fun o _ => o = .val (.bool true)))
    (base : Nat) (args : Array Value) (ds gs : List (DataW H)) (before : List MemPlace)
    (hval : ∀ (j : Nat) t v, fn.params[j]? = some t → args[j]? = some v → Value.okWide P W .any base t v)
    (hW : DataW.Whole enc P fn.params.toList s.vars false W args.toList ds gs before) (hB : bulkAllW (ds ++ gs) ≤ B) :
    Calls P f args W fun e W' => ∃ v, e = .returned v ∧ s.post enc P fn false true false false W args v W' := by
  have hW' := hW
  obtain ⟨p, q, hA, hV, hpq, hfz, hnd⟩ := hW
  rw [hvars] at hV
  obtain ⟨rfl, rfl⟩ : gs = [] ∧ q = [] := by
    cases gs with
    | nil => exact ⟨rfl, hV⟩
    | cons _ _ => exact hV.elim
  simp only [List.append_nil] at hpq hB
  subst hpq
  obtain ⟨aq, hvs, hss, hbk⟩ := read_args fn.params.toList shs args.toList ds before hsh (fun j t v a b => hval j t v (by simpa using a) (by simpa using b)) hA hB
  have hc := law_calls hE hvs (hlaw aq hss (Nat.le_trans hbk hB))
  rw [Array.toArray_toList] at hc
  refine hc.mono fun e W' ⟨he, hg, hold⟩ => ⟨_, he, ?_⟩
  have hlen : ds.length = fn.params.toList.length := (trodAll_length hA).2
  have hfn' := hfn ds hlen
  have hsp : ∀ p ∈ before, (fun b => decide (b < W.heap.size)) p.block = true := fun p hp => by simpa using hW'.lt p hp
  have hargs : ∀ sp : Nat → Bool, (∀ p ∈ before, sp p.block = true) → DataW.TrodAll enc P W' 0 sp true fn.params.toList args.toList (s.fn H (ds ++ [])).args before := by
    intro sp hsp
    rw [List.append_nil, hfn']
    refine DataW.TrodAll.respare K hz hlt (trodAll_carry _ _ _ _ hA fun x hx => ?_) hsp
    have hb := hW'.lt x hx
    cases x with
    | cell b o => simp only [World.sameAt, World.cell?]; rw [hold b hb]
    | map b => exact hold b hb
  have hres : ∀ (b : Nat) (sp : Nat → Bool) (hd : Bool), DataW.TrodAll enc P W' b sp hd fn.resultTypes.toList ((Value.bool true).resultList fn.resultTypes.size) (s.fn H (ds ++ [])).results [] := by
    intro b sp hd
    rw [List.append_nil, hfn', hrt]
    simp only [Value.resultList]
    exact trodAll_mk1 (shut_bool htb _)
  have hvars' : ∀ sp : Nat → Bool, DataW.TrodVars enc P W' sp s.vars (s.fn H (ds ++ [])).vars [] := by
    intro sp
    rw [List.append_nil, hfn', hvars]; rfl
  refine ⟨ds, [], before, [], before, [], hW', hres _ _ _, hargs _ hsp, hvars' _, World.keptBut_mono (fun p hp => ⟨hp, ?_⟩) (hg (fun p => p ∈ before)), fun _ => ?_⟩
  · exact Or.inr (by simpa using hp)
  · refine ⟨fun j t r hj hr => ?_, _, _, ([] ++ before) ++ [], ⟨[] ++ before, [], trodAll_append (hargs _ (fun _ _ => rfl)) (hres _ _ _), hvars' _, rfl, ?_, ?_⟩, ?_⟩
    · rw [hrt] at hj hr
      cases j with
      | zero => simp [Value.resultList] at hj hr; subst hj; subst hr; exact okWide_bool_mk htb _
      | succ j => simp at hj
    · intro b off hp
      have hp' : MemPlace.cell b off ∈ before := by simpa using hp
      have hb : b < W.heap.size := hW'.lt _ hp'
      rw [frozen_old hold hb]
      exact hfz b off hp'
    · intro ha; cases ha
    · intro p hp _
      simpa using hp
theorem law_contract {E : Env} (hE : EnvOk P E W) {f : FuncId} {fn : Func} {s : ChangeSpec} {shs : List Sh} {B : Nat} {tb : TypeId} (K : Kids P (· < P.types.size)) (hz : ∀ t e, t < P.types.size → P.underlying t = some (.slice e) → 0 < P.cellsOf e)
    (hsh : shArgs P fn.params.toList = some shs) (hlt : ∀ t ∈ fn.params.toList, t < P.types.size) (hrt : fn.resultTypes = #[tb]) (htb : P.underlying tb = some .bool) (hvars : s.vars = [])
    (hfn : ∀ ds : List (DataW H), ds.length = fn.params.toList.length → s.fn H ds = { results := [.lit (.bool true)], args := ds })
    (hlaw : ∀ aq : List T, HasShs B shs aq → Go.Rmp.W E (.call f aq) [] (fun o _ => o = .val (.bool true)))
    (base : Nat) (args : Array Value) (ds gs : List (DataW H)) (before : List MemPlace)
    (hval : ∀ (j : Nat) t v, fn.params[j]? = some t → args[j]? = some v → Value.okWide P W .any base t v)
    (hW : DataW.Whole enc P fn.params.toList s.vars false W args.toList ds gs before) (hB : bulkAllW (ds ++ gs) ≤ B) :
    Calls P f args W fun e W' => ∃ v, e = .returned v ∧ s.post enc P fn false true false false W args v W' :=
  law_contractB hE K hz hsh hlt hrt htb hvars hfn (fun aq h _ => hlaw aq h) base args ds gs before hval hW hB
end
end Go.Rmp
end

section
namespace Go.Rmp
def stB (R : Regs) (H : Heap) : List Rd → Prop
  | [] => True
  | r :: l => (wants R r.g = true → evop R H r.op = some (R r.d, H)) ∧ stB R H l
theorem stB_ok {R : Regs} {H : Heap} : ∀ (l : List Rd), stB R H l → stable R H l
  | [], _ => fun r h => by cases h
  | x :: l, h => fun r hr => by
    rcases List.mem_cons.1 hr with rfl | hr
    · exact h.1
    · exact stB_ok l h.2 r hr
theorem updo_s (R : Regs) (d : Nat) (v : T) : updo R (some d) v = upd R d v := rfl
theorem updo_n (R : Regs) (v : T) : updo R none v = R := rfl
theorem upd_ap (R : Regs) (d : Nat) (v : T) (t : Nat) : upd R d v t = if t = d then v else R t := rfl
theorem regs0_0 (a : T) (l : List T) : regs0 (a :: l) 0 = a := rfl
theorem ev_r (R : Regs) (t : Nat) : X.ev R (.r t) = R t := rfl
theorem ev_c (R : Regs) (v : T) : X.ev R (.c v) = v := rfl
def nilsB (R : Regs) (g : Gd) (s : List Rd) : Bo → Prop
  | .eqr _ c x y => g = none ∧ s = [] ∧ c = .slice ∧ x.ev R = .sl .arg [] ∧ y.ev R = .sl .nil []
  | _ => False
structure YldB (E : Env) (R : Regs) (H : Heap) (x : X) (az : List X) (P : Heap → Bool → Prop) (b n : Nat) (R0 : Regs) (ps : List Nat) (asg body : C) (M1 M : Out → Heap → Prop) : Prop where
  hf : x.ev R = .yld b
  hb : H[b]? = some (.loop .ready none n R0 ps asg body)
  hn : az.length = ps.length
  h1 : W E (.code asg (setps R0 ps (az.map (X.ev R)))) H M1
  h1' : ∀ o H', M1 o H' → (∃ R1, o = .ex .normal R1) ∧ H'[b]? = some (.loop .ready none n R0 ps asg body)
  h2 : ∀ R1 H1, M1 (.ex .normal R1) H1 → W E (.code body R1) (H1.set b (.loop .busy none n R0 ps asg body)) M
  h2' : ∀ o H', M o H' → H'[b]? = some (.loop .busy none n R0 ps asg body)
  h3 : ∀ R' H', M (.ex .normal R') H' → P (H'.set b (.loop .ready none n R0 ps asg body)) true
  h4 : ∀ e R' H', M (.ex e R') H' → e ≠ .normal → P (H'.set b (.loop .done (some e) n R0 ps asg body)) false
def apsOf (R : Regs) (H : Heap) (b : Bo) (v : T) (H' : Heap) : Prop := ∃ n bytes t y bb len cs, b = .app n bytes false (.r t) y ∧ R t = .msl bb 0 len n ∧ H[bb]? = some (.cells cs) ∧ len * n = cs.length ∧ 0 < len ∧
  evop (upd R t (.sl (.own H.length len) (frzE cs 0 len n))) (H.set bb (.fz cs) ++ [.tok len]) b = some (v, H')
def wpB (E : Env) : List O → Regs → Heap → (Regs → Heap → Prop) → Prop
  | [], R, H, K => K R H
  | ⟨d, .b b, g, s⟩ :: l, R, H, K => match wants R g with
    | false => wpB E l (updo R d undefT) H K
    | true => match evop R H b with
      | some (v, H') => stB R H' s ∧ wpB E l (updo R d v) H' K
      | none => (nilsB R g s b ∧ ∀ t : Bool, wpB E l (updo R d (.bool t)) H K) ∨
        (∃ x bb bi es ix cur, b = .nxt x ∧ x.ev R = .ptr bi 0 ∧ H[bb]? = some (.rmap es ix bi cur) ∧ ∀ t H', NxtTo H bb bi es ix t H' → stB R H' s ∧ wpB E l (updo R d t) H' K) ∨
        ∃ v H', apsOf R H b v H' ∧ stB R H' s ∧ wpB E l (updo R d v) H' K
  | ⟨d, .call f az, g, s⟩ :: l, R, H, K => match wants R g with
    | false => wpB E l (updo R d undefT) H K
    | true => ∃ M : Out → Heap → Prop, W E (.call f (az.map (X.ev R))) H M ∧ ∀ v H', M (.val v) H' → stB R H' s ∧ wpB E l (updo R d v) H' K
  | ⟨d, .callv x az, g, s⟩ :: l, R, H, K => match wants R g with
    | false => wpB E l (updo R d undefT) H K
    | true => (∃ (f : Nat) (cs : List T) (M : Out → Heap → Prop), x.ev R = .fn f cs ∧ W E (.call f (az.map (X.ev R) ++ cs)) H M ∧ ∀ v H', M (.val v) H' → stB R H' s ∧ wpB E l (updo R d v) H' K) ∨
      ∃ b n R0 ps asg body M1 M, YldB E R H x az (fun H' t => stB R H' s ∧ wpB E l (updo R d (.bool t)) H' K) b n R0 ps asg body M1 M
theorem wpB_ok {E : Env} {Q : Out → Heap → Prop} : ∀ (l : List O) (R : Regs) (H : Heap), wpB E l R H (fun R' H' => Q (.ex .normal R') H') → W E (.ops l R) H Q
  | [], R, H, h => .nil h
  | ⟨d, .b b, g, s⟩ :: l, R, H, h => by
    simp only [wpB] at h
    split at h
    · rename_i hw; exact .no hw (wpB_ok l _ _ h)
    · rename_i hw
      split at h
      · rename_i v H' he; exact .op hw he (stB_ok _ h.1) (wpB_ok l _ _ h.2)
      · rcases h with h | ⟨x, bb, bi, es, ix, cur, rfl, hx, hb, h⟩ | ⟨v, H', ⟨n, bytes, t, y, bb, len, cs, rfl, ht, hb, hlen, h0, he⟩, h⟩
        · cases b with
          | eqr neg c x y =>
            obtain ⟨⟨hg, hs, hc, hx, hy⟩, h⟩ := h
            subst hg
            exact .nils hs (fun t => wpB_ok l _ _ (h t)) hx hy hc
          | _ => exact h.1.elim
        · exact .nxt hw hx hb (fun t H' hm => stB_ok _ (h t H' hm).1) fun t H' hm => wpB_ok l _ _ (h t H' hm).2
        · exact .aps hw ht hb hlen h0 he (stB_ok _ h.1) (wpB_ok l _ _ h.2)
  | ⟨d, .call f az, g, s⟩ :: l, R, H, h => by
    simp only [wpB] at h
    split at h
    · rename_i hw; exact .no hw (wpB_ok l _ _ h)
    · rename_i hw
      obtain ⟨M, h1, h2⟩ := h
      exact .call M hw h1 (fun v H' hm => stB_ok _ (h2 v H' hm).1) (fun v H' hm => wpB_ok l _ _ (h2 v H' hm).2)
  | ⟨d, .callv x az, g, s⟩ :: l, R, H, h => by
    simp only [wpB] at h
    split at h
    · rename_i hw; exact .no hw (wpB_ok l _ _ h)
    · rename_i hw
      rcases h with ⟨f, cs, M, hf, h1, h2⟩ | ⟨b, n, R0, ps, asg, body, M1, M, h⟩
      · exact .callv M hw hf h1 (fun v H' hm => stB_ok _ (h2 v H' hm).1) (fun v H' hm => wpB_ok l _ _ (h2 v H' hm).2)
      · exact .yld M1 M hw h.hf h.hb h.hn h.h1 h.h1' h.h2 h.h2' (fun R' H' hm => stB_ok _ (h.h3 R' H' hm).1) (fun R' H' hm => wpB_ok l _ _ (h.h3 R' H' hm).2) (fun e R' H' hm he => stB_ok _ (h.h4 e R' H' hm he).1) (fun e R' H' hm he => wpB_ok l _ _ (h.h4 e R' H' hm he).2)
def thenQ (K : Regs → Heap → Prop) (Q : Out → Heap → Prop) : Out → Heap → Prop
  | .ex .normal R, H => K R H
  | o, H => Q o H
def blockQ (id : Nat) (Q : Out → Heap → Prop) : Out → Heap → Prop
  | .ex (.exit i) R, H => if i = id then Q (.ex .normal R) H else Q (.ex (.exit i) R) H
  | o, H => Q o H
def wpC (E : Env) : C → Regs → Heap → (Out → Heap → Prop) → Prop
  | .skip, R, H, Q => Q (.ex .normal R) H
  | .ops l, R, H, Q => wpB E l R H fun R' H' => Q (.ex .normal R') H'
  | .seq a b, R, H, Q => wpC E a R H (thenQ (fun R' H' => wpC E b R' H' Q) Q)
  | .cond x a b, R, H, Q => match x.ev R with
    | .bool true => wpC E a R H Q
    | .bool false => wpC E b R H Q
    | _ => False
  | .block id a, R, H, Q => wpC E a R H (blockQ id Q)
  | .exit id, R, H, Q => Q (.ex (.exit id) R) H
  | .ret, R, H, Q => Q (.ex .ret R) H
  | .loop a, R, H, Q => W E (.code (.loop a) R) H Q
  | .rangeF n x ps a b, R, H, Q => W E (.code (.rangeF n x ps a b) R) H Q
theorem wpC_ok {E : Env} : ∀ (c : C) (R : Regs) (H : Heap) (Q : Out → Heap → Prop), wpC E c R H Q → W E (.code c R) H Q
  | .skip, R, H, Q, h => .skip h
  | .ops l, R, H, Q, h => .reg (wpB_ok l R H h)
  | .seq a b, R, H, Q, h => .seq _ (wpC_ok a R H _ h) (fun R' H' hm => wpC_ok b R' H' Q hm) (fun o H' hm hn => by
    cases o with
    | ex e R' => cases e with
      | normal => exact absurd rfl (hn R')
      | exit id => exact hm
      | ret => exact hm
    | val v => exact hm)
  | .cond x a b, R, H, Q, h => by
    simp only [wpC] at h
    split at h
    · rename_i hx; exact .cond true hx (wpC_ok a R H Q h)
    · rename_i hx; exact .cond false hx (wpC_ok b R H Q h)
    · exact h.elim
  | .block id a, R, H, Q, h => .block _ (wpC_ok a R H _ h) (fun R' H' hm => by simpa [blockQ] using hm) (fun o H' hm hn => by
    cases o with
    | ex e R' => cases e with
      | normal => exact hm
      | exit i =>
        simp only [blockQ] at hm
        split at hm
        · rename_i e; subst e; exact absurd rfl (hn R')
        · exact hm
      | ret => exact hm
    | val v => exact hm)
  | .exit id, R, H, Q, h => .exit h
  | .ret, R, H, Q, h => .ret h
  | .loop a, R, H, Q, h => h
  | .rangeF n x ps a b, R, H, Q, h => h
section
variable (E : Env) (R : Regs) (H : Heap) (K : Regs → Heap → Prop) (Q : Out → Heap → Prop) (l : List O) (d : Option Nat) (s : List Rd)
def isT : T → Bool
  | .bool c => c
  | _ => false
def isF : T → Bool
  | .bool c => !c
  | _ => false
def stepB (b : Bo) (g : Gd) (e : Option (T × Heap)) : Prop := match e with
  | some (v, H') => stB R H' s ∧ wpB E l (updo R d v) H' K
  | none => (nilsB R g s b ∧ ∀ t : Bool, wpB E l (updo R d (.bool t)) H K) ∨
    (∃ x bb bi es ix cur, b = .nxt x ∧ x.ev R = .ptr bi 0 ∧ H[bb]? = some (.rmap es ix bi cur) ∧ ∀ t H', NxtTo H bb bi es ix t H' → stB R H' s ∧ wpB E l (updo R d t) H' K) ∨
    ∃ v H', apsOf R H b v H' ∧ stB R H' s ∧ wpB E l (updo R d v) H' K
def grdB (b : Bo) (g : Gd) (w : Bool) : Prop := match w with
  | false => wpB E l (updo R d undefT) H K
  | true => stepB E R H K l d s b g (evop R H b)
def contB (v : T) (H' : Heap) : Prop := stB R H' s ∧ wpB E l (updo R d v) H' K
def callB (f : Nat) (az : List T) : Prop := ∃ M : Out → Heap → Prop, W E (.call f az) H M ∧ ∀ v H', M (.val v) H' → contB E R K l d s v H'
def grdC (f : Nat) (az : List X) (w : Bool) : Prop := match w with
  | false => wpB E l (updo R d undefT) H K
  | true => callB E R H K l d s f (az.map (X.ev R))
def normK (R : Regs) (H : Heap) : Prop := Q (.ex .normal R) H
def contC (b : C) (R : Regs) (H : Heap) : Prop := wpC E b R H Q
def condC (a b : C) (t : T) : Prop := match t with
  | .bool true => wpC E a R H Q
  | .bool false => wpC E b R H Q
  | _ => False
theorem b_nil : wpB E [] R H K = K R H := rfl
theorem b_b (b : Bo) : wpB E (⟨d, .b b, none, s⟩ :: l) R H K = stepB E R H K l d s b none (evop R H b) := rfl
theorem b_g (b : Bo) (g : Nat × Bool) : wpB E (⟨d, .b b, some g, s⟩ :: l) R H K = grdB E R H K l d s b (some g) (wants R (some g)) := by simp only [wpB, grdB]; rfl
theorem b_c (f : Nat) (az : List X) : wpB E (⟨d, .call f az, none, s⟩ :: l) R H K = callB E R H K l d s f (az.map (X.ev R)) := rfl
theorem b_cg (f : Nat) (az : List X) (g : Nat × Bool) : wpB E (⟨d, .call f az, some g, s⟩ :: l) R H K = grdC E R H K l d s f az (wants R (some g)) := by simp only [wpB, grdC]; rfl
theorem b_vf {g : Nat × Bool} {x : X} {az : List X} (hg : wants R (some g) = false) : wpB E (⟨d, .callv x az, some g, s⟩ :: l) R H K = wpB E l (updo R d undefT) H K := by
  simp only [wpB, hg]
theorem step_n (neg : Bool) (c : Cls) (x y : X) : stepB E R H K l d s (.eqr neg c x y) none none = ((s = [] ∧ c = .slice ∧ x.ev R = .sl .arg [] ∧ y.ev R = .sl .nil []) ∧ ∀ t : Bool, wpB E l (updo R d (.bool t)) H K) := by simp only [stepB, nilsB, apsOf, true_and, reduceCtorEq, false_and, exists_false, or_false]
theorem step_aps {n bytes t bb len : Nat} {y : X} {g : Gd} {cs : List T} {v : T} {H' : Heap} (ht : R t = .msl bb 0 len n) (hb : H[bb]? = some (.cells cs)) (hlen : len * n = cs.length) (h0 : 0 < len)
    (he : evop (upd R t (.sl (.own H.length len) (frzE cs 0 len n))) (H.set bb (.fz cs) ++ [.tok len]) (.app n bytes false (.r t) y) = some (v, H')) (h : stB R H' s ∧ wpB E l (updo R d v) H' K) : stepB E R H K l d s (.app n bytes false (.r t) y) g none :=
  .inr (.inr ⟨v, H', ⟨n, bytes, t, y, bb, len, cs, rfl, ht, hb, hlen, h0, he⟩, h⟩)
theorem step_s (b : Bo) (g : Gd) (v : T) (H' : Heap) : stepB E R H K l d s b g (some (v, H')) = (stB R H' s ∧ wpB E l (updo R d v) H' K) := rfl
theorem grd_t (b : Bo) (g : Gd) : grdB E R H K l d s b g true = stepB E R H K l d s b g (evop R H b) := rfl
theorem grd_f (b : Bo) (g : Gd) : grdB E R H K l d s b g false = wpB E l (updo R d undefT) H K := rfl
theorem grdc_t (f : Nat) (az : List X) : grdC E R H K l d s f az true = callB E R H K l d s f (az.map (X.ev R)) := rfl
theorem grdc_f (f : Nat) (az : List X) : grdC E R H K l d s f az false = wpB E l (updo R d undefT) H K := rfl
theorem callB_of {f : Nat} {az : List T} (M : Out → Heap → Prop) (h1 : W E (.call f az) H M) (h2 : ∀ v H', M (.val v) H' → stB R H' s ∧ wpB E l (updo R d v) H' K) : callB E R H K l d s f az := ⟨M, h1, h2⟩
theorem c_skip : wpC E .skip R H Q = Q (.ex .normal R) H := rfl
theorem c_ops : wpC E (.ops l) R H Q = wpB E l R H (normK Q) := rfl
theorem norm_ap : normK Q R H = Q (.ex .normal R) H := rfl
theorem c_seq (a b : C) : wpC E (.seq a b) R H Q = wpC E a R H (thenQ (contC E Q b) Q) := rfl
theorem c_cond (x : X) (a b : C) : wpC E (.cond x a b) R H Q = condC E R H Q a b (x.ev R) := rfl
theorem c_block (id : Nat) (a : C) : wpC E (.block id a) R H Q = wpC E a R H (blockQ id Q) := rfl
theorem c_exit (id : Nat) : wpC E (.exit id) R H Q = Q (.ex (.exit id) R) H := rfl
theorem c_ret : wpC E .ret R H Q = Q (.ex .ret R) H := rfl
theorem c_loop (a : C) : wpC E (.loop a) R H Q = W E (.code (.loop a) R) H Q := rfl
theorem c_range (n : Nat) (x : X) (ps : List Nat) (a b : C) : wpC E (.rangeF n x ps a b) R H Q = W E (.code (.rangeF n x ps a b) R) H Q := rfl
theorem cont_ap (b : C) : contC E Q b R H = wpC E b R H Q := rfl
theorem cond_t (a b : C) : condC E R H Q a b (.bool true) = wpC E a R H Q := rfl
theorem cond_f (a b : C) : condC E R H Q a b (.bool false) = wpC E b R H Q := rfl
theorem then_n (R : Regs) (H : Heap) : thenQ K Q (.ex .normal R) H = K R H := rfl
theorem then_r (R : Regs) (H : Heap) : thenQ K Q (.ex .ret R) H = Q (.ex .ret R) H := rfl
theorem then_e (id : Nat) (R : Regs) (H : Heap) : thenQ K Q (.ex (.exit id) R) H = Q (.ex (.exit id) R) H := rfl
theorem blk_n (id : Nat) (R : Regs) (H : Heap) : blockQ id Q (.ex .normal R) H = Q (.ex .normal R) H := rfl
theorem blk_r (id : Nat) (R : Regs) (H : Heap) : blockQ id Q (.ex .ret R) H = Q (.ex .ret R) H := rfl
theorem blk_e (id i : Nat) (R : Regs) (H : Heap) : blockQ id Q (.ex (.exit i) R) H = if i = id then Q (.ex .normal R) H else Q (.ex (.exit i) R) H := rfl
theorem want_t (t : Nat) : wants R (some (t, true)) = isT (R t) := by cases h : R t <;> simp [wants, isT, h]
theorem want_f (t : Nat) : wants R (some (t, false)) = isF (R t) := by cases h : R t <;> simp [wants, isF, h]
theorem isT_b (c : Bool) : isT (.bool c) = c := rfl
theorem isT_u : isT undefT = false := rfl
theorem isF_u : isF undefT = false := rfl
theorem isF_b (c : Bool) : isF (.bool c) = !c := rfl
end
theorem W.loopI {E : Env} {α : Type} {a : C} {R : Regs} {H : Heap} {Q : Out → Heap → Prop} (I : α → Regs → Heap → Prop) (μ : α → Nat) (x : α) (h0 : I x R H)
    (step : ∀ x R H, I x R H → wpC E a R H (thenQ (fun R' H' => ∃ y, μ y < μ x ∧ I y R' H') Q)) : W E (.code (.loop a) R) H Q := by
  have key : ∀ (n : Nat) (x : α) (R : Regs) (H : Heap), μ x = n → I x R H → W E (.code (.loop a) R) H Q := by
    intro n
    induction n using Nat.strongRecOn with
    | _ n ih =>
      intro x R H hn hI
      refine .loop _ (wpC_ok a R H _ (step x R H hI)) (fun R' H' hm => ?_) (fun o H' hm hno => ?_)
      · obtain ⟨y, hy, hI'⟩ := hm
        exact ih (μ y) (hn ▸ hy) y R' H' rfl hI'
      · cases o with
        | ex e R' => cases e with
          | normal => exact absurd rfl (hno R')
          | exit id => exact hm
          | ret => exact hm
        | val v => exact hm
  exact key _ x R H rfl h0
def endQ (res : List Rs) (Q : Out → Heap → Prop) : Out → Heap → Prop
  | .ex .normal R, H | .ex .ret R, H => match resT R H res with
    | some v => Q (.val v) H
    | none => False
  | _, _ => False
theorem W.fnI {E : Env} {f : Nat} {fn : Fn} {az : List T} {H : Heap} {Q : Out → Heap → Prop} (hf : E.fn f = some fn) (hr : fn.body.hasR = false) (hn : az.length = fn.np) (h : wpC E fn.body (regs0 az) H (endQ fn.res Q)) : W E (.call f az) H Q := by
  refine .fn _ hf hr hn (wpC_ok _ _ _ _ h) fun o H' hm => ?_
  cases o with
  | ex e R =>
    cases e with
    | normal => simp only [endQ] at hm; split at hm; exact ⟨R, .inl rfl, _, by assumption, hm⟩; exact hm.elim
    | exit id => exact hm.elim
    | ret => simp only [endQ] at hm; split at hm; exact ⟨R, .inr rfl, _, by assumption, hm⟩; exact hm.elim
  | val v => exact hm.elim
def endR (n : Nat) (res : List Rs) (Q : Out → Heap → Prop) : Out → Heap → Prop
  | .ex .normal R, H | .ex .ret R, H => ∃ bs, marks (R n) = some bs ∧ bs.Nodup ∧ (∀ b ∈ bs, H[b]? = some .dfr) ∧ match resT R (kill H bs) res with
    | some v => Q (.val v) (kill H bs)
    | none => False
  | _, _ => False
theorem W.fnrI {E : Env} {f : Nat} {fn : Fn} {az : List T} {H : Heap} {Q : Out → Heap → Prop} (hf : E.fn f = some fn) (hn : az.length = fn.np) (h : wpC E fn.body (regs0 az) H (endR fn.n fn.res Q)) : W E (.call f az) H Q := by
  refine .fnr _ hf hn (wpC_ok _ _ _ _ h) fun o H' hm => ?_
  cases o with
  | ex e R =>
    cases e with
    | normal => obtain ⟨bs, h1, h2, h3, h4⟩ := hm; split at h4; exact ⟨R, bs, .inl rfl, h1, h2, h3, _, by assumption, h4⟩; exact h4.elim
    | exit id => exact hm.elim
    | ret => obtain ⟨bs, h1, h2, h3, h4⟩ := hm; split at h4; exact ⟨R, bs, .inr rfl, h1, h2, h3, _, by assumption, h4⟩; exact h4.elim
  | val v => exact hm.elim
theorem W.rangeI {E : Env} {n : Nat} {x : X} {ps : List Nat} {asg body : C} {R : Regs} {H : Heap} {Q : Out → Heap → Prop} {f : Nat} {cs : List T} (hx : x.ev R = .fn f cs)
    (h : W E (.call f (.yld (H.length + 1) :: cs)) (H ++ [.dfr, .loop .ready none n R ps asg body]) (fun _ H' => H'[H.length + 1]? = some (.loop .ready none n R ps asg body) ∧ Q (.ex .normal (upd R n (pushMark (R n) H.length))) (H'.set (H.length + 1) .dead))) :
    W E (.code (.rangeF n x ps asg body) R) H Q :=
  .rangeF _ hx h fun _ _ hm => ⟨.ready, none, by simp, by simp, hm.1, hm.2⟩
theorem b_yld {E : Env} {R : Regs} {H : Heap} {K : Regs → Heap → Prop} {l : List O} {d : Option Nat} {s : List Rd} {x : X} {az : List X} {b n : Nat} {R0 : Regs} {ps : List Nat} {asg body : C}
    (hf : x.ev R = .yld b) (hb : H[b]? = some (.loop .ready none n R0 ps asg body)) (hn : az.length = ps.length)
    (h : wpC E asg (setps R0 ps (az.map (X.ev R))) H (fun o H1 => ∃ R1, o = .ex .normal R1 ∧ H1[b]? = some (.loop .ready none n R0 ps asg body) ∧
      wpC E body R1 (H1.set b (.loop .busy none n R0 ps asg body)) (fun o H2 => ∃ R2, o = .ex .normal R2 ∧ H2[b]? = some (.loop .busy none n R0 ps asg body) ∧
        stB R (H2.set b (.loop .ready none n R0 ps asg body)) s ∧ wpB E l (updo R d (.bool true)) (H2.set b (.loop .ready none n R0 ps asg body)) K))) :
    wpB E (⟨d, .callv x az, none, s⟩ :: l) R H K := by
  refine .inr ⟨b, n, R0, ps, asg, body, _, fun o H2 => ∃ R2, o = .ex .normal R2 ∧ H2[b]? = some (.loop .busy none n R0 ps asg body) ∧ stB R (H2.set b (.loop .ready none n R0 ps asg body)) s ∧ wpB E l (updo R d (.bool true)) (H2.set b (.loop .ready none n R0 ps asg body)) K, hf, hb, hn, wpC_ok _ _ _ _ h, ?_, ?_, ?_, ?_, ?_⟩
  · rintro o H' ⟨R1, rfl, h1, _⟩; exact ⟨⟨R1, rfl⟩, h1⟩
  · rintro R1 H1 ⟨_, h0, h1, h2⟩; cases h0; exact wpC_ok _ _ _ _ h2
  · rintro o H' ⟨_, _, h, _⟩; exact h
  · rintro R' H' ⟨_, h0, _, h⟩; exact h
  · rintro e R' H' ⟨_, h0, _⟩ hne; cases h0; exact absurd rfl hne
theorem W.use {E : Env} {j : J} {H : Heap} {Q Q' : Out → Heap → Prop} (h : W E j H Q) (hq : ∀ o H', Q o H' → Q' o H') : W E j H Q' := by
  induction h generalizing Q' with
  | skip h => exact .skip (hq _ _ h)
  | exit h => exact .exit (hq _ _ h)
  | ret h => exact .ret (hq _ _ h)
  | reg _ ih => exact .reg (ih hq)
  | seq M h1 h2 h3 _ ih2 => exact .seq M h1 (fun R' H' hm => ih2 R' H' hm hq) (fun o H' hm hn => hq _ _ (h3 o H' hm hn))
  | cond t hx _ ih => exact .cond t hx (ih hq)
  | block M h1 h2 h3 _ => exact .block M h1 (fun R' H' hm => hq _ _ (h2 R' H' hm)) (fun o H' hm hn => hq _ _ (h3 o H' hm hn))
  | loop M h1 h2 h3 _ ih2 => exact .loop M h1 (fun R' H' hm => ih2 R' H' hm hq) (fun o H' hm hn => hq _ _ (h3 o H' hm hn))
  | nil h => exact .nil (hq _ _ h)
  | no hg _ ih => exact .no hg (ih hq)
  | op hg he hs _ ih => exact .op hg he hs (ih hq)
  | call M hg h1 hs _ _ ih2 => exact .call M hg h1 hs (fun v H' hm => ih2 v H' hm hq)
  | callv M hg hf h1 hs _ _ ih2 => exact .callv M hg hf h1 hs (fun v H' hm => ih2 v H' hm hq)
  | yld M1 M hg hf hb hn h1 h1' h2 h2' hs3 _ hs4 _ _ _ ih3 ih4 => exact .yld M1 M hg hf hb hn h1 h1' h2 h2' hs3 (fun R' H' hm => ih3 R' H' hm hq) hs4 (fun e R' H' hm he => ih4 e R' H' hm he hq)
  | nils hs h hx hy hc ih => exact .nils hs (fun b => ih b hq) hx hy hc
  | rangeF M hx h1 h2 _ => exact .rangeF M hx h1 (fun v H' hm => let ⟨st, pe, a, b, c, d⟩ := h2 v H' hm; ⟨st, pe, a, b, c, hq _ _ d⟩)
  | fnr M hf hn h1 h2 _ => exact .fnr M hf hn h1 (fun o H' hm => let ⟨R', bs, a, b, c, d, v, e, f⟩ := h2 o H' hm; ⟨R', bs, a, b, c, d, v, e, hq _ _ f⟩)
  | fn M hf hr hn h1 h2 _ => exact .fn M hf hr hn h1 (fun o H' hm => let ⟨R', a, v, b, c⟩ := h2 o H' hm; ⟨R', a, v, b, hq _ _ c⟩)
  | revl i M hi h1 h2 _ => exact .revl i M hi h1 (fun v H' hm => hq _ _ (h2 v H' hm))
  | frz M h1 h2 _ => exact .frz M h1 (fun o H' hm => let ⟨v, b, cs, a, c, d, e⟩ := h2 o H' hm; ⟨v, b, cs, a, c, d, hq _ _ e⟩)
  | nxt hg hx hb hs _ ih => exact .nxt hg hx hb hs fun t H' hm => ih t H' hm hq
  | shr M h1 h2 _ => exact .shr M h1 (fun o H' hm => let ⟨v, b, cs, k, a, c, d, e⟩ := h2 o H' hm; ⟨v, b, cs, k, a, c, d, hq _ _ e⟩)
  | frza i hi hb _ ih => exact .frza i hi hb (ih hq)
  | fza hk hb _ ih => exact .fza hk hb (ih hq)
  | vw hl hv _ ih => exact .vw hl hv (ih hq)
  | aps hg ht hb hlen h0 he hs _ ih => exact .aps hg ht hb hlen h0 he hs (ih hq)
  | prim h => exact .prim (E.mono _ _ _ _ _ h fun t H' hm => hq _ _ hm)
theorem wpB_mono {E : Env} {K K' : Regs → Heap → Prop} (hk : ∀ R H, K R H → K' R H) : ∀ (l : List O) (R : Regs) (H : Heap), wpB E l R H K → wpB E l R H K'
  | [], R, H, h => hk _ _ h
  | ⟨d, .b b, g, s⟩ :: l, R, H, h => by
    simp only [wpB] at h ⊢
    split at h
    · exact wpB_mono hk l _ _ h
    · split at h
      · exact ⟨h.1, wpB_mono hk l _ _ h.2⟩
      · rcases h with h | ⟨x, bb, bi, es, ix, cur, e, hx, hb, h⟩ | ⟨v, H', ha, h⟩
        · exact .inl ⟨h.1, fun t => wpB_mono hk l _ _ (h.2 t)⟩
        · exact .inr (.inl ⟨x, bb, bi, es, ix, cur, e, hx, hb, fun t H' hm => ⟨(h t H' hm).1, wpB_mono hk l _ _ (h t H' hm).2⟩⟩)
        · exact .inr (.inr ⟨v, H', ha, h.1, wpB_mono hk l _ _ h.2⟩)
  | ⟨d, .call f az, g, s⟩ :: l, R, H, h => by
    simp only [wpB] at h ⊢
    split at h
    · exact wpB_mono hk l _ _ h
    · obtain ⟨M, h1, h2⟩ := h
      exact ⟨M, h1, fun v H' hm => ⟨(h2 v H' hm).1, wpB_mono hk l _ _ (h2 v H' hm).2⟩⟩
  | ⟨d, .callv x az, g, s⟩ :: l, R, H, h => by
    simp only [wpB] at h ⊢
    split at h
    · exact wpB_mono hk l _ _ h
    · rcases h with ⟨f, cs, M, hf, h1, h2⟩ | ⟨b, n, R0, ps, asg, body, M1, M, h⟩
      · exact .inl ⟨f, cs, M, hf, h1, fun v H' hm => ⟨(h2 v H' hm).1, wpB_mono hk l _ _ (h2 v H' hm).2⟩⟩
      · exact .inr ⟨b, n, R0, ps, asg, body, M1, M, ⟨h.hf, h.hb, h.hn, h.h1, h.h1', h.h2, h.h2', fun R' H' hm => ⟨(h.h3 R' H' hm).1, wpB_mono hk l _ _ (h.h3 R' H' hm).2⟩, fun e R' H' hm he => ⟨(h.h4 e R' H' hm he).1, wpB_mono hk l _ _ (h.h4 e R' H' hm he).2⟩⟩⟩
theorem wpC_mono {E : Env} : ∀ (c : C) (R : Regs) (H : Heap) {Q Q' : Out → Heap → Prop}, (∀ o H, Q o H → Q' o H) → wpC E c R H Q → wpC E c R H Q'
  | .skip, R, H, Q, Q', hq, h => hq _ _ h
  | .ops l, R, H, Q, Q', hq, h => wpB_mono (fun R H h => hq _ _ h) l R H h
  | .seq a b, R, H, Q, Q', hq, h => wpC_mono a R H (fun o H' h => by
    cases o with
    | ex e R' => cases e with
      | normal => exact wpC_mono b R' H' hq h
      | exit id => exact hq _ _ h
      | ret => exact hq _ _ h
    | val v => exact hq _ _ h) h
  | .cond x a b, R, H, Q, Q', hq, h => by
    simp only [wpC] at h ⊢
    split at h
    · exact wpC_mono a R H hq h
    · exact wpC_mono b R H hq h
    · exact h.elim
  | .block id a, R, H, Q, Q', hq, h => wpC_mono a R H (fun o H' h => by
    cases o with
    | ex e R' => cases e with
      | normal => exact hq _ _ h
      | exit i => simp only [blockQ] at h ⊢; split at h <;> (rename_i e; simp only [e, if_true, if_false]; exact hq _ _ h)
      | ret => exact hq _ _ h
    | val v => exact hq _ _ h) h
  | .exit id, R, H, Q, Q', hq, h => hq _ _ h
  | .ret, R, H, Q, Q', hq, h => hq _ _ h
  | .loop a, R, H, Q, Q', hq, h => W.use h hq
  | .rangeF n x ps a b, R, H, Q, Q', hq, h => W.use h hq
end Go.Rmp
end

section
namespace Go.Rmp
def Ret (v : T) (H : Heap) : Out → Heap → Prop := fun o H' => o = .val v ∧ H' = H
theorem ret_val (v v' : T) (H H' : Heap) : Ret v H (.val v') H' = (v' = v ∧ H' = H) := by simp [Ret]
theorem regs0_1 (a b : T) (l : List T) : regs0 (a :: b :: l) 1 = b := rfl
theorem regs0_2 (a b c : T) (l : List T) : regs0 (a :: b :: c :: l) 2 = c := rfl
theorem regs0_3 (a b c d : T) (l : List T) : regs0 (a :: b :: c :: d :: l) 3 = d := rfl
theorem regs0_4 (a b c d e : T) (l : List T) : regs0 (a :: b :: c :: d :: e :: l) 4 = e := rfl
theorem ldc_tail (H : Heap) (cs : List T) (n off : Nat) : ldc (H ++ [.cells cs]) n (.ptr H.length off) = if off + n ≤ cs.length then some ((cs.drop off).take n) else none := by
  simp [ldc]
def RetG (v : T) (H : Heap) : Out → Heap → Prop := fun o H' => o = .val v ∧ ∃ l, H' = H ++ l
theorem retg_val (v v' : T) (H l : Heap) : RetG v H (.val v') (H ++ l) = (v' = v) := by simp [RetG]
theorem retg_same (v v' : T) (H : Heap) : RetG v H (.val v') H = (v' = v) := by
  simp only [RetG, Out.val.injEq, eq_iff_iff]
  exact ⟨fun h => h.1, fun h => ⟨h, [], by simp⟩⟩
theorem natOf_nat (k : IntKind) (n : Nat) : natOf (.int k (n : Int)) = some n := by simp [natOf]
theorem wrap64 {n : Int} (h : -9223372036854775808 ≤ n ∧ n < 9223372036854775808) : IntKind.i64.wrap n = n := by
  unfold IntKind.wrap
  simp only [IntKind.signed, IntKind.bits]
  simp
  omega
theorem wrapu64 {n : Int} (h : 0 ≤ n ∧ n < 18446744073709551616) : IntKind.u64.wrap n = n := by
  unfold IntKind.wrap
  simp only [IntKind.signed, IntKind.bits]
  simp
  omega
theorem wrap_succ {i : Nat} (h : i < 9223372036854775807) : IntKind.i64.wrap ((i : Int) + 1) = ((i + 1 : Nat) : Int) := by rw [wrap64 (by omega)]; simp
theorem wrap_pred {i : Nat} (h : i < 9223372036854775807) (h1 : 1 ≤ i) : IntKind.i64.wrap ((i : Int) - 1) = ((i - 1 : Nat) : Int) := by rw [wrap64 (by omega)]; omega
theorem iad_map {α : Type} {l : List α} {enc : α → List T} {k : SK} {i n : Nat} {x : α} (h : l[i]? = some x) (hn : (enc x).length = n) (h0 : n ≠ 0) : iadT n i (.sl k (l.map enc)) = some (.iptr (enc x)) := by
  simp [iadT, h, hn, h0]
theorem ldc1 (H : Heap) (v : T) : ldc H 1 (.iptr [v]) = some [v] := rfl
theorem val1 (v : T) : valOf false [v] = some v := rfl
theorem valA (cs : List T) : valOf true cs = some (.agg cs) := rfl
theorem dlt (a b : Nat) : decide ((a : Int) < (b : Int)) = decide (a < b) := by simp
theorem dle (a b : Nat) : decide ((a : Int) ≤ (b : Int)) = decide (a ≤ b) := by simp
theorem deq (a b : Nat) : ((a : Int) == (b : Int)) = decide (a = b) := by rw [Bool.eq_iff_iff]; simp; omega
theorem dne (a b : Nat) : ((a : Int) != (b : Int)) = !decide (a = b) := by rw [Bool.eq_iff_iff]; simp; omega
end Go.Rmp
end

section
namespace Go.Rmp
theorem bl_irr : ∀ (a : List UInt8), Op.bytesLess a a = false
  | [] => rfl
  | x :: a => by simp [Op.bytesLess, bl_irr a]
theorem bl_trans : ∀ (a b c : List UInt8), Op.bytesLess a b = true → Op.bytesLess b c = true → Op.bytesLess a c = true
  | _, [], _, h, _ => by cases ‹List UInt8› <;> simp [Op.bytesLess] at h
  | _, _ :: _, [], _, h => by simp [Op.bytesLess] at h
  | [], _ :: _, _ :: _, _, _ => rfl
  | x :: a, y :: b, z :: c, h1, h2 => by
    simp only [Op.bytesLess, Bool.or_eq_true, decide_eq_true_eq, Bool.and_eq_true, beq_iff_eq] at h1 h2 ⊢
    rcases h1 with h1 | ⟨rfl, h1⟩
    · rcases h2 with h2 | ⟨rfl, h2⟩
      · exact .inl (UInt8.lt_trans h1 h2)
      · exact .inl h1
    · rcases h2 with h2 | ⟨rfl, h2⟩
      · exact .inl h2
      · exact .inr ⟨rfl, bl_trans a b c h1 h2⟩
theorem bl_tri : ∀ (a b : List UInt8), Op.bytesLess a b = false → Op.bytesLess b a = false → a = b
  | [], [], _, _ => rfl
  | [], _ :: _, h, _ => by simp [Op.bytesLess] at h
  | _ :: _, [], _, h => by simp [Op.bytesLess] at h
  | x :: a, y :: b, h1, h2 => by
    simp only [Op.bytesLess, Bool.or_eq_false_iff, decide_eq_false_iff_not, Bool.and_eq_false_iff, beq_eq_false_iff_ne] at h1 h2
    have e : x = y := by
      have a1 := h1.1; have a2 := h2.1
      exact UInt8.le_antisymm (UInt8.not_lt.1 a2) (UInt8.not_lt.1 a1)
    subst e
    rw [bl_tri a b (h1.2.resolve_left (fun h => h rfl)) (h2.2.resolve_left (fun h => h rfl))]
theorem toList_inj {a b : ByteArray} (h : a.toList = b.toList) : a = b := by
  have e : ∀ c : ByteArray, c.toList = c.data.toList := fun c => Go.ByteArray.toList_eq c
  rw [e, e] at h
  cases a; cases b
  simp only [ByteArray.mk.injEq]
  exact Array.toList_inj.1 h
theorem strEq_eq (a b : ByteArray) : strEq a b = decide (a = b) := by
  unfold strEq
  rw [Bool.eq_iff_iff]
  simp only [beq_iff_eq, decide_eq_true_eq]
  exact ⟨toList_inj, fun h => by rw [h]⟩
theorem lt_irr (a : ByteArray) : strLt a a = false := bl_irr _
theorem lt_trans' {a b c : ByteArray} (h1 : strLt a b = true) (h2 : strLt b c = true) : strLt a c = true := bl_trans _ _ _ h1 h2
theorem lt_tri {a b : ByteArray} (h1 : strLt a b = false) (h2 : strLt b a = false) : a = b := toList_inj (bl_tri _ _ h1 h2)
theorem lt_asymm {a b : ByteArray} (h : strLt a b = true) : strLt b a = false := by
  cases e : strLt b a with
  | false => rfl
  | true => have := lt_trans' h e; rw [lt_irr] at this; cases this
theorem not_le (a b : ByteArray) : (!(strLt b a || strEq b a)) = strLt a b := by
  cases h : strLt a b with
  | true =>
    have h1 := lt_asymm h
    have h2 : strEq b a = false := by rw [strEq_eq]; simp; rintro rfl; rw [lt_irr] at h; cases h
    simp [h1, h2]
  | false =>
    cases h1 : strLt b a with
    | true => simp
    | false => have := lt_tri h h1; subst this; simp [strEq_eq]
end Go.Rmp
end

section
namespace Go.Rmp
def At (H : Heap) (P : Heap → Prop) : Prop := P H
theorem At.i {H : Heap} {P : Heap → Prop} (h : P H) : At H P := h
def Ext (H H' : Heap) : Prop := ∃ m, H' = H ++ m
theorem Ext.rfl' {H : Heap} : Ext H H := ⟨[], by simp⟩
theorem Ext.trans {H H' H'' : Heap} (h : Ext H H') (h' : Ext H' H'') : Ext H H'' := by
  obtain ⟨a, rfl⟩ := h; obtain ⟨b, rfl⟩ := h'; exact ⟨a ++ b, by simp⟩
theorem Ext.app {H H' : Heap} (h : Ext H H') (l : Heap) : Ext H (H' ++ l) := h.trans ⟨l, rfl⟩
theorem Ext.set {H H' : Heap} (h : Ext H H') {b : Nat} (hb : H.length ≤ b) (x : B) : Ext H (H'.set b x) := by
  obtain ⟨m, rfl⟩ := h
  exact ⟨m.set (b - H.length) x, by rw [List.set_append_right _ _ hb]⟩
theorem Ext.get {H H' : Heap} (h : Ext H H') {b : Nat} {x : B} (hx : H[b]? = some x) : H'[b]? = some x := by
  obtain ⟨m, rfl⟩ := h
  have := (List.getElem?_eq_some_iff.1 hx).1
  rw [List.getElem?_append_left this]; exact hx
theorem Ext.len {H H' : Heap} (h : Ext H H') : H.length ≤ H'.length := by obtain ⟨m, rfl⟩ := h; simp
theorem glt {H : Heap} {b : Nat} {x : B} (hx : H[b]? = some x) : b < H.length := (List.getElem?_eq_some_iff.1 hx).1
theorem retg_ext {v v' : T} {H H' : Heap} (h : Ext H H') : RetG v H (.val v') H' = (v' = v) := by
  simp only [RetG, Out.val.injEq, eq_iff_iff]; exact ⟨fun x => x.1, fun x => ⟨x, h⟩⟩
theorem g_tail {H l : Heap} {x : B} {b : Nat} (h : b = H.length) : (H ++ x :: l)[b]? = some x := by subst h; simp
theorem g_app {H l : Heap} {b : Nat} (h : b < H.length) : (H ++ l)[b]? = H[b]? := by rw [List.getElem?_append_left h]
theorem g_eq {H : Heap} {x : B} {b : Nat} (h : b < H.length) : (H.set b x)[b]? = some x := by simp [h]
theorem g_ne {H : Heap} {x : B} {b c : Nat} (h : b ≠ c) : (H.set b x)[c]? = H[c]? := by simp [h]
theorem s_tail {H l : Heap} {x y : B} {b : Nat} (h : b = H.length) : (H ++ x :: l).set b y = H ++ y :: l := by subst h; simp
theorem s_app {H l : Heap} {x : B} {b : Nat} (h : b < H.length) : (H ++ l).set b x = H.set b x ++ l := by rw [List.set_append_left _ _ h]
theorem l_app {H l : Heap} {b : Nat} (h : b < H.length) : (b < (H ++ l).length) = True := by simp; omega
theorem l_set {H : Heap} {x : B} {b c : Nat} : (b < (H.set c x).length) = (b < H.length) := by simp
theorem e_set {H : Heap} {x : B} {b c : Nat} : (b = (H.set c x).length) = (b = H.length) := by simp
def ldcB (n off : Nat) : Option B → Option (List T)
  | some (.cells cs) => if off + n ≤ cs.length then some ((cs.drop off).take n) else none
  | some (.fz cs) => if off + n ≤ cs.length then some ((cs.drop off).take n) else none
  | _ => none
theorem ldc_ptr (H : Heap) (n b off : Nat) : ldc H n (.ptr b off) = ldcB n off H[b]? := by
  simp only [ldc, ldcB]; rfl
theorem ldc_iptr (H : Heap) (n : Nat) (cs : List T) : ldc H n (.iptr cs) = if n ≤ cs.length then some (cs.take n) else none := rfl
theorem ldcB_c (n off : Nat) (cs : List T) : ldcB n off (some (.cells cs)) = if off + n ≤ cs.length then some ((cs.drop off).take n) else none := rfl
def stcB (H : Heap) (b : Nat) (vs : List T) (off : Nat) : Option B → Option Heap
  | some (.cells cs) => if off + vs.length ≤ cs.length then some (H.set b (.cells (cs.take off ++ vs ++ cs.drop (off + vs.length)))) else none
  | _ => none
theorem stc_ptr (H : Heap) (vs : List T) (b off : Nat) : stc H vs (.ptr b off) = stcB H b vs off H[b]? := by
  simp only [stc, stcB]; rfl
theorem stcB_c (H : Heap) (b : Nat) (vs : List T) (off : Nat) (cs : List T) : stcB H b vs off (some (.cells cs)) = if off + vs.length ≤ cs.length then some (H.set b (.cells (cs.take off ++ vs ++ cs.drop (off + vs.length)))) else none := rfl
theorem fad_ptr (off b o : Nat) : fadT off (.ptr b o) = some (.ptr b (o + off)) := rfl
def exitQ (id : Nat) (P : Regs → Heap → Prop) (Q : Out → Heap → Prop) : Out → Heap → Prop
  | .ex (.exit i) R, H => if i = id then P R H else Q (.ex (.exit i) R) H
  | o, H => Q o H
theorem ex_n (id : Nat) (P : Regs → Heap → Prop) (Q : Out → Heap → Prop) (R : Regs) (H : Heap) : exitQ id P Q (.ex .normal R) H = Q (.ex .normal R) H := rfl
theorem ex_r (id : Nat) (P : Regs → Heap → Prop) (Q : Out → Heap → Prop) (R : Regs) (H : Heap) : exitQ id P Q (.ex .ret R) H = Q (.ex .ret R) H := rfl
theorem ex_e (id i : Nat) (P : Regs → Heap → Prop) (Q : Out → Heap → Prop) (R : Regs) (H : Heap) : exitQ id P Q (.ex (.exit i) R) H = if i = id then P R H else Q (.ex (.exit i) R) H := rfl
def mlook {α β : Type} [DecidableEq α] (es : List (α × β)) (k : α) : Option β := (es.find? fun e => decide (k = e.1)).map (·.2)
def mput {α β : Type} [DecidableEq α] (es : List (α × β)) (k : α) (v : β) : List (α × β) :=
  match es.findIdx? fun e => decide (k = e.1) with
  | some i => es.set i (k, v)
  | none => es ++ [(k, v)]
section
variable {α β : Type} [DecidableEq α]
theorem mlook_nil (k : α) : mlook ([] : List (α × β)) k = none := rfl
theorem mlook_cons (e : α × β) (es : List (α × β)) (k : α) : mlook (e :: es) k = if k = e.1 then some e.2 else mlook es k := by
  unfold mlook; rw [List.find?_cons]; by_cases h : k = e.1 <;> simp [h]
theorem mput_nil (k : α) (v : β) : mput [] k v = [(k, v)] := rfl
theorem mput_cons (e : α × β) (es : List (α × β)) (k : α) (v : β) : mput (e :: es) k v = if k = e.1 then (k, v) :: es else e :: mput es k v := by
  unfold mput; rw [List.findIdx?_cons]
  by_cases h : k = e.1
  · simp [h]
  · simp only [h, decide_false, if_false, Bool.false_eq_true]
    cases List.findIdx? (fun e => decide (k = e.1)) es <;> simp
theorem mlook_put (es : List (α × β)) (k k' : α) (v : β) : mlook (mput es k v) k' = if k' = k then some v else mlook es k' := by
  induction es with
  | nil => rw [mput_nil, mlook_cons]
  | cons e es ih =>
    rw [mput_cons]
    by_cases h : k = e.1
    · simp only [h, if_true, mlook_cons]; by_cases h' : k' = e.1 <;> simp [h']
    · simp only [h, if_false, mlook_cons, ih]
      by_cases h' : k' = e.1
      · subst h'; simp [Ne.symm h]
      · simp [h']
theorem mlook_idx (es : List (α × β)) (k : α) : mlook es k = match es.findIdx? fun e => decide (k = e.1) with
    | some i => (es[i]?).map (·.2)
    | none => none := by
  induction es with
  | nil => rfl
  | cons e es ih =>
    rw [mlook_cons, List.findIdx?_cons]
    by_cases h : k = e.1
    · simp [h]
    · simp only [h, if_false, decide_false, Bool.false_eq_true, ih]
      cases List.findIdx? (fun e => decide (k = e.1)) es <;> simp
theorem idx_some {es : List (α × β)} {k : α} {i : Nat} (h : (es.findIdx? fun e => decide (k = e.1)) = some i) : ∃ v, es[i]? = some (k, v) := by
  rw [List.findIdx?_eq_some_iff_getElem] at h
  obtain ⟨hi, h, -⟩ := h
  refine ⟨es[i].2, ?_⟩
  rw [List.getElem?_eq_getElem hi]
  simp only [decide_eq_true_eq] at h
  rw [h]
end
def encK {α : Type} (ek : α → T) (es : List (α × T)) : List (T × T) := es.map fun e => (ek e.1, e.2)
structure KeyOk {α : Type} [DecidableEq α] (kt : KT) (ek : α → T) : Prop where
  has : ∀ a, (ek a).hasK kt = true
  eq : ∀ a b, keyEq (ek a) (ek b) = some (decide (a = b))
section
variable {α : Type} [DecidableEq α] {kt : KT} {ek : α → T}
theorem mfindK (ho : KeyOk kt ek) (k : α) : ∀ es : List (α × T), mfind (ek k) (encK ek es) = some (es.findIdx? fun e => decide (k = e.1))
  | [] => rfl
  | e :: es => by
    have ih := mfindK ho k es
    simp only [encK] at ih ⊢
    simp only [List.map_cons, mfind, ho.eq, List.findIdx?_cons]
    cases h : decide (k = e.1)
    · simp [ih]
    · simp
def lkpT (o : Option T) (z : T) (ok : Bool) : T := match o with
  | some v => if ok then .tup [v, .bool true] else v
  | none => if ok then .tup [z, .bool false] else z
def lkpB (kt : KT) (z : T) (ok : Bool) (H : Heap) (mb : Option B) (k : T) : Option (T × Heap) := match mb with
  | some (.map es) => if k.hasK kt then match mfind k es with
    | some (some i) => match es[i]? with
      | some e => some (if ok then .tup [e.2, .bool true] else e.2, H)
      | none => none
    | some none => some (if ok then .tup [z, .bool false] else z, H)
    | none => none else none
  | some (.rmap es _ _ _) => if k.hasK kt then match mfind k es with
    | some (some i) => match es[i]? with
      | some e => some (if ok then .tup [e.2, .bool true] else e.2, H)
      | none => none
    | some none => some (if ok then .tup [z, .bool false] else z, H)
    | none => none else none
  | _ => none
def lkpV (kt : KT) (z : T) (ok : Bool) (H : Heap) (m k : T) : Option (T × Heap) := match m with
  | .map b => lkpB kt z ok H H[b]? k
  | .nilm => if k.hasK kt then some (if ok then .tup [z, .bool false] else z, H) else none
  | _ => none
theorem ev_lkp (R : Regs) (H : Heap) (kt : KT) (z : T) (ok : Bool) (m k : X) : evop R H (.lkp kt z ok m k) = lkpV kt z ok H (m.ev R) (k.ev R) := by
  unfold lkpV lkpB
  simp only [evop]
  cases h1 : (k.ev R).hasK kt
  · simp only [Bool.false_eq_true, if_false]
    cases m.ev R with
    | map b => simp only; split <;> rfl
    | _ => rfl
  · simp only [if_true]
    cases m.ev R with
    | map b =>
      simp only [mapEs]
      cases H[b]? with
      | none => rfl
      | some x => cases x <;> rfl
    | nilm => simp only [mapEs, mfind]
    | _ => rfl
theorem lkpV_map (kt : KT) (z : T) (ok : Bool) (H : Heap) (b : Nat) (k : T) : lkpV kt z ok H (.map b) k = lkpB kt z ok H H[b]? k := rfl
theorem lkpB_K (ho : KeyOk kt ek) (z : T) (ok : Bool) (H : Heap) (es : List (α × T)) (s : α) : lkpB kt z ok H (some (.map (encK ek es))) (ek s) = some (lkpT (mlook es s) z ok, H) := by
  simp only [lkpB, ho.has, mfindK ho, if_true, mlook_idx]
  cases h : List.findIdx? (fun e => decide (s = e.1)) es with
  | none => cases ok <;> rfl
  | some i =>
    obtain ⟨v, hv⟩ := idx_some h
    have : (encK ek es)[i]? = some (ek s, v) := by simp [encK, hv]
    simp only [this, hv, lkpT, Option.map_some]
def upmB (kt : KT) (H : Heap) (b : Nat) (mb : Option B) (k v : T) : Option (T × Heap) := match mb with
  | some (.map es) => if k.hasK kt then match mfind k es with
    | some (some i) => some (undefT, H.set b (.map (es.set i (k, v))))
    | some none => some (undefT, H.set b (.map (es ++ [(k, v)])))
    | none => none else none
  | _ => none
def upmV (kt : KT) (H : Heap) (m k v : T) : Option (T × Heap) := match m with
  | .map b => upmB kt H b H[b]? k v
  | _ => none
theorem ev_upm (R : Regs) (H : Heap) (kt : KT) (m k v : X) : evop R H (.upm kt m k v) = upmV kt H (m.ev R) (k.ev R) (v.ev R) := by
  unfold upmV upmB
  simp only [evop]
  cases m.ev R with
  | map b =>
    simp only
    cases h1 : (k.ev R).hasK kt
    · simp only [Bool.false_eq_true, if_false]; split <;> rfl
    · simp only [if_true]
      cases H[b]? with
      | none => rfl
      | some x => cases x <;> rfl
  | _ => rfl
def delB (kt : KT) (H : Heap) (b : Nat) (mb : Option B) (k : T) : Option (T × Heap) := match mb with
  | some (.map es) => if k.hasK kt then match mfind k es with
    | some (some i) => some (.tup [], H.set b (.map (es.eraseIdx i)))
    | some none => some (.tup [], H)
    | none => none else none
  | _ => none
def delV (kt : KT) (H : Heap) (m k : T) : Option (T × Heap) := match m with
  | .map b => delB kt H b H[b]? k
  | _ => none
theorem ev_del (R : Regs) (H : Heap) (kt : KT) (m k : X) : evop R H (.del kt m k) = delV kt H (m.ev R) (k.ev R) := by
  unfold delV delB
  simp only [evop]
  cases m.ev R with
  | map b =>
    simp only
    cases h1 : (k.ev R).hasK kt
    · simp only [Bool.false_eq_true, if_false]; split <;> rfl
    · simp only [if_true]
      cases H[b]? with
      | none => rfl
      | some x => cases x <;> rfl
  | _ => rfl
theorem delV_map (kt : KT) (H : Heap) (b : Nat) (k : T) : delV kt H (.map b) k = delB kt H b H[b]? k := rfl
def rngB (H : Heap) (b : Nat) : Option B → Option (T × Heap)
  | some (.map es) => some (.ptr H.length 0, H.set b (.rmap es (List.range es.length) H.length none) ++ [.itr b])
  | some (.rmap es _ _ _) => some (.ptr H.length 0, H.set b (.rmap es (List.range es.length) H.length none) ++ [.itr b])
  | _ => none
def rngV (H : Heap) : T → Option (T × Heap)
  | .map b => rngB H b H[b]?
  | _ => none
theorem ev_rng (R : Regs) (H : Heap) (x : X) : evop R H (.rng x) = rngV H (x.ev R) := by
  simp only [evop]
  cases x.ev R with
  | map b =>
    simp only [mapEs, rngV]
    cases H[b]? with
    | none => rfl
    | some y => cases y <;> rfl
  | _ => rfl
theorem rngV_map (H : Heap) (b : Nat) : rngV H (.map b) = rngB H b H[b]? := rfl
theorem rngB_M (H : Heap) (b : Nat) (es : List (T × T)) : rngB H b (some (.map es)) = some (.ptr H.length 0, H.set b (.rmap es (List.range es.length) H.length none) ++ [.itr b]) := rfl
theorem ev_nxt (R : Regs) (H : Heap) (x : X) : evop R H (.nxt x) = none := rfl
def entC (H : Heap) (bi : Nat) : Option B → Option (T × Heap)
  | some (.rmap es _ bi' (some c)) => if bi' = bi then (es[c]?).map fun e => (.tup [e.1, e.2], H) else none
  | _ => none
def entB (H : Heap) (bi : Nat) : Option B → Option (T × Heap)
  | some (.itr b) => entC H bi H[b]?
  | _ => none
def entV (H : Heap) : T → Option (T × Heap)
  | .ptr bi 0 => entB H bi H[bi]?
  | _ => none
theorem ev_ent (R : Regs) (H : Heap) (x : X) : evop R H (.ent x) = entV H (x.ev R) := by
  simp only [evop]
  cases x.ev R with
  | ptr bi o =>
    cases o with
    | zero =>
      simp only [entV]
      cases H[bi]? with
      | none => rfl
      | some y => cases y with
        | itr b =>
          simp only [entB]
          cases H[b]? with
          | none => rfl
          | some z => cases z with
            | rmap es ix bi' cur => cases cur <;> rfl
            | _ => rfl
        | _ => rfl
    | succ _ => rfl
  | _ => rfl
theorem entV_ptr (H : Heap) (bi : Nat) : entV H (.ptr bi 0) = entB H bi H[bi]? := rfl
theorem entB_I (H : Heap) (bi b : Nat) : entB H bi (some (.itr b)) = entC H bi H[b]? := rfl
theorem entC_R (H : Heap) (bi : Nat) (es : List (T × T)) (ix : List Nat) (c : Nat) : entC H bi (some (.rmap es ix bi (some c))) = (es[c]?).map fun e => (.tup [e.1, e.2], H) := by simp only [entC, if_true]
def clrB (H : Heap) (b off len n n' : Nat) (z : List T) : Option B → Option (T × Heap)
  | some (.cells cs) => if n' = n ∧ z.length = n ∧ off + len * n ≤ cs.length then some (undefT, H.set b (.cells (cs.take off ++ (List.replicate len z).flatten ++ cs.drop (off + len * n)))) else none
  | _ => none
def clrV (H : Heap) (n : Nat) (z : List T) : T → Option (T × Heap)
  | .msl b off len n' => clrB H b off len n n' z H[b]?
  | _ => none
theorem ev_clr (R : Regs) (H : Heap) (n : Nat) (z : List T) (x : X) : evop R H (.clr n z x) = clrV H n z (x.ev R) := by
  simp only [evop]
  cases x.ev R with
  | msl b off len n' =>
    simp only [clrV]
    cases H[b]? with
    | none => rfl
    | some y => cases y <;> rfl
  | _ => rfl
theorem clrV_msl (H : Heap) (n : Nat) (z : List T) (b off len n' : Nat) : clrV H n z (.msl b off len n') = clrB H b off len n n' z H[b]? := rfl
theorem upmV_map (kt : KT) (H : Heap) (b : Nat) (k v : T) : upmV kt H (.map b) k v = upmB kt H b H[b]? k v := rfl
theorem upmB_K (ho : KeyOk kt ek) (H : Heap) (b : Nat) (es : List (α × T)) (s : α) (v : T) : upmB kt H b (some (.map (encK ek es))) (ek s) v = some (undefT, H.set b (.map (encK ek (mput es s v)))) := by
  simp only [upmB, ho.has, mfindK ho, if_true, mput]
  cases h : List.findIdx? (fun e => decide (s = e.1)) es with
  | none => simp [encK]
  | some i => simp [encK]
end
theorem kStr : KeyOk (.sc .str) T.str := ⟨fun _ => rfl, fun a b => by simp only [keyEq, eqSc, strEq_eq]⟩
def kU (n : Nat) : T := .int .u64 n
theorem kNat : KeyOk (.sc .int) kU := ⟨fun _ => rfl, fun a b => by simp only [kU, keyEq, eqSc, if_true, deq]⟩
theorem lkpB_M (z : T) (ok : Bool) (H : Heap) (es : List (ByteArray × T)) (s : ByteArray) : lkpB (.sc .str) z ok H (some (.map (encK T.str es))) (.str s) = some (lkpT (mlook es s) z ok, H) := lkpB_K kStr z ok H es s
theorem lkpB_N (z : T) (ok : Bool) (H : Heap) (es : List (Nat × T)) (s : Nat) : lkpB (.sc .int) z ok H (some (.map (encK kU es))) (.int .u64 s) = some (lkpT (mlook es s) z ok, H) := lkpB_K kNat z ok H es s
theorem upmB_M (H : Heap) (b : Nat) (es : List (ByteArray × T)) (s : ByteArray) (v : T) : upmB (.sc .str) H b (some (.map (encK T.str es))) (.str s) v = some (undefT, H.set b (.map (encK T.str (mput es s v)))) := upmB_K kStr H b es s v
theorem upmB_N (H : Heap) (b : Nat) (es : List (Nat × T)) (s : Nat) (v : T) : upmB (.sc .int) H b (some (.map (encK kU es))) (.int .u64 s) v = some (undefT, H.set b (.map (encK kU (mput es s v)))) := upmB_K kNat H b es s v
theorem lkp_some (v z : T) : lkpT (some v) z false = v := rfl
theorem lkp_none (z : T) : lkpT none z false = z := rfl
theorem lkp_some2 (v z : T) : lkpT (some v) z true = .tup [v, .bool true] := rfl
theorem lkp_none2 (z : T) : lkpT none z true = .tup [z, .bool false] := rfl
end Go.Rmp
end

section
namespace Go.Rmp
theorem cells_agg (l : List T) : (T.agg l).cells? = some l := rfl
theorem cells_int (k : IntKind) (n : Int) : (T.int k n).cells? = some [.int k n] := rfl
theorem cells_str (s : ByteArray) : (T.str s).cells? = some [.str s] := rfl
theorem cells_bool (s : Bool) : (T.bool s).cells? = some [.bool s] := rfl
theorem cells_sl (k : SK) (l : List (List T)) : (T.sl k l).cells? = some [.sl k l] := rfl
theorem cells_msl (a b c d : Nat) : (T.msl a b c d).cells? = some [.msl a b c d] := rfl
theorem cells_map (b : Nat) : (T.map b).cells? = some [.map b] := rfl
theorem cells_ptr (a b : Nat) : (T.ptr a b).cells? = some [.ptr a b] := rfl
theorem cells_nilm : (T.nilm).cells? = some [.nilm] := rfl
theorem cells_nilp : (T.nilp).cells? = some [.nilp] := rfl
theorem tup1 (v : T) : tupT [v] = v := rfl
theorem tup2 (v w : T) : tupT [v, w] = .tup [v, w] := rfl
theorem tup3 (v w x : T) : tupT [v, w, x] = .tup [v, w, x] := rfl
theorem er_int (k : IntKind) (n : Int) : (T.int k n).erase = .int k n := rfl
theorem er_str (s : ByteArray) : (T.str s).erase = .str s := rfl
theorem er_bool (s : Bool) : (T.bool s).erase = .bool s := rfl
theorem er_sl (k : SK) (l : List (List T)) : (T.sl k l).erase = .sl .arg l := rfl
theorem er_ptr (a b : Nat) : (T.ptr a b).erase = .ptr a b := rfl
theorem er_map (b : Nat) : (T.map b).erase = .map b := rfl
theorem er_nilm : (T.nilm).erase = .nilm := rfl
theorem er_nilp : (T.nilp).erase = .nilp := rfl
theorem el_sl (H : Heap) (n : Nat) (k : SK) (es : List (List T)) : elemsOf H n (.sl k es) = if es.all (·.length == n) then some es else none := rfl
theorem want_n (R : Regs) : wants R Option.none = true := rfl
theorem tr_imp (p : Prop) : (True → p) = p := by simp
theorem im_tr (p : Prop) : (p → True) = True := by simp
theorem imp_t (p : Prop) : (true = true → p) = p := by simp
theorem imp_f (p : Prop) : (false = true → p) = True := by simp
theorem un_not (b : Bool) : unT .not (.bool b) = some (.bool !b) := rfl
theorem bi_add (k : IntKind) (a b : Int) : binT .add (.int k a) (.int k b) = some (.int k (k.wrap (a + b))) := by simp [binT]
theorem bi_sub (k : IntKind) (a b : Int) : binT .sub (.int k a) (.int k b) = some (.int k (k.wrap (a - b))) := by simp [binT]
theorem bi_mul (k : IntKind) (a b : Int) : binT .mul (.int k a) (.int k b) = some (.int k (k.wrap (a * b))) := by simp [binT]
theorem bi_quo (k : IntKind) (a b : Int) : binT .quo (.int k a) (.int k b) = if b = 0 then none else some (.int k (k.wrap (a.tdiv b))) := by simp [binT]
theorem bi_rem (k : IntKind) (a b : Int) : binT .rem (.int k a) (.int k b) = if b = 0 then none else some (.int k (a.tmod b)) := by simp [binT]
theorem bi_shl (k k' : IntKind) (a b : Int) : binT .shl (.int k a) (.int k' b) = if b < 0 then none else some (.int k (k.wrap (a * 2 ^ (min b.toNat k.bits)))) := by simp [binT]
theorem bi_shr (k k' : IntKind) (a b : Int) : binT .shr (.int k a) (.int k' b) = if b < 0 then none else some (.int k (a.fdiv (2 ^ (min b.toNat k.bits)))) := by simp [binT]
theorem bi_and (k : IntKind) (a b : Int) : binT .and (.int k a) (.int k b) = some (.int k (k.wrap (BitVec.ofInt k.bits a &&& BitVec.ofInt k.bits b).toNat)) := by simp [binT]
theorem bi_or (k : IntKind) (a b : Int) : binT .or (.int k a) (.int k b) = some (.int k (k.wrap (BitVec.ofInt k.bits a ||| BitVec.ofInt k.bits b).toNat)) := by simp [binT]
theorem bi_xor (k : IntKind) (a b : Int) : binT .xor (.int k a) (.int k b) = some (.int k (k.wrap (BitVec.ofInt k.bits a ^^^ BitVec.ofInt k.bits b).toNat)) := by simp [binT]
theorem bi_eql (k : IntKind) (a b : Int) : binT .eql (.int k a) (.int k b) = some (.bool (a == b)) := by simp [binT]
theorem bi_neq (k : IntKind) (a b : Int) : binT .neq (.int k a) (.int k b) = some (.bool (a != b)) := by simp [binT]
theorem bi_lss (k : IntKind) (a b : Int) : binT .lss (.int k a) (.int k b) = some (.bool (a < b)) := by simp [binT]
theorem bi_leq (k : IntKind) (a b : Int) : binT .leq (.int k a) (.int k b) = some (.bool (a ≤ b)) := by simp [binT]
theorem bi_gtr (k : IntKind) (a b : Int) : binT .gtr (.int k a) (.int k b) = some (.bool (b < a)) := by simp [binT]
theorem bi_geq (k : IntKind) (a b : Int) : binT .geq (.int k a) (.int k b) = some (.bool (b ≤ a)) := by simp [binT]
theorem bs_eql (a b : ByteArray) : binT .eql (.str a) (.str b) = some (.bool (decide (a = b))) := by simp [binT, strEq_eq]
theorem bs_neq (a b : ByteArray) : binT .neq (.str a) (.str b) = some (.bool (!decide (a = b))) := by simp [binT, strEq_eq]
theorem bs_lss (a b : ByteArray) : binT .lss (.str a) (.str b) = some (.bool (strLt a b)) := by rfl
theorem bs_leq (a b : ByteArray) : binT .leq (.str a) (.str b) = some (.bool (!strLt b a)) := by have := not_le b a; simp only [binT, Option.some.injEq, T.bool.injEq]; rw [← this]; simp
theorem bs_gtr (a b : ByteArray) : binT .gtr (.str a) (.str b) = some (.bool (strLt b a)) := by have := not_le b a; simp only [binT, Option.some.injEq, T.bool.injEq]; exact this
theorem bs_geq (a b : ByteArray) : binT .geq (.str a) (.str b) = some (.bool (!strLt a b)) := by rfl
theorem bs_add (a b : ByteArray) : binT .add (.str a) (.str b) = if a.size + b.size ≤ 9223372036854775807 then some (.str (a ++ b)) else none := rfl
theorem lit_lt (a b : Nat) : decide ((a : Int) < (no_index (OfNat.ofNat b))) = decide (a < OfNat.ofNat b) := dlt a b
theorem lit_gt (a b : Nat) : decide ((no_index (OfNat.ofNat b) : Int) < (a : Int)) = decide (OfNat.ofNat b < a) := dlt b a
theorem lit_le (a b : Nat) : decide ((a : Int) ≤ (no_index (OfNat.ofNat b))) = decide (a ≤ OfNat.ofNat b) := dle a b
theorem lit_ge (a b : Nat) : decide ((no_index (OfNat.ofNat b) : Int) ≤ (a : Int)) = decide (OfNat.ofNat b ≤ a) := dle b a
theorem lit_eq (a b : Nat) : ((a : Int) == (no_index (OfNat.ofNat b))) = decide (a = OfNat.ofNat b) := deq a b
theorem lit_ne (a b : Nat) : ((a : Int) != (no_index (OfNat.ofNat b))) = !decide (a = OfNat.ofNat b) := dne a b
theorem dge (a b : Nat) : decide ((a : Int) ≥ (b : Int)) = decide (b ≤ a) := by simp
set_option linter.defProp false in
theorem litB_2 (n : Nat) (a b : T) (z cs : List T) : litB n (a :: b :: z) cs = .cells cs := by
  have : litz n (a :: b :: z) = false := by
    unfold litz
    split
    · rename_i h; cases h
    · rfl
  simp only [litB, this, Bool.false_eq_true, if_false]
theorem litB_u64 (n : Nat) (a : Int) (cs : List T) : litB n [.int .u64 a] cs = .cells cs := rfl
theorem litB_i64 (n : Nat) (a : Int) (cs : List T) : litB n [.int .i64 a] cs = .cells cs := rfl
theorem litB_str (n : Nat) (a : ByteArray) (cs : List T) : litB n [.str a] cs = .cells cs := rfl
theorem litB_sl (n : Nat) (k : SK) (es : List (List T)) (cs : List T) : litB n [.sl k es] cs = .cells cs := rfl
theorem litB_0 (a : Int) (cs : List T) : litB 0 [.int .u8 a] cs = .cells cs := rfl
set_option maxRecDepth 5000 in
theorem S1 : type_of% (And.intro (@litB_2) <| And.intro (@litB_u64) <| And.intro (@litB_i64) <| And.intro (@litB_str) <| And.intro (@litB_sl) <| And.intro (@litB_0) <| And.intro (@b_vf) <| And.intro (@evop.eq_37) <| And.intro (@evop.eq_38) <| And.intro (@evop.eq_43) <| And.intro (@evop.eq_44) <| And.intro (@evop.eq_45) <| And.intro (@ex_n) <| And.intro (@ex_r) <| And.intro (@ex_e) <| And.intro (@bnd.eq_1) <| And.intro (@bnd.eq_2) <| And.intro (@want_n) <| And.intro (@tr_imp) <| And.intro (@im_tr) <| And.intro (@imp_t) <| And.intro (@imp_f) <| And.intro (@step_n) <| And.intro (@List.nil_append.{0}) <| And.intro (@List.append_nil.{0}) <| And.intro (@List.cons_append.{0}) <| And.intro (@er_int) <| And.intro (@er_str) <| And.intro (@er_bool) <| And.intro (@er_sl) <| And.intro (@er_ptr) <| And.intro (@er_map) <| And.intro (@er_nilm) <| And.intro (@er_nilp) <| And.intro (@el_sl) <| And.intro (@partsT.eq_1) <| And.intro (@partsT.eq_2) <| And.intro (@fillT.eq_1) <| And.intro (@fillT.eq_2) <| And.intro (@fillE.eq_1) <| And.intro (@fillE.eq_2) <| And.intro (@fillM.eq_1) <| And.intro (@fillM.eq_2) <| And.intro (@List.replicate_zero.{0}) <| And.intro (@List.replicate_succ.{0}) <| And.intro (@List.set_cons_zero.{0}) <| And.intro (@List.set_cons_succ.{0}) <| And.intro (@List.all_cons.{0}) <| And.intro (@List.all_nil.{0}) <| And.intro (@Bool.and_true) <| And.intro (@Bool.true_and) <| And.intro (@ldc_iptr) <| And.intro (@ldc_ptr) <| And.intro (@ldcB_c) <| And.intro (@stc_ptr) <| And.intro (@stcB_c) <| And.intro (@fad_ptr) <| And.intro (@lit_lt) <| And.intro (@lit_gt) <| And.intro (@lit_le) <| And.intro (@lit_ge) <| And.intro (@lit_eq) <| And.intro (@lit_ne) <| And.intro (@b_nil) <| And.intro (@b_b) <| And.intro (@b_g) <| And.intro (@b_c) <| And.intro (@b_cg) <| And.intro (@step_s) <| And.intro (@grd_t) <| And.intro (@grd_f) <| And.intro (@grdc_t) <| And.intro (@grdc_f) <| And.intro (@c_skip) <| And.intro (@c_ops) <| And.intro (@norm_ap) <| And.intro (@c_seq) <| And.intro (@c_cond) <| And.intro (@c_block) <| And.intro (@c_exit) <| And.intro (@c_ret) <| And.intro (@c_loop) <| And.intro (@c_range) <| And.intro (@cont_ap) <| And.intro (@cond_t) <| And.intro (@cond_f) <| And.intro (@then_n) <| And.intro (@then_r) <| And.intro (@then_e) <| And.intro (@blk_n) <| And.intro (@blk_r) <| And.intro (@blk_e) <| And.intro (@Bool.false_eq_true) <| And.intro (@want_t) <| And.intro (@want_f) <| And.intro (@isT_b) <| And.intro (@isF_b) <| And.intro (@isT_u) <| And.intro (@isF_u) <| And.intro (@retg_val) <| And.intro (@retg_same) <| And.intro (@List.length_cons.{0}) <| And.intro (@List.length_nil.{0}) <| And.intro (@List.drop_succ_cons.{0}) <| And.intro (@List.drop_zero.{0}) <| And.intro (@List.take_succ_cons.{0}) <| And.intro (@List.take_zero.{0}) <| And.intro (@cells_agg) <| And.intro (@cells_int) <| And.intro (@cells_str) <| And.intro (@cells_bool) <| And.intro (@cells_sl) <| And.intro (@cells_msl) <| And.intro (@cells_map) <| And.intro (@cells_ptr) <| And.intro (@cells_nilm) <| And.intro (@cells_nilp) <| And.intro (@fadT.eq_1) <| And.intro (@fadT.eq_2) <| And.intro (@Nat.zero_add) <| And.intro (@ev_r) <| And.intro (@ev_c) <| And.intro (@stB.eq_1) <| And.intro (@stB.eq_2) <| And.intro (@updo_s) <| And.intro (@updo_n) <| And.intro (@upd_ap) <| And.intro (@regs0_0) <| And.intro (@regs0_1) <| And.intro (@regs0_2) <| And.intro (@regs0_3) <| And.intro (@regs0_4) <| And.intro (@true_and) <| And.intro (@and_true) <| And.intro (@Option.map_some.{0,0}) <| And.intro (@Option.bind_some.{0,0}) <| And.intro (@un_not) <| And.intro (@lenT.eq_1) <| And.intro (@lenT.eq_2) <| And.intro (@lenT.eq_3) <| And.intro (@lenT.eq_4) <| And.intro (@lenT.eq_5) <| And.intro (@natOf_nat) <| And.intro (@val1) <| And.intro (@valA) <| And.intro (@endQ.eq_1) <| And.intro (@endQ.eq_2) <| And.intro (@resT.eq_1) <| And.intro (@resL.eq_1) <| And.intro (@resL.eq_2) <| And.intro (@resV.eq_1) <| And.intro (@resV.eq_2) <| And.intro (@tup1) <| And.intro (@tup2) <| And.intro (@tup3) <| And.intro (@dlt) <| And.intro (@dle) <| And.intro (@deq) <| And.intro (@dne) <| And.intro (@List.map_cons.{0,0}) <| And.intro (@List.map_nil.{0,0}) <| And.intro (@decide_true) <| And.intro (@decide_false) <| And.intro (@strEq_eq) <| And.intro (@Bool.not_true) <| And.intro (@Bool.not_false) <| And.intro (@beq_self_eq_true.{0}) <| And.intro (@bne_self_eq_false.{0}) <| And.intro (@List.getElem?_cons_zero.{0}) <| And.intro (@List.getElem?_cons_succ.{0}) <| And.intro (@List.getElem?_nil.{0}) <| And.intro (@List.length_map.{0,0}) <| And.intro (@ret_val) <| And.intro (@T.bool.injEq) <| And.intro (@T.int.injEq) <| And.intro (@T.str.injEq) <| And.intro (@T.tup.injEq) <| And.intro (@evop.eq_1) <| And.intro (@evop.eq_2) <| And.intro (@evop.eq_3) <| And.intro (@evop.eq_4) <| And.intro (@evop.eq_5) <| And.intro (@evop.eq_6) <| And.intro (@evop.eq_7) <| And.intro (@evop.eq_8) <| And.intro (@evop.eq_9) <| And.intro (@evop.eq_10) <| And.intro (@evop.eq_11) <| And.intro (@evop.eq_12) <| And.intro (@evop.eq_13) <| And.intro (@evop.eq_14) <| And.intro (@evop.eq_15) <| And.intro (@evop.eq_16) <| And.intro (@evop.eq_17) <| And.intro (@evop.eq_18) <| And.intro (@evop.eq_19) <| And.intro (@evop.eq_20) <| And.intro (@evop.eq_21) <| And.intro (@evop.eq_22) <| And.intro (@evop.eq_23) <| And.intro (@evop.eq_24) <| And.intro (@evop.eq_25) <| And.intro (@evop.eq_26) <| And.intro (@ev_del) <| And.intro (@delV_map) <| And.intro (@ev_rng) <| And.intro (@rngV_map) <| And.intro (@rngB_M) <| And.intro (@ev_nxt) <| And.intro (@ev_ent) <| And.intro (@entV_ptr) <| And.intro (@entB_I) <| And.intro (@entC_R) <| And.intro (@ev_clr) <| And.intro (@clrV_msl) <| And.intro (@evop.eq_30) <| And.intro (@evop.eq_31) <| And.intro (@evop.eq_32) <| And.intro (@evop.eq_33) <| And.intro (@evop.eq_34) <| And.intro (@evop.eq_35) <| And.intro (@evop.eq_36) <| And.intro (@ev_lkp) <| And.intro (@ev_upm) <| And.intro (@lkpV_map) <| And.intro (@lkpB_M) <| And.intro (@lkpB_N) <| And.intro (@upmV_map) <| And.intro (@upmB_M) <| And.intro (@upmB_N) <| And.intro (@lkp_some) <| And.intro (@lkp_none) <| And.intro (@lkp_some2) <| And.intro (@lkp_none2) <| And.intro (@bi_add) <| And.intro (@bi_sub) <| And.intro (@bi_mul) <| And.intro (@bi_quo) <| And.intro (@bi_rem) <| And.intro (@bi_shl) <| And.intro (@bi_shr) <| And.intro (@bi_and) <| And.intro (@bi_or) <| And.intro (@bi_xor) <| And.intro (@bi_eql) <| And.intro (@bi_neq) <| And.intro (@bi_lss) <| And.intro (@bi_leq) <| And.intro (@bi_gtr) <| And.intro (@bi_geq) <| And.intro (@bs_eql) <| And.intro (@bs_neq) <| And.intro (@bs_lss) <| And.intro (@bs_leq) <| And.intro (@bs_gtr) <| And.intro (@bs_geq) <| (@bs_add)) := And.intro (@litB_2) <| And.intro (@litB_u64) <| And.intro (@litB_i64) <| And.intro (@litB_str) <| And.intro (@litB_sl) <| And.intro (@litB_0) <| And.intro (@b_vf) <| And.intro (@evop.eq_37) <| And.intro (@evop.eq_38) <| And.intro (@evop.eq_43) <| And.intro (@evop.eq_44) <| And.intro (@evop.eq_45) <| And.intro (@ex_n) <| And.intro (@ex_r) <| And.intro (@ex_e) <| And.intro (@bnd.eq_1) <| And.intro (@bnd.eq_2) <| And.intro (@want_n) <| And.intro (@tr_imp) <| And.intro (@im_tr) <| And.intro (@imp_t) <| And.intro (@imp_f) <| And.intro (@step_n) <| And.intro (@List.nil_append.{0}) <| And.intro (@List.append_nil.{0}) <| And.intro (@List.cons_append.{0}) <| And.intro (@er_int) <| And.intro (@er_str) <| And.intro (@er_bool) <| And.intro (@er_sl) <| And.intro (@er_ptr) <| And.intro (@er_map) <| And.intro (@er_nilm) <| And.intro (@er_nilp) <| And.intro (@el_sl) <| And.intro (@partsT.eq_1) <| And.intro (@partsT.eq_2) <| And.intro (@fillT.eq_1) <| And.intro (@fillT.eq_2) <| And.intro (@fillE.eq_1) <| And.intro (@fillE.eq_2) <| And.intro (@fillM.eq_1) <| And.intro (@fillM.eq_2) <| And.intro (@List.replicate_zero.{0}) <| And.intro (@List.replicate_succ.{0}) <| And.intro (@List.set_cons_zero.{0}) <| And.intro (@List.set_cons_succ.{0}) <| And.intro (@List.all_cons.{0}) <| And.intro (@List.all_nil.{0}) <| And.intro (@Bool.and_true) <| And.intro (@Bool.true_and) <| And.intro (@ldc_iptr) <| And.intro (@ldc_ptr) <| And.intro (@ldcB_c) <| And.intro (@stc_ptr) <| And.intro (@stcB_c) <| And.intro (@fad_ptr) <| And.intro (@lit_lt) <| And.intro (@lit_gt) <| And.intro (@lit_le) <| And.intro (@lit_ge) <| And.intro (@lit_eq) <| And.intro (@lit_ne) <| And.intro (@b_nil) <| And.intro (@b_b) <| And.intro (@b_g) <| And.intro (@b_c) <| And.intro (@b_cg) <| And.intro (@step_s) <| And.intro (@grd_t) <| And.intro (@grd_f) <| And.intro (@grdc_t) <| And.intro (@grdc_f) <| And.intro (@c_skip) <| And.intro (@c_ops) <| And.intro (@norm_ap) <| And.intro (@c_seq) <| And.intro (@c_cond) <| And.intro (@c_block) <| And.intro (@c_exit) <| And.intro (@c_ret) <| And.intro (@c_loop) <| And.intro (@c_range) <| And.intro (@cont_ap) <| And.intro (@cond_t) <| And.intro (@cond_f) <| And.intro (@then_n) <| And.intro (@then_r) <| And.intro (@then_e) <| And.intro (@blk_n) <| And.intro (@blk_r) <| And.intro (@blk_e) <| And.intro (@Bool.false_eq_true) <| And.intro (@want_t) <| And.intro (@want_f) <| And.intro (@isT_b) <| And.intro (@isF_b) <| And.intro (@isT_u) <| And.intro (@isF_u) <| And.intro (@retg_val) <| And.intro (@retg_same) <| And.intro (@List.length_cons.{0}) <| And.intro (@List.length_nil.{0}) <| And.intro (@List.drop_succ_cons.{0}) <| And.intro (@List.drop_zero.{0}) <| And.intro (@List.take_succ_cons.{0}) <| And.intro (@List.take_zero.{0}) <| And.intro (@cells_agg) <| And.intro (@cells_int) <| And.intro (@cells_str) <| And.intro (@cells_bool) <| And.intro (@cells_sl) <| And.intro (@cells_msl) <| And.intro (@cells_map) <| And.intro (@cells_ptr) <| And.intro (@cells_nilm) <| And.intro (@cells_nilp) <| And.intro (@fadT.eq_1) <| And.intro (@fadT.eq_2) <| And.intro (@Nat.zero_add) <| And.intro (@ev_r) <| And.intro (@ev_c) <| And.intro (@stB.eq_1) <| And.intro (@stB.eq_2) <| And.intro (@updo_s) <| And.intro (@updo_n) <| And.intro (@upd_ap) <| And.intro (@regs0_0) <| And.intro (@regs0_1) <| And.intro (@regs0_2) <| And.intro (@regs0_3) <| And.intro (@regs0_4) <| And.intro (@true_and) <| And.intro (@and_true) <| And.intro (@Option.map_some.{0,0}) <| And.intro (@Option.bind_some.{0,0}) <| And.intro (@un_not) <| And.intro (@lenT.eq_1) <| And.intro (@lenT.eq_2) <| And.intro (@lenT.eq_3) <| And.intro (@lenT.eq_4) <| And.intro (@lenT.eq_5) <| And.intro (@natOf_nat) <| And.intro (@val1) <| And.intro (@valA) <| And.intro (@endQ.eq_1) <| And.intro (@endQ.eq_2) <| And.intro (@resT.eq_1) <| And.intro (@resL.eq_1) <| And.intro (@resL.eq_2) <| And.intro (@resV.eq_1) <| And.intro (@resV.eq_2) <| And.intro (@tup1) <| And.intro (@tup2) <| And.intro (@tup3) <| And.intro (@dlt) <| And.intro (@dle) <| And.intro (@deq) <| And.intro (@dne) <| And.intro (@List.map_cons.{0,0}) <| And.intro (@List.map_nil.{0,0}) <| And.intro (@decide_true) <| And.intro (@decide_false) <| And.intro (@strEq_eq) <| And.intro (@Bool.not_true) <| And.intro (@Bool.not_false) <| And.intro (@beq_self_eq_true.{0}) <| And.intro (@bne_self_eq_false.{0}) <| And.intro (@List.getElem?_cons_zero.{0}) <| And.intro (@List.getElem?_cons_succ.{0}) <| And.intro (@List.getElem?_nil.{0}) <| And.intro (@List.length_map.{0,0}) <| And.intro (@ret_val) <| And.intro (@T.bool.injEq) <| And.intro (@T.int.injEq) <| And.intro (@T.str.injEq) <| And.intro (@T.tup.injEq) <| And.intro (@evop.eq_1) <| And.intro (@evop.eq_2) <| And.intro (@evop.eq_3) <| And.intro (@evop.eq_4) <| And.intro (@evop.eq_5) <| And.intro (@evop.eq_6) <| And.intro (@evop.eq_7) <| And.intro (@evop.eq_8) <| And.intro (@evop.eq_9) <| And.intro (@evop.eq_10) <| And.intro (@evop.eq_11) <| And.intro (@evop.eq_12) <| And.intro (@evop.eq_13) <| And.intro (@evop.eq_14) <| And.intro (@evop.eq_15) <| And.intro (@evop.eq_16) <| And.intro (@evop.eq_17) <| And.intro (@evop.eq_18) <| And.intro (@evop.eq_19) <| And.intro (@evop.eq_20) <| And.intro (@evop.eq_21) <| And.intro (@evop.eq_22) <| And.intro (@evop.eq_23) <| And.intro (@evop.eq_24) <| And.intro (@evop.eq_25) <| And.intro (@evop.eq_26) <| And.intro (@ev_del) <| And.intro (@delV_map) <| And.intro (@ev_rng) <| And.intro (@rngV_map) <| And.intro (@rngB_M) <| And.intro (@ev_nxt) <| And.intro (@ev_ent) <| And.intro (@entV_ptr) <| And.intro (@entB_I) <| And.intro (@entC_R) <| And.intro (@ev_clr) <| And.intro (@clrV_msl) <| And.intro (@evop.eq_30) <| And.intro (@evop.eq_31) <| And.intro (@evop.eq_32) <| And.intro (@evop.eq_33) <| And.intro (@evop.eq_34) <| And.intro (@evop.eq_35) <| And.intro (@evop.eq_36) <| And.intro (@ev_lkp) <| And.intro (@ev_upm) <| And.intro (@lkpV_map) <| And.intro (@lkpB_M) <| And.intro (@lkpB_N) <| And.intro (@upmV_map) <| And.intro (@upmB_M) <| And.intro (@upmB_N) <| And.intro (@lkp_some) <| And.intro (@lkp_none) <| And.intro (@lkp_some2) <| And.intro (@lkp_none2) <| And.intro (@bi_add) <| And.intro (@bi_sub) <| And.intro (@bi_mul) <| And.intro (@bi_quo) <| And.intro (@bi_rem) <| And.intro (@bi_shl) <| And.intro (@bi_shr) <| And.intro (@bi_and) <| And.intro (@bi_or) <| And.intro (@bi_xor) <| And.intro (@bi_eql) <| And.intro (@bi_neq) <| And.intro (@bi_lss) <| And.intro (@bi_leq) <| And.intro (@bi_gtr) <| And.intro (@bi_geq) <| And.intro (@bs_eql) <| And.intro (@bs_neq) <| And.intro (@bs_lss) <| And.intro (@bs_leq) <| And.intro (@bs_gtr) <| And.intro (@bs_geq) <| (@bs_add)
theorem S2 : type_of% (And.intro (@not_false_eq_true) <| And.intro (@ne_eq.{1}) <| And.intro (@Nat.lt_succ_self) <| And.intro (@g_tail) <| And.intro (@g_app) <| And.intro (@g_eq) <| And.intro (@g_ne) <| And.intro (@s_tail) <| And.intro (@s_app) <| And.intro (@l_app) <| And.intro (@l_set) <| And.intro (@e_set) <| And.intro (@List.nil_append.{0}) <| And.intro (@List.append_nil.{0}) <| And.intro (@List.cons_append.{0}) (@List.drop_nil.{0})) := And.intro (@not_false_eq_true) <| And.intro (@ne_eq.{1}) <| And.intro (@Nat.lt_succ_self) <| And.intro (@g_tail) <| And.intro (@g_app) <| And.intro (@g_eq) <| And.intro (@g_ne) <| And.intro (@s_tail) <| And.intro (@s_app) <| And.intro (@l_app) <| And.intro (@l_set) <| And.intro (@e_set) <| And.intro (@List.nil_append.{0}) <| And.intro (@List.append_nil.{0}) <| And.intro (@List.cons_append.{0}) (@List.drop_nil.{0})
theorem l_one (H : Heap) (x : B) : (H ++ [x]).length = H.length + 1 := by simp
theorem lt_s {b n : Nat} (h : b < n) : (b < n + 1) = True := by simp; omega
theorem S3 : type_of% (And.intro (@l_one) <| And.intro (@lt_s) (@Nat.add_assoc)) := And.intro (@l_one) <| And.intro (@lt_s) (@Nat.add_assoc)
end Go.Rmp
end

section
namespace Go.Rmp
section
variable {α : Type} {enc : α → List T} {n : Nat}
def msC (enc : α → List T) (xs : List α) : List T := xs.flatMap enc
theorem msC_len (hn : ∀ x, (enc x).length = n) : ∀ xs : List α, (msC enc xs).length = xs.length * n
  | [] => by simp [msC]
  | x :: xs => by
    have := msC_len hn xs
    simp only [msC, List.flatMap_cons, List.length_append, hn, List.length_cons] at this ⊢
    rw [this, Nat.add_mul]; omega
theorem msC_drop (hn : ∀ x, (enc x).length = n) : ∀ (xs : List α) (i : Nat), (msC enc xs).drop (i * n) = msC enc (xs.drop i)
  | xs, 0 => by simp
  | [], i + 1 => by simp [msC]
  | x :: xs, i + 1 => by
    have := msC_drop hn xs i
    simp only [msC, List.flatMap_cons, List.drop_succ_cons] at this ⊢
    rw [show (i + 1) * n = (enc x).length + i * n by rw [hn, Nat.add_mul]; omega, List.drop_append, List.drop_eq_nil_of_le (by omega)]
    simp [this]
theorem msC_take (hn : ∀ x, (enc x).length = n) : ∀ (xs : List α) (i : Nat), (msC enc xs).take (i * n) = msC enc (xs.take i)
  | xs, 0 => by simp [msC]
  | [], i + 1 => by simp [msC]
  | x :: xs, i + 1 => by
    have := msC_take hn xs i
    simp only [msC, List.flatMap_cons, List.take_succ_cons] at this ⊢
    rw [show (i + 1) * n = (enc x).length + i * n by rw [hn, Nat.add_mul]; omega, List.take_append, List.take_of_length_le (by omega)]
    simp [this]
theorem msC_get (hn : ∀ x, (enc x).length = n) {xs : List α} {i : Nat} {x : α} (hx : xs[i]? = some x) (off m : Nat) (h : off + m ≤ n) : ldcB m (i * n + off) (some (.cells (msC enc xs))) = some (((enc x).drop off).take m) := by
  have hi := (List.getElem?_eq_some_iff.1 hx).1
  have h1 : i * n + n ≤ xs.length * n := by rw [← Nat.succ_mul]; exact Nat.mul_le_mul_right n hi
  have e : (msC enc xs).drop (i * n) = enc x ++ msC enc (xs.drop (i + 1)) := by
    rw [msC_drop hn, List.drop_eq_getElem_cons hi]
    have : xs[i] = x := (List.getElem?_eq_some_iff.1 hx).2
    rw [this]; rfl
  rw [ldcB_c, if_pos (by rw [msC_len hn]; omega), ← List.drop_drop, e, List.drop_append, List.take_append, hn]
  rw [show m - ((enc x).drop off).length = 0 by rw [List.length_drop, hn]; omega]
  simp
theorem msC_set (hn : ∀ x, (enc x).length = n) {xs : List α} {i : Nat} {x y : α} (hx : xs[i]? = some x) (H : Heap) (b : Nat) (vs : List T) (off : Nat) (h : off + vs.length ≤ n) (hy : enc y = (enc x).take off ++ vs ++ (enc x).drop (off + vs.length)) :
    stcB H b vs (i * n + off) (some (.cells (msC enc xs))) = some (H.set b (.cells (msC enc (xs.set i y)))) := by
  have hi := (List.getElem?_eq_some_iff.1 hx).1
  have hxi : xs[i] = x := (List.getElem?_eq_some_iff.1 hx).2
  have h1 : i * n + n ≤ xs.length * n := by rw [← Nat.succ_mul]; exact Nat.mul_le_mul_right n hi
  rw [stcB_c, if_pos (by rw [msC_len hn]; omega)]
  have e : (msC enc xs).drop (i * n) = enc x ++ msC enc (xs.drop (i + 1)) := by
    rw [msC_drop hn, List.drop_eq_getElem_cons hi, hxi]; rfl
  have t : (msC enc xs).take (i * n + off) = msC enc (xs.take i) ++ (enc x).take off := by
    rw [List.take_add, msC_take hn, e, List.take_append, hn, show off - n = 0 by omega]; simp
  have d : (msC enc xs).drop (i * n + off + vs.length) = (enc x).drop (off + vs.length) ++ msC enc (xs.drop (i + 1)) := by
    rw [Nat.add_assoc, ← List.drop_drop, e, List.drop_append, hn, show off + vs.length - n = 0 by omega]; simp
  rw [t, d]
  have : xs.set i y = xs.take i ++ y :: xs.drop (i + 1) := by rw [List.set_eq_take_append_cons_drop, if_pos hi]
  rw [this]
  simp only [msC, List.flatMap_append, List.flatMap_cons, hy, List.append_assoc]
theorem msC_rep (k : Nat) (z : α) : (List.replicate k (enc z)).flatten = msC enc (List.replicate k z) := by
  induction k with
  | zero => rfl
  | succ k ih => simp only [List.replicate_succ, List.flatten_cons, ih, msC, List.flatMap_cons]
end
theorem iad_m (n i b off len : Nat) : iadT n i (.msl b off len n) = if i < len then if n = 0 then none else some (.ptr b (off + i * n)) else none := by
  simp only [iadT, true_and, ne_eq]
  by_cases h : i < len <;> by_cases h' : n = 0 <;> simp [h, h']
def eU (n : Nat) : List T := [.int .u64 n]
theorem eU_len (x : Nat) : (eU x).length = 1 := rfl
theorem msU_get {xs : List Nat} {i x : Nat} (hx : xs[i]? = some x) : ldcB 1 (i * 1) (some (.cells (msC eU xs))) = some [.int .u64 x] := msC_get eU_len hx 0 1 (by decide)
theorem msU_set {xs : List Nat} {i x : Nat} (hx : xs[i]? = some x) (H : Heap) (b y : Nat) : stcB H b [.int .u64 y] (i * 1) (some (.cells (msC eU xs))) = some (H.set b (.cells (msC eU (xs.set i y)))) := msC_set (y := y) eU_len hx H b [.int .u64 y] 0 (by simp) rfl
def Apd (n0 : Nat) (H : Heap) (k : SK) : Prop := k = .nil ∨ k = .full ∨ ∃ t e, k = .own t e ∧ n0 ≤ t ∧ H[t]? = some (.tok e)
structure Stay (n0 : Nat) (H : Heap) (k : SK) (H' : Heap) : Prop where
  len : H.length ≤ H'.length
  get : ∀ b x, H[b]? = some x → (∀ e, k ≠ .own b e) → H'[b]? = some x
  ext : ∀ H0 : Heap, H0.length ≤ n0 → Ext H0 H → Ext H0 H'
theorem Stay.cells {n0 : Nat} {H H' : Heap} {k : SK} (h : Stay n0 H k H') (ha : Apd n0 H k) {b : Nat} {x : B} (hx : H[b]? = some x) (ht : ∀ e, x ≠ .tok e) : H'[b]? = some x := h.get b x hx fun e he => by
  rcases ha with h | h | ⟨t, e', h, _, h'⟩
  · rw [he] at h; cases h
  · rw [he] at h; cases h
  · rw [he] at h; cases h; rw [hx] at h'; cases h'; exact ht _ rfl
theorem app_ok {n0 : Nat} {H : Heap} {k : SK} {bytes : Nat} (es new : List (List T)) (hk : Apd n0 H k) (hn0 : n0 ≤ H.length) (hnew : new ≠ []) (hr : roomOk (es.length + new.length) bytes = true) :
    ∃ k' H', appT H bytes k es new = some (.sl k' (es ++ new.map (·.map T.erase)), H') ∧ Apd n0 H' k' ∧ Stay n0 H k H' := by
  unfold appT
  cases new with
  | nil => exact absurd rfl hnew
  | cons c new =>
    simp only [hr, if_true]
    rcases hk with rfl | rfl | ⟨t, e, rfl, ht, hg⟩
    · exact ⟨_, _, rfl, .inr (.inr ⟨_, _, rfl, hn0, g_tail rfl⟩), ⟨by simp, fun b x hx _ => by rw [g_app (glt hx)]; exact hx, fun H0 _ h => h.app _⟩⟩
    · exact ⟨_, _, rfl, .inr (.inr ⟨_, _, rfl, hn0, g_tail rfl⟩), ⟨by simp, fun b x hx _ => by rw [g_app (glt hx)]; exact hx, fun H0 _ h => h.app _⟩⟩
    · simp only [hg, if_true]
      refine ⟨_, _, rfl, .inr (.inr ⟨_, _, rfl, ht, g_eq (glt hg)⟩), ⟨by simp, fun b x hx hne => ?_, fun H0 h0 h => h.set (Nat.le_trans h0 ht) _⟩⟩
      have : t ≠ b := fun h => hne e (by rw [h])
      rw [g_ne this]; exact hx
theorem apd_nil (n0 : Nat) (H : Heap) : Apd n0 H .nil := .inl rfl
theorem Apd.ext {n0 : Nat} {H H' : Heap} {k : SK} (h : Apd n0 H k) (hx : Ext H H') : Apd n0 H' k := by
  rcases h with h | h | ⟨t, e, h, h1, h2⟩
  · exact .inl h
  · exact .inr (.inl h)
  · exact .inr (.inr ⟨t, e, h, h1, hx.get h2⟩)
theorem Apd.set {n0 : Nat} {H : Heap} {k : SK} (h : Apd n0 H k) {c : Nat} {x : B} (hx : H[c]? = some x) (ht : ∀ e, x ≠ .tok e) (y : B) : Apd n0 (H.set c y) k := by
  rcases h with h | h | ⟨t, e, h, h1, h2⟩
  · exact .inl h
  · exact .inr (.inl h)
  · refine .inr (.inr ⟨t, e, h, h1, ?_⟩)
    have : c ≠ t := fun he => by subst he; rw [hx] at h2; cases h2; exact ht _ rfl
    rw [g_ne this]; exact h2
theorem endR_r {n b : Nat} {res : List Rs} {Q : Out → Heap → Prop} {R : Regs} {H : Heap} (h : R n = .tup [.ptr b 0]) (hd : H[b]? = some .dfr)
    (hq : match resT R (H.set b .dead) res with | some v => Q (.val v) (H.set b .dead) | none => False) : endR n res Q (.ex .ret R) H :=
  ⟨[b], by rw [h]; rfl, by simp, by simp [hd], hq⟩
theorem endR_0 {n : Nat} {res : List Rs} {Q : Out → Heap → Prop} {R : Regs} {H : Heap} (h : R n = .tup [])
    (hq : match resT R H res with | some v => Q (.val v) H | none => False) : endR n res Q (.ex .ret R) H :=
  ⟨[], by rw [h]; rfl, by simp, by simp, hq⟩
theorem push0 (b : Nat) : pushMark (.tup []) b = .tup [.ptr b 0] := rfl
theorem roomT {n m : Nat} (h : (n + n / 4 + 512) * m ≤ 281474976710656) : roomOk n m = true := by simp [roomOk, h]
theorem all_map {α : Type} {enc : α → List T} {n : Nat} (hn : ∀ x, (enc x).length = n) (l : List α) : (l.map enc).all (fun c => c.length == n) = true := by simp [hn]
def Mut {α : Type} (enc : α → List T) (n n0 : Nat) (H : Heap) (t : T) (l : List α) : Prop :=
  (l = [] ∧ t = .sl .nil []) ∨ ∃ b, t = .msl b 0 l.length n ∧ H[b]? = some (.cells (msC enc l)) ∧ n0 ≤ b
theorem mut_nil {α : Type} (enc : α → List T) (n n0 : Nat) (H : Heap) : Mut enc n n0 H (.sl .nil []) [] := .inl ⟨rfl, rfl⟩
theorem Mut.ext {α : Type} {enc : α → List T} {n n0 : Nat} {H H' : Heap} {t : T} {l : List α} (h : Mut enc n n0 H t l) (hx : Ext H H') : Mut enc n n0 H' t l := by
  rcases h with h | ⟨b, h1, h2, h3⟩
  · exact .inl h
  · exact .inr ⟨b, h1, hx.get h2, h3⟩
theorem Mut.len {α : Type} {enc : α → List T} {n n0 : Nat} {H : Heap} {t : T} {l : List α} (h : Mut enc n n0 H t l) : lenT H .sl t = some l.length := by
  rcases h with ⟨rfl, rfl⟩ | ⟨b, rfl, _, _⟩ <;> rfl
structure StayM (n0 : Nat) (H : Heap) (t : T) (H' : Heap) : Prop where
  len : H.length ≤ H'.length
  get : ∀ b x, H[b]? = some x → (∀ off len n, t ≠ .msl b off len n) → H'[b]? = some x
  ext : ∀ H0 : Heap, H0.length ≤ n0 → Ext H0 H → Ext H0 H'
theorem appM_ok {α : Type} {enc : α → List T} {n n0 : Nat} (hn : ∀ x, (enc x).length = n) {H : Heap} {t : T} {l : List α} {bytes : Nat} (new : List α) (h : Mut enc n n0 H t l) (hn0 : n0 ≤ H.length) (hnew : new ≠ []) (hr : roomOk (l.length + new.length) bytes = true) :
    ∃ t' H', appM H n bytes t (new.map enc) = some (t', H') ∧ Mut enc n n0 H' t' (l ++ new) ∧ StayM n0 H t H' := by
  have hfl : (new.map enc).flatten = msC enc new := by simp [msC, List.flatMap]
  have happ : ∀ l : List α, msC enc l ++ msC enc new = msC enc (l ++ new) := fun l => by simp [msC]
  unfold appM
  cases new with
  | nil => exact absurd rfl hnew
  | cons c new =>
    rcases h with ⟨rfl, rfl⟩ | ⟨b, rfl, hb, hb0⟩
    · simp only [List.map_cons, List.length_cons, List.length_nil, List.length_map, Nat.zero_add] at hr hfl ⊢
      simp only [hr, and_true, if_true]
      refine ⟨_, _, rfl, .inr ⟨H.length, by simp, ?_, hn0⟩, ⟨by simp, fun b x hx _ => by rw [g_app (glt hx)]; exact hx, fun H0 _ h => h.app _⟩⟩
      rw [g_tail rfl, hfl]; rfl
    · have hc : l.length * n = (msC enc l).length := (msC_len hn l).symm
      simp only [List.map_cons, List.length_cons, List.length_map] at hr hfl ⊢
      simp only [hb, hc, hr, and_self, if_true]
      refine ⟨_, _, rfl, .inr ⟨H.length, by simp, ?_, hn0⟩, ⟨by simp, fun b' x hx hne => ?_, fun H0 h0 h => (h.set (Nat.le_trans h0 hb0) _).app _⟩⟩
      · rw [g_tail (by simp), hfl, happ]
      · have hbb : b ≠ b' := fun e => hne 0 l.length n (by rw [e])
        rw [g_app (by rw [List.length_set]; exact glt hx), g_ne hbb]; exact hx
theorem frzE_ms {α : Type} {enc : α → List T} {n : Nat} (hn : ∀ x, (enc x).length = n) (l : List α) : frzE (msC enc l) 0 l.length n = l.map enc := by
  unfold frzE
  refine List.ext_getElem? fun i => ?_
  by_cases hi : i < l.length
  · have := msC_get hn (List.getElem?_eq_getElem hi) 0 n (by omega)
    rw [ldcB_c] at this
    split at this
    · simp only [Option.some.injEq, Nat.add_zero, List.drop_zero] at this
      simp only [List.getElem?_map, List.getElem?_range hi, Option.map_some, Nat.zero_add, this, List.getElem?_eq_getElem hi]
      rw [List.take_of_length_le (by rw [hn]; omega)]
    · cases this
  · rw [List.getElem?_eq_none (by simp; omega), List.getElem?_eq_none (by simp; omega)]
theorem W.frz1 {α : Type} {enc : α → List T} {n : Nat} (hn : ∀ x, (enc x).length = n) {E : Env} {f : Nat} {az : List T} {H : Heap} {l : List α} {Q : Out → Heap → Prop}
    (h : W E (.call f az) H (fun o H' => ∃ b, o = .val (.msl b 0 l.length n) ∧ H'[b]? = some (.cells (msC enc l)) ∧ Q (.val (.sl .arg (l.map enc))) (H'.set b .dead))) : W E (.call f az) H Q := by
  refine .frz _ h fun o H' ⟨b, ho, hb, hq⟩ => ⟨_, b, _, ho, rfl, hb, ?_⟩
  have hc : 0 + l.length * n ≤ (msC enc l).length := by rw [msC_len hn]; omega
  simp only [frzV, Go.Rmp.frz1, hc, and_self, if_true, frzE_ms hn]
  exact hq
end Go.Rmp
end

section
namespace Go.Rmp
set_option maxRecDepth 10000
abbrev o1 (d : Nat) (b : Bo) : O := ⟨some d, .b b, none, []⟩
section
variable {α : Type} {enc : α → List T} {n : Nat}
theorem appM_fr {H H' : Heap} {n bytes b off len m : Nat} {x : T} {new : List (List T)} (h : appM H n bytes x new = some (.msl b off len m, H')) (hn : new ≠ []) : H.length ≤ b := by
  unfold appM at h
  split at h
  · exact absurd rfl hn
  · split at h
    · split at h
      · simp at h; omega
      · cases h
    · split at h
      · simp at h; omega
      · cases h
    · split at h
      · split at h
        · simp at h; omega
        · cases h
      · cases h
    · cases h
end
end Go.Rmp
end

section
namespace Go.Rmp
def wro : List O → List Nat
  | [] => []
  | o :: l => match o.d with
    | some d => d :: wro l
    | none => wro l
def wr : C → List Nat
  | .skip => []
  | .ops l => wro l
  | .seq a b => wr a ++ wr b
  | .cond _ a b => wr a ++ wr b
  | .block _ a => wr a
  | .loop a => wr a
  | .exit _ => []
  | .ret => []
  | .rangeF n _ _ _ _ => [n]
def wrJ : J → List Nat
  | .code c _ => wr c
  | .ops l _ => wro l
  | .call _ _ => []
def regJ : J → Regs
  | .code _ R => R
  | .ops _ R => R
  | .call _ _ => fun _ => undefT
def Kp (j : J) (o : Out) : Prop := match j with
  | .call _ _ => True
  | j => ∀ e R', o = .ex e R' → ∀ t, t ∉ wrJ j → R' t = regJ j t
theorem updo_nx {R : Regs} {d : Option Nat} {v : T} {t : Nat} (h : ∀ x, d = some x → t ≠ x) : updo R d v t = R t := by
  cases d with
  | none => rfl
  | some x => simp [updo, upd, h x rfl]
theorem wro_cons {o : O} {l : List O} {t : Nat} (h : t ∉ wro (o :: l)) : (∀ x, o.d = some x → t ≠ x) ∧ t ∉ wro l := by
  unfold wro at h
  cases e : o.d with
  | none => rw [e] at h; exact ⟨fun x hx => (by cases hx), h⟩
  | some d => rw [e] at h; simp only [List.mem_cons, not_or] at h; exact ⟨fun x hx => (by cases hx; exact h.1), h.2⟩
theorem kp_ops {o : O} {l : List O} {R : Regs} {v : T} {x : Out} (h : Kp (.ops l (updo R o.d v)) x) : Kp (.ops (o :: l) R) x := fun e R' he t ht => by
  obtain ⟨h1, h2⟩ := wro_cons ht
  rw [h e R' he t h2]
  exact updo_nx h1
theorem kp_c {c : C} {R : Regs} {e : Ex} {R' : Regs} (h : ∀ t, t ∉ wr c → R' t = R t) : Kp (.code c R) (.ex e R') := fun e' R2 he t ht => by
  injection he with h1 h2
  rw [← h2]; exact h t ht
theorem kp_o {l : List O} {R : Regs} {e : Ex} {R' : Regs} (h : ∀ t, t ∉ wro l → R' t = R t) : Kp (.ops l R) (.ex e R') := fun e' R2 he t ht => by
  injection he with h1 h2
  rw [← h2]; exact h t ht
theorem W.keep {E : Env} {j : J} {H : Heap} {Q : Out → Heap → Prop} (h : W E j H Q) : W E j H (fun o H' => Q o H' ∧ Kp j o) := by
  induction h with
  | skip h => exact .skip ⟨h, kp_c fun _ _ => rfl⟩
  | exit h => exact .exit ⟨h, kp_c fun _ _ => rfl⟩
  | ret h => exact .ret ⟨h, kp_c fun _ _ => rfl⟩
  | reg _ ih => exact .reg (ih.use fun o H' h => ⟨h.1, h.2⟩)
  | @seq a b R H Q M h1 h2 h3 ih1 ih2 =>
    refine .seq _ ih1 (fun R' H' hm => (ih2 R' H' hm.1).use fun o H2 h => ⟨h.1, fun e R2 he t ht => ?_⟩) (fun o H' hm hn => ⟨h3 o H' hm.1 hn, fun e R2 he t ht => ?_⟩)
    · have ht' : t ∉ wr a ∧ t ∉ wr b := by simpa [wrJ, wr] using ht
      rw [h.2 e R2 he t ht'.2]; exact hm.2 _ _ rfl t ht'.1
    · have ht' : t ∉ wr a ∧ t ∉ wr b := by simpa [wrJ, wr] using ht
      exact hm.2 e R2 he t ht'.1
  | @cond x a b R H Q t hx h ih =>
    refine .cond t hx (ih.use fun o H' h => ⟨h.1, fun e R2 he t' ht => ?_⟩)
    have ht' : t' ∉ wr a ∧ t' ∉ wr b := by simpa [wrJ, wr] using ht
    refine h.2 e R2 he t' ?_
    cases t
    · exact ht'.2
    · exact ht'.1
  | block M h1 h2 h3 ih =>
    exact .block _ ih (fun R' H' hm => ⟨h2 R' H' hm.1, kp_c fun t ht => hm.2 _ _ rfl t ht⟩) (fun o H' hm hn => ⟨h3 o H' hm.1 hn, fun e R2 he t ht => hm.2 e R2 he t ht⟩)
  | loop M h1 h2 h3 ih1 ih2 =>
    refine .loop _ ih1 (fun R' H' hm => (ih2 R' H' hm.1).use fun o H2 h => ⟨h.1, fun e R2 he t ht => ?_⟩) (fun o H' hm hn => ⟨h3 o H' hm.1 hn, fun e R2 he t ht => hm.2 e R2 he t ht⟩)
    rw [h.2 e R2 he t ht]; exact hm.2 _ _ rfl t ht
  | nil h => exact .nil ⟨h, kp_o fun _ _ => rfl⟩
  | no hg _ ih => exact .no hg (ih.use fun o H' h => ⟨h.1, kp_ops h.2⟩)
  | op hg he hs _ ih => exact .op hg he hs (ih.use fun o H' h => ⟨h.1, kp_ops (o := ⟨_, .b _, _, _⟩) h.2⟩)
  | aps hg ht hb hlen h0 he hs _ ih => exact .aps hg ht hb hlen h0 he hs (ih.use fun o H' h => ⟨h.1, kp_ops (o := ⟨_, .b _, _, _⟩) h.2⟩)
  | call M hg h1 hs _ _ ih2 => exact .call M hg h1 hs (fun v H' hm => (ih2 v H' hm).use fun o H' h => ⟨h.1, kp_ops (o := ⟨_, .call _ _, _, _⟩) h.2⟩)
  | callv M hg hf h1 hs _ _ ih2 => exact .callv M hg hf h1 hs (fun v H' hm => (ih2 v H' hm).use fun o H' h => ⟨h.1, kp_ops (o := ⟨_, .callv _ _, _, _⟩) h.2⟩)
  | yld M1 M hg hf hb hn h1 h1' h2 h2' hs3 _ hs4 _ _ _ ih3 ih4 => exact .yld M1 M hg hf hb hn h1 h1' h2 h2' hs3 (fun R' H' hm => (ih3 R' H' hm).use fun o H' h => ⟨h.1, kp_ops (o := ⟨_, .callv _ _, _, _⟩) h.2⟩) hs4 (fun e R' H' hm he => (ih4 e R' H' hm he).use fun o H' h => ⟨h.1, kp_ops (o := ⟨_, .callv _ _, _, _⟩) h.2⟩)
  | nils hs h hx hy hc ih => exact .nils hs (fun b => (ih b).use fun o H' h => ⟨h.1, kp_ops (o := ⟨_, .b _, _, _⟩) h.2⟩) hx hy hc
  | @rangeF n x ps asg body R H Q f cs M hx h1 h2 _ =>
    refine .rangeF M hx h1 (fun v H' hm => let ⟨st, pe, a, b, c, d⟩ := h2 v H' hm; ⟨st, pe, a, b, c, d, kp_c fun t ht => ?_⟩)
    have ht : t ≠ n := by simpa [wrJ, wr] using ht
    simp [upd, ht, regJ]
  | fnr M hf hn h1 h2 _ => exact .fnr M hf hn h1 (fun o H' hm => let ⟨R', bs, a, b, c, d, v, e, f⟩ := h2 o H' hm; ⟨R', bs, a, b, c, d, v, e, f, trivial⟩)
  | fn M hf hr hn h1 h2 _ => exact .fn M hf hr hn h1 (fun o H' hm => let ⟨R', a, v, b, c⟩ := h2 o H' hm; ⟨R', a, v, b, c, trivial⟩)
  | revl i M hi h1 h2 _ => exact .revl i M hi h1 (fun v H' hm => ⟨h2 v H' hm, trivial⟩)
  | frz M h1 h2 _ => exact .frz M h1 (fun o H' hm => let ⟨v, b, cs, a, c, d, e⟩ := h2 o H' hm; ⟨v, b, cs, a, c, d, e, trivial⟩)
  | nxt hg hx hb hs _ ih => exact .nxt hg hx hb hs fun t H' hm => (ih t H' hm).use fun o H' h => ⟨h.1, kp_ops (o := ⟨_, .b _, _, _⟩) h.2⟩
  | shr M h1 h2 _ => exact .shr M h1 (fun o H' hm => let ⟨v, b, cs, k, a, c, d, e⟩ := h2 o H' hm; ⟨v, b, cs, k, a, c, d, e, trivial⟩)
  | frza i hi hb _ ih => exact .frza i hi hb (ih.use fun o H' h => ⟨h.1, trivial⟩)
  | fza hk hb _ ih => exact .fza hk hb (ih.use fun o H' h => ⟨h.1, trivial⟩)
  | vw hl hv _ ih => exact .vw hl hv (ih.use fun o H' h => ⟨h.1, trivial⟩)
  | prim h => exact .prim (E.mono _ _ _ _ _ h fun t H' hm => ⟨hm, trivial⟩)
def mkR : List (Nat × T) → Regs → Regs
  | [], R => R
  | (t, v) :: l, R => upd (mkR l R) t v
theorem mkR_nil (R : Regs) : mkR [] R = R := rfl
theorem mkR_cons (t : Nat) (v : T) (l : List (Nat × T)) (R : Regs) : mkR ((t, v) :: l) R = upd (mkR l R) t v := rfl
def agree : List (Nat × T) → Regs → Prop
  | [], _ => True
  | (t, v) :: l, R => R t = v ∧ agree l R
def okV (vs : List (Nat × T)) (w : List Nat) : Bool := vs.all fun p => !w.elem p.1
theorem upd_id {R : Regs} {t : Nat} {v : T} (h : R t = v) : upd R t v = R := by
  funext x; by_cases e : x = t
  · subst e; simp [upd, h]
  · simp [upd, e]
theorem mkR_agree : ∀ (vs : List (Nat × T)) (R : Regs), agree vs R → mkR vs R = R
  | [], _, _ => rfl
  | (t, v) :: l, R, h => by rw [mkR_cons, mkR_agree l R h.2, upd_id h.1]
theorem agree_of : ∀ (vs : List (Nat × T)) (R R' : Regs), agree vs R → (∀ p ∈ vs, R' p.1 = R p.1) → agree vs R'
  | [], _, _, _, _ => trivial
  | (t, v) :: l, R, R', h, k => ⟨(k (t, v) List.mem_cons_self).trans h.1, agree_of l R R' h.2 fun p hp => k p (List.mem_cons_of_mem _ hp)⟩
theorem okV_mem {vs : List (Nat × T)} {w : List Nat} (h : okV vs w = true) : ∀ p ∈ vs, p.1 ∉ w := fun p hp hw => by
  have := (List.all_eq_true.1 h) p hp
  simp [hw] at this
theorem W.loopV {E : Env} {α : Type} {a : C} {R : Regs} {H : Heap} {Q : Out → Heap → Prop} (vs : List (Nat × T)) (I : α → Regs → Heap → Prop) (μ : α → Nat) (x : α)
    (h0 : I x R H) (step : ∀ x R H, I x R H → wpC E a (mkR vs R) H (thenQ (fun R' H' => ∃ y, μ y < μ x ∧ I y R' H') Q))
    (hv : agree vs R := by repeat' (first | exact trivial | refine And.intro rfl ?_)) (hw : okV vs (wr a) = true := by rfl) : W E (.code (.loop a) R) H Q := by
  have key : ∀ (n : Nat) (x : α) (R : Regs) (H : Heap), μ x = n → I x R H → agree vs R → W E (.code (.loop a) R) H Q := by
    intro n
    induction n using Nat.strongRecOn with
    | _ n ih =>
      intro x R H hn hI hag
      have hs := step x R H hI
      rw [mkR_agree vs R hag] at hs
      refine .loop _ (wpC_ok a R H _ hs).keep (fun R' H' hm => ?_) (fun o H' hm hno => ?_)
      · obtain ⟨⟨y, hy, hI'⟩, hk⟩ := hm
        exact ih (μ y) (hn ▸ hy) y R' H' rfl hI' (agree_of vs R R' hag fun p hp => hk _ _ rfl p.1 (okV_mem hw p hp))
      · cases o with
        | ex e R' => cases e with
          | normal => exact absurd rfl (hno R')
          | exit id => exact hm.1
          | ret => exact hm.1
        | val v => exact hm.1
  exact key _ x R H rfl h0 hv
theorem W.loopX {E : Env} {α : Type} {a : C} {R : Regs} {H : Heap} {Q : Out → Heap → Prop} (id : Nat) (vs : List (Nat × T)) (I : α → Regs → Heap → Prop) (μ : α → Nat) (x : α) (P : Regs → Heap → Prop)
    (h0 : I x R H) (step : ∀ x R H, I x R H → wpC E a (mkR vs R) H (thenQ (fun R' H' => ∃ y, μ y < μ x ∧ I y R' H') (exitQ id P Q))) (rest : ∀ R H, P R H → Q (.ex (.exit id) (mkR vs R)) H)
    (hv : agree vs R := by repeat' (first | exact trivial | refine And.intro rfl ?_)) (hw : okV vs (wr a) = true := by rfl) : W E (.code (.loop a) R) H Q := by
  have h := (W.loopV (Q := exitQ id P Q) vs I μ x h0 step hv hw).keep
  refine h.use fun o H' hm => ?_
  cases o with
  | ex e R' => cases e with
    | exit i =>
      obtain ⟨h1, hk⟩ := hm
      simp only [exitQ] at h1
      split at h1
      · rename_i e; subst e
        have hag : agree vs R' := agree_of vs R R' hv fun p hp => hk _ _ rfl p.1 (okV_mem hw p hp)
        have := rest _ _ h1
        rwa [mkR_agree vs R' hag] at this
      · exact h1
    | normal => exact hm.1
    | ret => exact hm.1
  | val v => exact hm.1
end Go.Rmp
end

section
namespace Go.Rmp
def tb : T → Option Nat
  | .msl c _ _ _ => some c
  | _ => none
end Go.Rmp
end

section
namespace Go.Rmp
def PrL (H H' : Heap) : Prop := ∀ (b : Nat) st p n R ps a c, H[b]? = some (B.loop st p n R ps a c) → ∃ st' p', H'[b]? = some (B.loop st' p' n R ps a c)
theorem PrL.refl (H : Heap) : PrL H H := fun _ _ _ _ _ _ _ _ h => ⟨_, _, h⟩
theorem PrL.trans {H H' H2 : Heap} (h : PrL H H') (h' : PrL H' H2) : PrL H H2 := fun b st p n R ps a c hb => by
  obtain ⟨st', p', h1⟩ := h b st p n R ps a c hb
  exact h' b st' p' n R ps a c h1
theorem PrL.app (H l : Heap) : PrL H (H ++ l) := fun _ _ _ _ _ _ _ _ h => ⟨_, _, get_ext h⟩
theorem PrL.set {H : Heap} {b : Nat} {x : B} (y : B) (hb : H[b]? = some x) (hx : ∀ st p n R ps a c, x ≠ .loop st p n R ps a c) : PrL H (H.set b y) := fun b' st p n R ps a c h => by
  by_cases e : b' = b
  · subst e; rw [hb] at h; cases h; exact absurd rfl (hx _ _ _ _ _ _ _)
  · exact ⟨st, p, by rw [List.getElem?_set_ne (fun h => e h.symm)]; exact h⟩
theorem PrL.ifset {H : Heap} {b : Nat} {st : LSt} {p : Option Ex} {n : Nat} {R : Regs} {ps : List Nat} {a c : C} (st' : LSt) (p' : Option Ex) (hb : H[b]? = some (.loop st p n R ps a c)) : PrL H (H.set b (.loop st' p' n R ps a c)) := fun b' st1 p1 n1 R1 ps1 a1 c1 h => by
  by_cases e : b' = b
  · subst e; rw [hb] at h; cases h
    exact ⟨st', p', by rw [List.getElem?_set_self (List.getElem?_eq_some_iff.1 hb).1]⟩
  · exact ⟨st1, p1, by rw [List.getElem?_set_ne (fun h => e h.symm)]; exact h⟩
theorem stc_prl {H H' : Heap} {vs : List T} {t : T} (h : stc H vs t = some H') : PrL H H' := by
  unfold stc at h
  split at h
  · split at h
    · rename_i hb
      split at h
      · cases h; exact PrL.set _ hb (by intros; simp)
      · cases h
    · cases h
  · cases h
theorem appT_prl {H H' : Heap} {bytes : Nat} {k : SK} {es new : List (List T)} {v : T} (h : appT H bytes k es new = some (v, H')) : PrL H H' := by
  unfold appT at h
  split at h
  · cases h; exact PrL.refl _
  · split at h
    · split at h
      · cases h; exact PrL.app _ _
      · cases h; exact PrL.app _ _
      · split at h
        · rename_i hb
          split at h
          · cases h; exact PrL.set _ hb (by intros; simp)
          · cases h
        · cases h
      · cases h
    · cases h
theorem appM_prl {H H' : Heap} {n bytes : Nat} {x : T} {new : List (List T)} {v : T} (h : appM H n bytes x new = some (v, H')) : PrL H H' := by
  unfold appM at h
  split at h
  · split at h
    · cases h; exact PrL.refl _
    · cases h
  · split at h
    · split at h
      · cases h; exact PrL.app _ _
      · cases h
    · split at h
      · cases h; exact PrL.app _ _
      · cases h
    · split at h
      · rename_i hb
        split at h
        · cases h; exact (PrL.set .dead hb (by intros; simp)).trans (PrL.app _ _)
        · cases h
      · cases h
    · cases h
theorem cpy_prl {H H' : Heap} {n : Nat} {x y v : T} (h : cpyT H n x y = some (v, H')) : PrL H H' := by
  unfold cpyT at h
  split at h
  · split at h
    · rename_i hb _
      split at h
      · cases h; exact PrL.set _ hb (by intros; simp)
      · cases h
    · cases h
  · split at h
    · rename_i hb _
      split at h
      · cases h; exact PrL.set _ hb (by intros; simp)
      · cases h
    · cases h
  · cases h
theorem map_prl {α : Type} {o : Option α} {f : α → T} {H H' : Heap} {v : T} (h : o.map (fun x => (f x, H)) = some (v, H')) : PrL H H' := by
  cases o with
  | none => cases h
  | some x => cases h; exact PrL.refl _
theorem evop_prl {R : Regs} {H H' : Heap} {b : Bo} {v : T} (h : evop R H b = some (v, H')) : PrL H H' := by
  cases hk : klB b with
  | pure => rw [(evop_pure hk h).1]; exact PrL.refl _
  | read => rw [(evop_read hk h).1]; exact PrL.refl _
  | make => cases b <;> simp only [klB] at hk <;> (try (cases hk; done)) <;> simp only [evop] at h
            · split at hk <;> cases hk
            · cases h; exact PrL.app _ _
            · cases h; exact PrL.app _ _
  | eff =>
    cases b <;> simp only [klB] at hk <;> (try (cases hk; done)) <;> simp only [evop] at h
    case eqr => exact map_prl h
    case cvb m x =>
      split at h
      · split at h
        · split at h
          · cases h; exact PrL.set _ (by assumption) (fun _ _ _ _ _ _ _ e => by cases e)
          · cases h
        · cases h
      · split at h
        · cases h; exact PrL.refl _
        · cases h
      · cases h
    case box x =>
      cases hc : (x.ev R).cells? with
      | none => rw [hc] at h; cases h
      | some cs => rw [hc] at h; cases h; exact PrL.app _ _
    case st =>
      split at h
      · split at h
        · rw [Option.map_eq_some_iff] at h
          obtain ⟨H2, h1, h2⟩ := h
          cases h2; exact stc_prl h1
        · cases h
      · cases h
    case upm =>
      split at h
      · split at h
        · split at h
          · rename_i hb
            split at h
            · cases h; exact PrL.set _ hb (by intros; simp)
            · cases h; exact PrL.set _ hb (by intros; simp)
            · cases h
          · cases h
        · cases h
      · cases h
    case del =>
      split at h
      · split at h
        · split at h
          · rename_i hb
            split at h
            · cases h; exact PrL.set _ hb (by intros; simp)
            · cases h; exact PrL.refl _
            · cases h
          · cases h
        · cases h
      · cases h
    case app =>
      split at h
      · split at h
        · exact appM_prl h
        · split at h
          · split at h
            · exact appT_prl h
            · cases h
          · cases h
      · cases h
    case mks =>
      split at h
      · split at h
        · split at h
          · cases h; exact PrL.app _ _
          · split at h
            · cases h; exact PrL.refl _
            · cases h; exact PrL.app _ _
        · cases h
      · cases h
    case cap =>
      split at h
      · cases h; exact PrL.refl _
      · cases h
    case cpy => exact cpy_prl h
    case rng x =>
      split at h
      · rename_i bb _
        simp only [mapEs] at h
        split at h
        · rename_i hb; cases h; exact (PrL.set _ hb (by intros; simp)).trans (PrL.app _ _)
        · rename_i hb; cases h; exact (PrL.set _ hb (by intros; simp)).trans (PrL.app _ _)
        · cases h
      · cases h
    case nxt => cases h
    case ent =>
      split at h
      · split at h
        · split at h
          · split at h
            · exact map_prl h
            · cases h
          · cases h
        · cases h
      · cases h
    case clr =>
      split at h
      · split at h
        · rename_i hb
          split at h
          · cases h; exact PrL.set _ hb (by intros; simp)
          · cases h
        · cases h
      · cases h
    case ovl =>
      unfold ovlT at h
      split at h
      · split at h
        · split at h
          · cases h; exact PrL.refl _
          · cases h
        · cases h
      · cases h
    case apz =>
      rw [Option.bind_eq_some_iff] at h
      obtain ⟨k, _, h⟩ := h
      unfold apzT at h
      split at h
      · split at h
        · split at h
          · cases h; exact PrL.app _ _
          · cases h
        · cases h
      · cases h
    case bsm =>
      rw [Option.bind_eq_some_iff] at h
      obtain ⟨k, _, h⟩ := h
      split at h
      · cases h; exact PrL.app _ _
      · cases h
    case slr =>
      split at h
      · split at h
        · cases h; exact PrL.refl _
        · cases h
      · cases h
inductive RTr where
  | lf
  | nd (v : T) (l r : RTr)
  | ov (d : Nat) (v : T) (t : RTr)
noncomputable def RTr.get (t : RTr) : Nat → T :=
  RTr.rec (motive := fun _ => Nat → T) (fun _ => undefT) (fun v _ _ gl gr n => Nat.casesOn (motive := fun _ => T) n v fun m => bif Nat.beq (Nat.mod m 2) 0 then gl (Nat.div m 2) else gr (Nat.div m 2)) (fun d v _ g n => bif Nat.beq n d then v else g n) t
noncomputable def RTr.set (t : RTr) : Nat → T → RTr :=
  RTr.rec (motive := fun _ => Nat → T → RTr) (fun n v => .ov n v .lf) (fun x l r gl gr n v => Nat.casesOn (motive := fun _ => RTr) n (.nd v l r) fun m => bif Nat.beq (Nat.mod m 2) 0 then .nd x (gl (Nat.div m 2) v) r else .nd x l (gr (Nat.div m 2) v)) (fun d x t g n v => bif Nat.beq n d then .ov d v t else .ov d x (g n v)) t
def RTr.full : Nat → RTr
  | 0 => .lf
  | n + 1 => .nd undefT (RTr.full n) (RTr.full n)
noncomputable abbrev lk (t : RTr) : Regs := t.get
theorem RTr.full_get : ∀ (k n : Nat), (RTr.full k).get n = undefT
  | 0, n => rfl
  | k + 1, 0 => rfl
  | k + 1, n + 1 => by
    show (bif Nat.beq (Nat.mod n 2) 0 then (RTr.full k).get (Nat.div n 2) else (RTr.full k).get (Nat.div n 2)) = _
    cases Nat.beq (Nat.mod n 2) 0
    · exact RTr.full_get k _
    · exact RTr.full_get k _
theorem lk_set (t : RTr) : ∀ (d : Nat) (v : T) (n : Nat), (t.set d v).get n = if n = d then v else t.get n := by
  induction t with
  | lf =>
    intro d v n
    show (bif Nat.beq n d then v else undefT) = if n = d then v else undefT
    cases h : Nat.beq n d
    · rw [if_neg (Nat.ne_of_beq_eq_false h)]; rfl
    · rw [if_pos (Nat.eq_of_beq_eq_true h)]; rfl
  | nd x l r ihl ihr =>
    intro d v n
    cases d with
    | zero => cases n with
      | zero => rfl
      | succ n => rw [if_neg (by omega)]; rfl
    | succ d =>
      have hs : (RTr.nd x l r).set (d + 1) v = bif Nat.beq (Nat.mod d 2) 0 then .nd x (l.set (Nat.div d 2) v) r else .nd x l (r.set (Nat.div d 2) v) := rfl
      rw [hs]
      have hg : ∀ a b, (RTr.nd x a b).get (n) = Nat.casesOn (motive := fun _ => T) n x fun m => bif Nat.beq (Nat.mod m 2) 0 then a.get (Nat.div m 2) else b.get (Nat.div m 2) := fun _ _ => rfl
      cases n with
      | zero => rw [if_neg (by omega)]; cases Nat.beq (Nat.mod d 2) 0 <;> rfl
      | succ n =>
        have e1 : Nat.mod d 2 = d % 2 := rfl
        have e2 : Nat.mod n 2 = n % 2 := rfl
        have e3 : Nat.div d 2 = d / 2 := rfl
        have e4 : Nat.div n 2 = n / 2 := rfl
        cases hd : Nat.beq (Nat.mod d 2) 0
        · have hd' := Nat.ne_of_beq_eq_false hd
          simp only [cond_false]
          rw [hg, hg]
          cases hn : Nat.beq (Nat.mod n 2) 0
          · have hn' := Nat.ne_of_beq_eq_false hn
            simp only [hn, cond_false]
            rw [ihr]
            by_cases e : n = d
            · subst e; simp
            · rw [if_neg (by omega), if_neg (by omega)]
          · have hn' := Nat.eq_of_beq_eq_true hn
            simp only [hn, cond_true]
            rw [if_neg (by omega)]
        · have hd' := Nat.eq_of_beq_eq_true hd
          simp only [cond_true]
          rw [hg, hg]
          cases hn : Nat.beq (Nat.mod n 2) 0
          · have hn' := Nat.ne_of_beq_eq_false hn
            simp only [hn, cond_false]
            rw [if_neg (by omega)]
          · have hn' := Nat.eq_of_beq_eq_true hn
            simp only [hn, cond_true]
            rw [ihl]
            by_cases e : n = d
            · subst e; simp
            · rw [if_neg (by omega), if_neg (by omega)]
  | ov d0 x t ih =>
    intro d v n
    have hs : (RTr.ov d0 x t).set d v = bif Nat.beq d d0 then .ov d0 v t else .ov d0 x (t.set d v) := rfl
    have hg : ∀ y a, (RTr.ov d0 y a).get n = bif Nat.beq n d0 then y else a.get n := fun _ _ => rfl
    rw [hs]
    cases h1 : Nat.beq d d0
    · have h1' := Nat.ne_of_beq_eq_false h1
      simp only [cond_false]
      rw [hg, hg]
      cases h2 : Nat.beq n d0
      · simp only [cond_false]; rw [ih]
      · have h2' := Nat.eq_of_beq_eq_true h2
        simp only [cond_true]; rw [if_neg (by omega)]
    · have h1' := Nat.eq_of_beq_eq_true h1
      simp only [cond_true]
      rw [hg, hg]
      cases h2 : Nat.beq n d0
      · have h2' := Nat.ne_of_beq_eq_false h2
        simp only [cond_false]; rw [if_neg (by omega)]
      · have h2' := Nat.eq_of_beq_eq_true h2
        simp only [cond_true]; rw [if_pos (by omega)]
noncomputable def setO (L : RTr) (d : Option Nat) (v : T) : RTr := match d with | some d => L.set d v | none => L
theorem lk_upd (L : RTr) (d : Nat) (v : T) : lk (L.set d v) = upd (lk L) d v := funext fun t => lk_set L d v t
theorem lk_setO (L : RTr) (d : Option Nat) (v : T) : lk (setO L d v) = updo (lk L) d v := by
  cases d with
  | none => rfl
  | some d => exact lk_upd L d v
noncomputable def setA (L : RTr) : Nat → List T → RTr
  | _, [] => L
  | i, v :: vs => setA (L.set i v) (i + 1) vs
theorem setA_get : ∀ (vs : List T) (L : RTr) (i n : Nat), (setA L i vs).get n = if i ≤ n ∧ n < i + vs.length then vs.getD (n - i) undefT else L.get n
  | [], L, i, n => by simp only [setA, List.length_nil]; rw [if_neg (by omega)]
  | v :: vs, L, i, n => by
    simp only [setA, List.length_cons]
    rw [setA_get vs, lk_set]
    by_cases h1 : n = i
    · subst h1
      rw [if_neg (by omega), if_pos rfl, if_pos (by omega)]; simp
    · by_cases h2 : i + 1 ≤ n ∧ n < i + 1 + vs.length
      · rw [if_pos h2, if_pos (by omega)]
        have : n - i = (n - (i + 1)) + 1 := by omega
        rw [this]; simp
      · rw [if_neg h2, if_neg h1, if_neg (by omega)]
noncomputable def trOf (az : List T) : RTr := setA (RTr.full 9) 0 az
theorem lk_0 (az : List T) : lk (trOf az) = regs0 az := by
  funext n
  show (setA (RTr.full 9) 0 az).get n = az.getD n undefT
  rw [setA_get, RTr.full_get]
  by_cases h : n < az.length
  · rw [if_pos (by omega)]; simp
  · rw [if_neg (by omega)]; simp [List.getElem?_eq_none (Nat.le_of_not_lt h)]
noncomputable def setPs (L : RTr) : List Nat → List T → RTr
  | p :: ps, v :: vs => setPs (L.set p v) ps vs
  | _, _ => L
theorem lk_ps : ∀ (ps : List Nat) (L : RTr) (vs : List T), lk (setPs L ps vs) = setps (lk L) ps vs
  | [], L, vs => by cases vs <;> rfl
  | p :: ps, L, [] => rfl
  | p :: ps, L, v :: vs => by simp only [setPs, setps]; rw [lk_ps ps, lk_upd]
def wrapE (k : IntKind) (n : Int) : Int := match k, n with
  | .i64, .ofNat a => bif Nat.ble a 9223372036854775807 then n else k.wrap n
  | .u64, .ofNat a => .ofNat (Nat.mod a 18446744073709551616)
  | .u32, .ofNat a => .ofNat (Nat.mod a 4294967296)
  | .u8, .ofNat a => .ofNat (Nat.mod a 256)
  | k, n => k.wrap n
theorem wrapE_eq (k : IntKind) (n : Int) : wrapE k n = k.wrap n := by
  unfold wrapE
  split
  · rename_i a
    cases h : Nat.ble a 9223372036854775807
    · rfl
    · have := Nat.le_of_ble_eq_true h
      simp only [cond_true]
      rw [wrap64 (by have : (Int.ofNat a) = (a : Int) := rfl; omega)]
  · simp [IntKind.wrap, IntKind.signed, IntKind.bits]; rfl
  · simp [IntKind.wrap, IntKind.signed, IntKind.bits]; rfl
  · simp [IntKind.wrap, IntKind.signed, IntKind.bits]; rfl
  · rfl
def addE (k : IntKind) (x : Int) (k' : IntKind) (y : Int) : Option T := if k = k' then some (.int k (wrapE k (x + y))) else none
def subE (k : IntKind) (x : Int) (k' : IntKind) (y : Int) : Option T := if k = k' then some (.int k (wrapE k (x - y))) else none
def mulE (k : IntKind) (x : Int) (k' : IntKind) (y : Int) : Option T := if k = k' then some (.int k (wrapE k (x * y))) else none
def lssE (k : IntKind) (x : Int) (k' : IntKind) (y : Int) : Option T := if k = k' then some (.bool (x < y)) else none
def leqE (k : IntKind) (x : Int) (k' : IntKind) (y : Int) : Option T := if k = k' then some (.bool (x ≤ y)) else none
def gtrE (k : IntKind) (x : Int) (k' : IntKind) (y : Int) : Option T := if k = k' then some (.bool (x > y)) else none
def geqE (k : IntKind) (x : Int) (k' : IntKind) (y : Int) : Option T := if k = k' then some (.bool (x ≥ y)) else none
def eqlE (k : IntKind) (x : Int) (k' : IntKind) (y : Int) : Option T := if k = k' then some (.bool (x == y)) else none
def neqE (k : IntKind) (x : Int) (k' : IntKind) (y : Int) : Option T := if k = k' then some (.bool (x != y)) else none
def andE (k : IntKind) (x : Int) (k' : IntKind) (y : Int) : Option T := if k = k' then some (.int k (wrapE k (BitVec.ofInt k.bits x &&& BitVec.ofInt k.bits y).toNat)) else none
def orE (k : IntKind) (x : Int) (k' : IntKind) (y : Int) : Option T := if k = k' then some (.int k (wrapE k (BitVec.ofInt k.bits x ||| BitVec.ofInt k.bits y).toNat)) else none
def xorE (k : IntKind) (x : Int) (k' : IntKind) (y : Int) : Option T := if k = k' then some (.int k (wrapE k (BitVec.ofInt k.bits x ^^^ BitVec.ofInt k.bits y).toNat)) else none
def quoE (k : IntKind) (x : Int) (k' : IntKind) (y : Int) : Option T := if k = k' then if y = 0 then none else some (.int k (wrapE k (x.tdiv y))) else none
def remE (k : IntKind) (x : Int) (k' : IntKind) (y : Int) : Option T := if k = k' then if y = 0 then none else some (.int k (x.tmod y)) else none
def shlE (k : IntKind) (x : Int) (y : Int) : Option T := if y < 0 then none else some (.int k (wrapE k (x * 2 ^ (min y.toNat k.bits))))
def shrE (k : IntKind) (x : Int) (y : Int) : Option T := if y < 0 then none else some (.int k (x.fdiv (2 ^ (min y.toNat k.bits))))
def intE (op : BinOp) (k : IntKind) (x : Int) (k' : IntKind) (y : Int) : Option T := match op with
  | .add => addE k x k' y
  | .sub => subE k x k' y
  | .mul => mulE k x k' y
  | .lss => lssE k x k' y
  | .leq => leqE k x k' y
  | .gtr => gtrE k x k' y
  | .geq => geqE k x k' y
  | .eql => eqlE k x k' y
  | .neq => neqE k x k' y
  | .and => andE k x k' y
  | .or => orE k x k' y
  | .xor => xorE k x k' y
  | .quo => quoE k x k' y
  | .rem => remE k x k' y
  | .shl => shlE k x y
  | .shr => shrE k x y
  | op => binT op (.int k x) (.int k' y)
def binE (op : BinOp) (a b : T) : Option T := match a, b with
  | .int k x, .int k' y => intE op k x k' y
  | a, b => binT op a b
theorem binE_eq (op : BinOp) (a b : T) : binE op a b = binT op a b := by
  unfold binE
  split
  · unfold intE
    split <;> simp only [addE, subE, mulE, lssE, leqE, gtrE, geqE, eqlE, neqE, andE, orE, xorE, quoE, remE, shlE, shrE, wrapE_eq, binT]
  · rfl
def withH (o : Option T) (H : Heap) : Option (T × Heap) := match o with
  | some v => some (v, H)
  | none => none
theorem withH_eq (o : Option T) (H : Heap) : withH o H = o.map (·, H) := by cases o <;> rfl
def ldE (R : Regs) (H : Heap) (n : Nat) (ag : Bool) (x : X) : Option (T × Heap) := match ldc H n (x.ev R) with
  | some cs => withH (valOf ag cs) H
  | none => none
def stE (R : Regs) (H : Heap) (n : Nat) (a v : X) : Option (T × Heap) := match (v.ev R).cells? with
  | some vs => if vs.length = n then (match stc H vs (a.ev R) with | some H' => some (undefT, H') | none => none) else none
  | none => none
def extE (R : Regs) (H : Heap) (i : Nat) (x : X) : Option (T × Heap) := match x.ev R with
  | .tup vs => withH vs[i]? H
  | _ => none
def pickE (R : Regs) (H : Heap) (c a b : X) : Option (T × Heap) := match c.ev R with
  | .bool t => some (if t then a.ev R else b.ev R, H)
  | _ => none
def lenE (R : Regs) (H : Heap) (k : Lc) (x : X) : Option (T × Heap) := match lenT H k (x.ev R) with
  | some n => some (.int .i64 (n : Int), H)
  | none => none
def iadE (R : Regs) (H : Heap) (n : Nat) (x i : X) : Option (T × Heap) := match natOf (i.ev R) with
  | some i => withH (iadT n i (x.ev R)) H
  | none => none
def cviE (R : Regs) (H : Heap) (k : IntKind) (x : X) : Option (T × Heap) := match x.ev R with
  | .int _ n => some (.int k (wrapE k n), H)
  | _ => none
def evopE (R : Regs) (H : Heap) (b : Bo) : Option (T × Heap) := match b with
  | .mov x => some (x.ev R, H)
  | .bin op x y => withH (binE op (x.ev R) (y.ev R)) H
  | .ld n ag x => ldE R H n ag x
  | .st n a v => stE R H n a v
  | .fad off x => withH (fadT off (x.ev R)) H
  | .ext i x => extE R H i x
  | .pick c a b => pickE R H c a b
  | .len k x => lenE R H k x
  | .iad n x i => iadE R H n x i
  | .un op x => withH (unT op (x.ev R)) H
  | .cvi k x => cviE R H k x
  | .alloc z => some (.ptr H.length 0, H ++ [.cells z])
  | b => evop R H b
theorem evopE_eq (R : Regs) (H : Heap) (b : Bo) : evopE R H b = evop R H b := by
  unfold evopE
  split
  · rfl
  · simp only [evop, withH_eq, binE_eq]
  · rename_i n ag x
    simp only [evop, ldE, withH_eq]
    cases ldc H n (x.ev R) <;> rfl
  · rename_i n a v
    simp only [evop, stE]
    cases (v.ev R).cells? with
    | none => rfl
    | some vs =>
      simp only
      split
      · cases stc H vs (a.ev R) <;> rfl
      · rfl
  · simp only [evop, withH_eq]
  · rename_i i x
    simp only [evop, extE, withH_eq]
    cases x.ev R <;> rfl
  · rename_i c a b
    simp only [evop, pickE]
    cases c.ev R <;> rfl
  · rename_i k x
    simp only [evop, lenE]
    cases lenT H k (x.ev R) <;> rfl
  · rename_i n x i
    simp only [evop, iadE, withH_eq]
    cases natOf (i.ev R) <;> rfl
  · simp only [evop, withH_eq]
  · rename_i k x
    simp only [evop, cviE, wrapE_eq]
    cases x.ev R <;> rfl
  · rfl
  · rfl
def eqb1 : T → T → Bool
  | .int k a, .int k' b => decide (k = k') && decide (a = b)
  | .bool a, .bool b => a == b
  | .str a, .str b => strEq a b
  | .nilp, .nilp => true
  | .nilm, .nilm => true
  | .ptr a b, .ptr a' b' => decide (a = a') && decide (b = b')
  | .map b, .map b' => decide (b = b')
  | .msl a b c d, .msl a' b' c' d' => decide (a = a') && decide (b = b') && decide (c = c') && decide (d = d')
  | _, _ => false
theorem eqb1_ok {a b : T} (h : eqb1 a b = true) : a = b := by
  unfold eqb1 at h
  split at h <;> simp_all [strEq_eq]
def all2 {α : Type} (p : α → α → Bool) : List α → List α → Bool
  | [], [] => true
  | a :: l, b :: m => p a b && all2 p l m
  | _, _ => false
theorem all2_ok {α : Type} {p : α → α → Bool} (hp : ∀ a b, p a b = true → a = b) : ∀ (a b : List α), all2 p a b = true → a = b
  | [], [], _ => rfl
  | a :: l, b :: m, h => by
    simp only [all2, Bool.and_eq_true] at h
    rw [hp _ _ h.1, all2_ok hp _ _ h.2]
def eqbF : Nat → T → T → Bool
  | 0, a, b => eqb1 a b
  | n + 1, a, b => match a, b with
    | .sl k es, .sl k' es' => decide (k = k') && all2 (all2 (eqbF n)) es es'
    | .agg a, .agg b => all2 (eqbF n) a b
    | .tup a, .tup b => all2 (eqbF n) a b
    | .iptr a, .iptr b => all2 (eqbF n) a b
    | .fn f a, .fn f' b => decide (f = f') && all2 (eqbF n) a b
    | a, b => eqb1 a b
theorem eqbF_ok : ∀ (n : Nat) (a b : T), eqbF n a b = true → a = b
  | 0, a, b, h => eqb1_ok h
  | n + 1, a, b, h => by
    have ih := all2_ok (eqbF_ok n)
    unfold eqbF at h
    split at h
    · simp only [Bool.and_eq_true, decide_eq_true_eq] at h; rw [h.1, all2_ok ih _ _ h.2]
    · rw [ih _ _ h]
    · rw [ih _ _ h]
    · rw [ih _ _ h]
    · simp only [Bool.and_eq_true, decide_eq_true_eq] at h; rw [h.1, ih _ _ h.2]
    · exact eqb1_ok h
abbrev eqbT : T → T → Bool := eqbF 6
theorem eqbT_ok {a b : T} (h : eqbT a b = true) : a = b := eqbF_ok 6 a b h
def quietB (b : Bo) : Bool := match klB b with | .pure => true | .read => true | _ => false
noncomputable def stabE (R : Regs) (H : Heap) (s : List Rd) : Bool := s.all fun r => !wants R r.g || (quietB r.op && match evop R H r.op with | some (v, _) => eqbT v (R r.d) | none => false)
theorem stabE_ok {R : Regs} {H : Heap} {s : List Rd} (h : stabE R H s = true) : stable R H s := fun r hr hw => by
  have := List.all_eq_true.1 h r hr
  simp only [hw, Bool.not_true, Bool.false_or, Bool.and_eq_true] at this
  obtain ⟨h1, h2⟩ := this
  cases he : evop R H r.op with
  | none => rw [he] at h2; cases h2
  | some x =>
    obtain ⟨v, H'⟩ := x
    rw [he] at h2
    have hv := eqbT_ok h2
    have hh : H' = H := by
      unfold quietB at h1
      split at h1
      · rename_i hk; exact (evop_pure hk he).1
      · rename_i hk; exact (evop_read hk he).1
      · cases h1
    rw [hv, hh]
inductive OE where
  | ex (e : Ex) (L : RTr)
  | val (v : T)
noncomputable def OE.out : OE → Out
  | .ex e L => .ex e (lk L)
  | .val v => .val v
abbrev Res := Option (List (OE × Heap))
inductive JE where
  | code (c : C) (L : RTr)
  | call (f : Nat) (az : List T)
noncomputable def JE.j : JE → J
  | .code c L => .code c (lk L)
  | .call f az => .call f az
structure Yc where
  b : Nat
  n : Nat
  L : RTr
  ps : List Nat
  asg : C
  body : C
def CtxOk (ctx : List Yc) (H : Heap) : Prop := ∀ y ∈ ctx, ∃ st p, H[y.b]? = some (B.loop st p y.n (lk y.L) y.ps y.asg y.body)
theorem CtxOk.mono {ctx : List Yc} {H H' : Heap} (h : CtxOk ctx H) (hp : PrL H H') : CtxOk ctx H' := fun y hy => by
  obtain ⟨st, p, h1⟩ := h y hy
  exact hp _ _ _ _ _ _ _ _ h1
def PostE (l : List (OE × Heap)) : Out → Heap → Prop := fun o H' => ∃ x ∈ l, x.1.out = o ∧ x.2 = H'
def bindL {α : Type} : List α → (α → Res) → Res
  | [], _ => some []
  | x :: l, k => match l with
    | [] => k x
    | _ => match k x with
      | none => none
      | some a => match bindL l k with
        | none => none
        | some b => some (a ++ b)
theorem bindL_ok {α : Type} {k : α → Res} : ∀ {l : List α} {res : List (OE × Heap)}, bindL l k = some res → ∀ x ∈ l, ∃ r, k x = some r ∧ ∀ y ∈ r, y ∈ res
  | [], _, _, x, hx => by cases hx
  | [a], res, h, x, hx => by
    simp only [List.mem_singleton] at hx; subst hx
    exact ⟨res, h, fun y hy => hy⟩
  | a :: b :: l, res, h, x, hx => by
    unfold bindL at h
    simp only at h
    cases ha : k a with
    | none => rw [ha] at h; cases h
    | some ra =>
      rw [ha] at h
      simp only at h
      cases hb : bindL (b :: l) k with
      | none => rw [hb] at h; cases h
      | some rb =>
        rw [hb] at h; cases h
        rcases List.mem_cons.1 hx with rfl | hx
        · exact ⟨ra, ha, fun y hy => List.mem_append_left _ hy⟩
        · obtain ⟨r, h1, h2⟩ := bindL_ok hb x hx
          exact ⟨r, h1, fun y hy => List.mem_append_right _ (h2 y hy)⟩
theorem bindL_mem {α : Type} {k : α → Res} : ∀ {l : List α} {res : List (OE × Heap)}, bindL l k = some res → ∀ y ∈ res, ∃ x ∈ l, ∃ r, k x = some r ∧ y ∈ r
  | [], _, h, y, hy => by cases h; cases hy
  | [a], res, h, y, hy => ⟨a, List.mem_singleton.2 rfl, res, h, hy⟩
  | a :: b :: l, res, h, y, hy => by
    unfold bindL at h
    simp only at h
    cases ha : k a with
    | none => rw [ha] at h; cases h
    | some ra =>
      rw [ha] at h
      simp only at h
      cases hb : bindL (b :: l) k with
      | none => rw [hb] at h; cases h
      | some rb =>
        rw [hb] at h; cases h
        rcases List.mem_append.1 hy with hy | hy
        · exact ⟨a, List.mem_cons_self, ra, ha, hy⟩
        · obtain ⟨x, hx, r, h1, h2⟩ := bindL_mem hb y hy
          exact ⟨x, List.mem_cons_of_mem _ hx, r, h1, h2⟩
def bnR (r : Res) (k : OE → Heap → Res) : Res := match r with
  | none => none
  | some l => bindL l fun x => k x.1 x.2
noncomputable def nxtE (H : Heap) (R : Regs) (x : X) : Option (List (T × Heap)) := match x.ev R with
  | .ptr bi 0 => match H[bi]? with
    | some (.itr b) => match H[b]? with
      | some (.rmap es ix bi' _) => if bi' = bi then
          match ix with
          | [] => some [(.tup [.bool false], H.set b (.map es))]
          | _ => some (ix.filterMap fun i => es[i]?.map fun e => (.tup [.bool true, e.1, e.2], H.set b (.rmap es (ix.erase i) bi (some i))))
        else none
      | _ => none
    | _ => none
  | _ => none
def isNx : Bo → Option X
  | .nxt x => some x
  | _ => none
noncomputable def nilE (R : Regs) (g : Gd) (s : List Rd) : Bo → Bool
  | .eqr _ .slice x y => match g, s, x.ev R, y.ev R with
    | none, [], .sl .arg [], .sl .nil [] => true
    | _, _, _, _ => false
  | _ => false
def readyE (H : Heap) (b : Nat) : Bool := match H[b]? with
  | some (.loop .ready none _ _ _ _ _) => true
  | _ => false
def busyE (H : Heap) (b : Nat) : Bool := match H[b]? with
  | some (.loop .busy none _ _ _ _ _) => true
  | _ => false
noncomputable def yldE (rec : JE → List Yc → Heap → Res) (ctx : List Yc) (y : Yc) (vs : List T) (H : Heap) (k : Bool → Heap → Res) : Res :=
  if readyE H y.b && decide (vs.length = y.ps.length) then
    bnR (rec (.code y.asg (setPs y.L y.ps vs)) ctx H) fun o H1 => match o with
      | .ex .normal L1 => if readyE H1 y.b then
          bnR (rec (.code y.body L1) ctx (H1.set y.b (.loop .busy none y.n (lk y.L) y.ps y.asg y.body))) fun o2 H2 => if busyE H2 y.b then
            match o2 with
            | .ex .normal _ => k true (H2.set y.b (.loop .ready none y.n (lk y.L) y.ps y.asg y.body))
            | .ex e _ => k false (H2.set y.b (.loop .done (some e) y.n (lk y.L) y.ps y.asg y.body))
            | .val _ => none
            else none
        else none
      | _ => none
  else none
noncomputable def opsE (rec : JE → List Yc → Heap → Res) (ctx : List Yc) : List O → RTr → Heap → Res
  | [], L, H => some [(.ex .normal L, H)]
  | o :: l, L, H =>
    if wants (lk L) o.g then
      match o.op with
      | .b b => match evopE (lk L) H b with
        | some (v, H') => if stabE (lk L) H' o.stab then opsE rec ctx l (setO L o.d v) H' else none
        | none => match isNx b with
          | some x => match nxtE H (lk L) x with
            | some r => bindL r fun p => if stabE (lk L) p.2 o.stab then opsE rec ctx l (setO L o.d p.1) p.2 else none
            | none => none
          | none => if nilE (lk L) o.g o.stab b then bindL [true, false] fun t => opsE rec ctx l (setO L o.d (.bool t)) H else none
      | .call f az => bnR (rec (.call f (az.map (X.ev (lk L)))) ctx H) fun r H' => match r with
        | .val v => if stabE (lk L) H' o.stab then opsE rec ctx l (setO L o.d v) H' else none
        | _ => none
      | .callv x az => match x.ev (lk L) with
        | .fn f cs => bnR (rec (.call f (az.map (X.ev (lk L)) ++ cs)) ctx H) fun r H' => match r with
          | .val v => if stabE (lk L) H' o.stab then opsE rec ctx l (setO L o.d v) H' else none
          | _ => none
        | .yld b => match ctx.find? fun y => y.b == b with
          | some y => yldE rec ctx y (az.map (X.ev (lk L))) H fun t H' => if stabE (lk L) H' o.stab then opsE rec ctx l (setO L o.d (.bool t)) H' else none
          | none => none
        | _ => none
    else opsE rec ctx l (setO L o.d undefT) H
def isNormE : Option Ex → Bool
  | some .normal => true
  | _ => false
noncomputable def codeE (rec : JE → List Yc → Heap → Res) (ctx : List Yc) : C → RTr → Heap → Res
  | .skip, L, H => some [(.ex .normal L, H)]
  | .exit id, L, H => some [(.ex (.exit id) L, H)]
  | .ret, L, H => some [(.ex .ret L, H)]
  | .ops l, L, H => opsE rec ctx l L H
  | .seq a b, L, H => bnR (codeE rec ctx a L H) fun o H' => match o with
    | .ex .normal L' => codeE rec ctx b L' H'
    | o => some [(o, H')]
  | .cond x a b, L, H => match x.ev (lk L) with
    | .bool true => codeE rec ctx a L H
    | .bool false => codeE rec ctx b L H
    | _ => none
  | .block id a, L, H => bnR (codeE rec ctx a L H) fun o H' => match o with
    | .ex (.exit i) L' => if i = id then some [(.ex .normal L', H')] else some [(.ex (.exit i) L', H')]
    | o => some [(o, H')]
  | .loop a, L, H => bnR (codeE rec ctx a L H) fun o H' => match o with
    | .ex .normal L' => rec (.code (.loop a) L') ctx H'
    | o => some [(o, H')]
  | .rangeF n x ps asg body, L, H => match x.ev (lk L) with
    | .fn f cs => bnR (rec (.call f (.yld (H.length + 1) :: cs)) (⟨H.length + 1, n, L, ps, asg, body⟩ :: ctx) (H ++ [.dfr, .loop .ready none n (lk L) ps asg body])) fun o H' => match o with
      | .val _ => match H'[H.length + 1]? with
        | some (.loop st pend _ _ _ _ _) => if st ≠ .busy ∧ isNormE pend = false then some [(.ex (pendEx pend) (L.set n (pushMark (L.get n) H.length)), H'.set (H.length + 1) .dead)] else none
        | _ => none
      | _ => none
    | _ => none
def dfrE (H : Heap) (b : Nat) : Bool := match H[b]? with
  | some .dfr => true
  | _ => false
def mslB : T → Option Nat
  | .msl b _ _ _ => some b
  | .tup vs => vs.findSome? fun v => match v with | .msl b _ _ _ => some b | _ => none
  | _ => none
def frzO (x : OE × Heap) : Option (OE × Heap) := match x.1 with
  | .val v => match mslB v with
    | some b => match x.2[b]? with
      | some (.cells cs) => some (.val (frzV b cs v), x.2.set b .dead)
      | _ => none
    | none => none
  | _ => none
def frzAll : List (OE × Heap) → Option (List (OE × Heap))
  | [] => some []
  | x :: l => match frzO x, frzAll l with
    | some y, some m => some (y :: m)
    | _, _ => none
def frzN : Nat → List (OE × Heap) → List (OE × Heap)
  | 0, r => r
  | n + 1, r => match frzAll r with
    | some r' => frzN n r'
    | none => r
noncomputable def callR (fns : Nat → Option Fn) (rec : JE → List Yc → Heap → Res) (ctx : List Yc) (f : Nat) (az : List T) (H : Heap) : Res := match fns f with
  | some fn => if az.length = fn.np then
      bnR (rec (.code fn.body (trOf az)) ctx H) fun o H' => match o with
        | .val _ => none
        | .ex (.exit _) _ => none
        | .ex _ L' => if fn.body.hasR then
            match marks (L'.get fn.n) with
            | some bs => if decide bs.Nodup && bs.all (dfrE H') then match resT (lk L') (kill H' bs) fn.res with
                | some v => some [(.val v, kill H' bs)]
                | none => none
              else none
            | none => none
          else match resT (lk L') H' fn.res with
            | some v => some [(.val v, H')]
            | none => none
    else none
  | none => none
noncomputable def callE (fns : Nat → Option Fn) (pol : Nat → Nat) (rec : JE → List Yc → Heap → Res) (ctx : List Yc) (f : Nat) (az : List T) (H : Heap) : Res := match callR fns rec ctx f az H with
  | some r => some (frzN (pol f) r)
  | none => none
noncomputable def stepE (fns : Nat → Option Fn) (pol : Nat → Nat) (rec : JE → List Yc → Heap → Res) : JE → List Yc → Heap → Res
  | .code c L, ctx, H => codeE rec ctx c L H
  | .call f az, ctx, H => callE fns pol rec ctx f az H
noncomputable def run (fns : Nat → Option Fn) (pol : Nat → Nat) (n : Nat) : JE → List Yc → Heap → Res :=
  Nat.rec (motive := fun _ => JE → List Yc → Heap → Res) (fun _ _ _ => none) (fun _ ih => stepE fns pol ih) n
def saysTrue : Res → Bool
  | some r => r.all fun x => match x.1 with | .val (.bool true) => true | _ => false
  | none => false
end Go.Rmp
end

section
namespace Go.Rmp
section
variable {E : Env} {rec : JE → List Yc → Heap → Res}
def Good (E : Env) (j : J) (H : Heap) (res : List (OE × Heap)) : Prop := W E j H (PostE res) ∧ ∀ x ∈ res, PrL H x.2
def RecOk (E : Env) (rec : JE → List Yc → Heap → Res) : Prop := ∀ j ctx H res, CtxOk ctx H → rec j ctx H = some res → Good E j.j H res
theorem PostE.sub {a b : List (OE × Heap)} (h : ∀ y ∈ a, y ∈ b) : ∀ o H, PostE a o H → PostE b o H := fun o H ⟨x, hx, h1, h2⟩ => ⟨x, h x hx, h1, h2⟩
theorem out_val {x : OE} {v : T} (h : x.out = .val v) : x = .val v := by
  cases x with
  | ex e L => cases h
  | val v' => cases h; rfl
theorem out_ex {x : OE} {e : Ex} {R : Regs} (h : x.out = .ex e R) : ∃ L, x = .ex e L ∧ lk L = R := by
  cases x with
  | ex e' L => cases h; exact ⟨L, rfl, rfl⟩
  | val v' => cases h
theorem nilE_ok {R : Regs} {g : Gd} {s : List Rd} {b : Bo} (h : nilE R g s b = true) : ∃ neg x y, b = .eqr neg .slice x y ∧ g = none ∧ s = [] ∧ x.ev R = .sl .arg [] ∧ y.ev R = .sl .nil [] := by
  unfold nilE at h
  split at h
  · rename_i neg x y
    split at h
    · rename_i h1 h2
      exact ⟨neg, x, y, rfl, rfl, rfl, h1, h2⟩
    · cases h
  · cases h
theorem findY_ok {ctx : List Yc} {b : Nat} {y : Yc} (h : ctx.find? (fun y => y.b == b) = some y) : y ∈ ctx ∧ y.b = b := ⟨List.mem_of_find?_eq_some h, by simpa using List.find?_some h⟩
theorem ready_ok {H : Heap} {b : Nat} (h : readyE H b = true) : ∃ n R ps a c, H[b]? = some (.loop .ready none n R ps a c) := by
  unfold readyE at h
  split at h
  · rename_i hb; exact ⟨_, _, _, _, _, hb⟩
  · cases h
theorem busy_ok {H : Heap} {b : Nat} (h : busyE H b = true) : ∃ n R ps a c, H[b]? = some (.loop .busy none n R ps a c) := by
  unfold busyE at h
  split at h
  · rename_i hb; exact ⟨_, _, _, _, _, hb⟩
  · cases h
theorem nxtE_ok {H : Heap} {R : Regs} {x : X} {r : List (T × Heap)} (h : nxtE H R x = some r) : ∃ bi b es ix cur, x.ev R = .ptr bi 0 ∧ H[b]? = some (.rmap es ix bi cur) ∧ (∀ t H', NxtTo H b bi es ix t H' → (t, H') ∈ r) ∧ ∀ p ∈ r, PrL H p.2 := by
  unfold nxtE at h
  split at h
  · rename_i bi hx
    split at h
    · rename_i b hbi
      split at h
      · rename_i es ix bi' cur hb
        split at h
        · rename_i he
          subst he
          refine ⟨_, b, es, ix, cur, hx, hb, ?_⟩
          split at h
          · cases h
            refine ⟨fun t H' hn => ?_, fun p hp => ?_⟩
            · rcases hn with ⟨_, rfl, rfl⟩ | ⟨i, e, hi, _⟩
              · exact List.mem_singleton.2 rfl
              · cases hi
            · cases List.mem_singleton.1 hp
              exact PrL.set _ hb (by intros; simp)
          · rename_i hne
            cases h
            refine ⟨fun t H' hn => ?_, fun p hp => ?_⟩
            · rcases hn with ⟨e, _⟩ | ⟨i, e, hi, he, rfl, rfl⟩
              · exact absurd e hne
              · exact List.mem_filterMap.2 ⟨i, hi, by rw [he]; rfl⟩
            · obtain ⟨i, _, hi⟩ := List.mem_filterMap.1 hp
              rw [Option.map_eq_some_iff] at hi
              obtain ⟨e, _, rfl⟩ := hi
              exact PrL.set _ hb (by intros; simp)
        · cases h
      · cases h
    · cases h
  · cases h
theorem good_call {f : Nat} {az : List T} {ctx : List Yc} {H : Heap} {l : List O} {L : RTr} {d : Option Nat} {s : List Rd} {res : List (OE × Heap)} (hr : RecOk E rec) (hc : CtxOk ctx H)
    (ih : ∀ L' H' res, CtxOk ctx H' → opsE rec ctx l L' H' = some res → Good E (.ops l (lk L')) H' res)
    (h : bnR (rec (.call f az) ctx H) (fun r H' => match r with
        | .val v => if stabE (lk L) H' s then opsE rec ctx l (setO L d v) H' else none
        | _ => none) = some res) :
    ∃ M : Out → Heap → Prop, W E (.call f az) H M ∧ (∀ v H', M (.val v) H' → stable (lk L) H' s) ∧ (∀ v H', M (.val v) H' → W E (.ops l (updo (lk L) d v)) H' (PostE res)) ∧ ∀ x ∈ res, PrL H x.2 := by
  cases h1 : rec (.call f az) ctx H with
  | none => rw [h1] at h; cases h
  | some r =>
    rw [h1] at h
    obtain ⟨g1, g2⟩ := hr _ _ _ _ hc h1
    refine ⟨PostE r, g1, fun v H' hp => ?_, fun v H' hp => ?_, fun x hx => ?_⟩
    · obtain ⟨⟨o, H2⟩, hx, ho, rfl⟩ := hp
      cases out_val ho
      obtain ⟨r2, h2, _⟩ := bindL_ok h _ hx
      simp only at h2
      split at h2
      · rename_i hs; exact stabE_ok hs
      · cases h2
    · obtain ⟨⟨o, H2⟩, hx, ho, rfl⟩ := hp
      cases out_val ho
      obtain ⟨r2, h2, h3⟩ := bindL_ok h _ hx
      simp only at h2
      split at h2
      · rw [← lk_setO]
        exact (ih _ _ _ (hc.mono (g2 _ hx)) h2).1.use (PostE.sub h3)
      · cases h2
    · obtain ⟨⟨o, H2⟩, hy, r2, h2, h3⟩ := bindL_mem h x hx
      simp only at h2
      split at h2
      · split at h2
        · exact (g2 _ hy).trans ((ih _ _ _ (hc.mono (g2 _ hy)) h2).2 x h3)
        · cases h2
      · cases h2
theorem opsE_ok (hr : RecOk E rec) (ctx : List Yc) : ∀ (l : List O) (L : RTr) (H : Heap) (res : List (OE × Heap)), CtxOk ctx H → opsE rec ctx l L H = some res → Good E (.ops l (lk L)) H res := by
  intro l
  induction l with
  | nil =>
    intro L H res hc h
    cases h
    exact ⟨.nil ⟨_, List.mem_singleton.2 rfl, rfl, rfl⟩, fun x hx => by cases List.mem_singleton.1 hx; exact PrL.refl _⟩
  | cons o l ih =>
    intro L H res hc h
    obtain ⟨d, op, g, s⟩ := o
    unfold opsE at h
    simp only at h
    split at h
    · rename_i hw
      split at h
      · rename_i b
        split at h
        · rename_i v H' he
          rw [evopE_eq] at he
          split at h
          · rename_i hs
            have hp := evop_prl he
            obtain ⟨g1, g2⟩ := ih _ _ _ (hc.mono hp) h
            rw [lk_setO] at g1
            exact ⟨.op hw he (stabE_ok hs) g1, fun x hx => hp.trans (g2 x hx)⟩
          · cases h
        · split at h
          · rename_i x hx
            have hb : b = .nxt x := by
              unfold isNx at hx; split at hx <;> cases hx; rfl
            subst hb
            split at h
            · rename_i r hn
              obtain ⟨bi, bb, es, ix, cur, h1, h2, h3, h4⟩ := nxtE_ok hn
              refine ⟨.nxt hw h1 h2 (fun t H' ht => ?_) (fun t H' ht => ?_), fun y hy => ?_⟩
              · obtain ⟨r2, k1, _⟩ := bindL_ok h _ (h3 t H' ht)
                simp only at k1
                split at k1
                · rename_i hs; exact stabE_ok hs
                · cases k1
              · obtain ⟨r2, k1, k2⟩ := bindL_ok h _ (h3 t H' ht)
                simp only at k1
                split at k1
                · have := (ih _ _ _ (hc.mono (h4 _ (h3 t H' ht))) k1).1
                  rw [lk_setO] at this
                  exact this.use (PostE.sub k2)
                · cases k1
              · obtain ⟨p, hp, r2, k1, k2⟩ := bindL_mem h y hy
                split at k1
                · exact (h4 p hp).trans ((ih _ _ _ (hc.mono (h4 p hp)) k1).2 y k2)
                · cases k1
            · cases h
          · split at h
            · rename_i hn
              obtain ⟨neg, x, y, rfl, rfl, rfl, h1, h2⟩ := nilE_ok hn
              refine ⟨.nils rfl (fun t => ?_) h1 h2 rfl, fun z hz => ?_⟩
              · obtain ⟨r2, k1, k2⟩ := bindL_ok h t (by cases t <;> simp)
                have := (ih _ _ _ hc k1).1
                rw [lk_setO] at this
                exact this.use (PostE.sub k2)
              · obtain ⟨t, _, r2, k1, k2⟩ := bindL_mem h z hz
                exact (ih _ _ _ hc k1).2 z k2
            · cases h
      · obtain ⟨M, m1, m2, m3, m4⟩ := good_call hr hc ih h
        exact ⟨.call M hw m1 m2 m3, m4⟩
      · rename_i x az
        split at h
        · rename_i hf
          obtain ⟨M, m1, m2, m3, m4⟩ := good_call hr hc ih h
          exact ⟨.callv M hw hf m1 m2 m3, m4⟩
        · rename_i b hf
          split at h
          · rename_i y hy
            obtain ⟨hyc, rfl⟩ := findY_ok hy
            unfold yldE at h
            split at h
            · rename_i hcond
              simp only [Bool.and_eq_true, decide_eq_true_eq] at hcond
              obtain ⟨hrd, hlen⟩ := hcond
              obtain ⟨st, pp, hb⟩ := hc y hyc
              obtain ⟨n1, R1, ps1, a1, c1, hb1⟩ := ready_ok hrd
              rw [hb] at hb1; cases hb1
              cases h1 : rec (.code y.asg (setPs y.L y.ps (az.map (X.ev (lk L))))) ctx H with
              | none => rw [h1] at h; cases h
              | some r1 =>
                rw [h1] at h
                obtain ⟨g1, g2⟩ := hr _ _ _ _ hc h1
                simp only [JE.j, lk_ps] at g1
                have mid : ∀ L1 H1, (OE.ex .normal L1, H1) ∈ r1 → H1[y.b]? = some (.loop .ready none y.n (lk y.L) y.ps y.asg y.body) ∧ ∃ r2, rec (.code y.body L1) ctx (H1.set y.b (.loop .busy none y.n (lk y.L) y.ps y.asg y.body)) = some r2 ∧ Good E (.code y.body (lk L1)) (H1.set y.b (.loop .busy none y.n (lk y.L) y.ps y.asg y.body)) r2 := by
                  intro L1 H1 hm
                  obtain ⟨rk, k1, _⟩ := bindL_ok h _ hm
                  simp only at k1
                  split at k1
                  · rename_i hrd1
                    obtain ⟨st1, pp1, e1⟩ := g2 _ hm _ _ _ _ _ _ _ _ hb
                    obtain ⟨n1, R1, ps1, a1, c1, hb1⟩ := ready_ok hrd1
                    rw [e1] at hb1; cases hb1
                    refine ⟨e1, ?_⟩
                    cases h2 : rec (.code y.body L1) ctx (H1.set y.b (.loop .busy none y.n (lk y.L) y.ps y.asg y.body)) with
                    | none => rw [h2] at k1; cases k1
                    | some r2 => exact ⟨r2, rfl, hr _ _ _ _ ((hc.mono (g2 _ hm)).mono (PrL.ifset _ _ e1)) h2⟩
                  · cases k1
                have norm : ∀ x ∈ r1, ∃ L1, x.1 = .ex .normal L1 := by
                  rintro ⟨o1, H1⟩ hx
                  obtain ⟨rk, k1, _⟩ := bindL_ok h _ hx
                  simp only at k1
                  split at k1
                  · exact ⟨_, rfl⟩
                  · cases k1
                have last : ∀ L1 H1 r2, (OE.ex .normal L1, H1) ∈ r1 → rec (.code y.body L1) ctx (H1.set y.b (.loop .busy none y.n (lk y.L) y.ps y.asg y.body)) = some r2 → ∀ o2 H2, (o2, H2) ∈ r2 → H2[y.b]? = some (.loop .busy none y.n (lk y.L) y.ps y.asg y.body) ∧ PrL H H2 ∧ ∃ (e : Ex) (L2 : RTr), o2 = .ex e L2 ∧
                    ∃ (t : Bool) (st : LSt) (pe : Option Ex), ((e = .normal ∧ t = true ∧ st = .ready ∧ pe = none) ∨ (e ≠ .normal ∧ t = false ∧ st = .done ∧ pe = some e)) ∧ stabE (lk L) (H2.set y.b (.loop st pe y.n (lk y.L) y.ps y.asg y.body)) s = true ∧ ∃ r3, opsE rec ctx l (setO L d (.bool t)) (H2.set y.b (.loop st pe y.n (lk y.L) y.ps y.asg y.body)) = some r3 ∧ ∀ z ∈ r3, z ∈ res := by
                  intro L1 H1 r2 hm h2 o2 H2 hm2
                  obtain ⟨e1, r2', h2', g3, g4⟩ := mid L1 H1 hm
                  rw [h2] at h2'; cases h2'
                  obtain ⟨rk, k1, k2⟩ := bindL_ok h _ hm
                  simp only at k1
                  split at k1
                  · rw [h2] at k1
                    obtain ⟨rj, j1, j2⟩ := bindL_ok k1 _ hm2
                    simp only at j1
                    have hpr := g4 _ hm2
                    have hbz : (H1.set y.b (.loop .busy none y.n (lk y.L) y.ps y.asg y.body))[y.b]? = some (.loop .busy none y.n (lk y.L) y.ps y.asg y.body) := by rw [List.getElem?_set_self (List.getElem?_eq_some_iff.1 e1).1]
                    obtain ⟨st2, pp2, e2⟩ := hpr _ _ _ _ _ _ _ _ hbz
                    split at j1
                    · rename_i hbs
                      obtain ⟨n1, R1, ps1, a1, c1, hb1⟩ := busy_ok hbs
                      rw [e2] at hb1; cases hb1
                      refine ⟨e2, ((g2 _ hm).trans (PrL.ifset _ _ e1)).trans hpr, ?_⟩
                      split at j1
                      · rename_i L2
                        split at j1
                        · rename_i hs
                          exact ⟨.normal, L2, rfl, true, .ready, none, .inl ⟨rfl, rfl, rfl, rfl⟩, hs, rj, j1, fun z hz => k2 z (j2 z hz)⟩
                        · cases j1
                      · rename_i e L2 hne
                        split at j1
                        · rename_i hs
                          exact ⟨e, L2, rfl, false, .done, some e, .inr ⟨fun hh => hne hh, rfl, rfl, rfl⟩, hs, rj, j1, fun z hz => k2 z (j2 z hz)⟩
                        · cases j1
                      · cases j1
                    · cases j1
                  · cases k1
                let M : Out → Heap → Prop := fun o H2 => ∃ L1 H1 r2, (OE.ex .normal L1, H1) ∈ r1 ∧ rec (.code y.body L1) ctx (H1.set y.b (.loop .busy none y.n (lk y.L) y.ps y.asg y.body)) = some r2 ∧ PostE r2 o H2
                have fin : ∀ o H2, M o H2 → ∃ e R2, o = .ex e R2 ∧ H2[y.b]? = some (.loop .busy none y.n (lk y.L) y.ps y.asg y.body) ∧ PrL H H2 ∧
                    ∃ (t : Bool) (st : LSt) (pe : Option Ex), ((e = .normal ∧ t = true ∧ st = .ready ∧ pe = none) ∨ (e ≠ .normal ∧ t = false ∧ st = .done ∧ pe = some e)) ∧ stabE (lk L) (H2.set y.b (.loop st pe y.n (lk y.L) y.ps y.asg y.body)) s = true ∧ W E (.ops l (updo (lk L) d (.bool t))) (H2.set y.b (.loop st pe y.n (lk y.L) y.ps y.asg y.body)) (PostE res) := by
                  rintro o H2 ⟨L1, H1, r2, hm, h2, ⟨o2, H2'⟩, hm2, ho, rfl⟩
                  obtain ⟨e2, hpr, e, L2, rfl, t, st, pe, hcase, hs, r3, h3, h4⟩ := last L1 H1 r2 hm h2 o2 H2' hm2
                  cases ho
                  refine ⟨e, lk L2, rfl, e2, hpr, t, st, pe, hcase, hs, ?_⟩
                  have := (ih _ _ _ ((hc.mono hpr).mono (PrL.ifset st pe e2)) h3).1
                  rw [lk_setO] at this
                  exact this.use (PostE.sub h4)
                refine ⟨.yld (PostE r1) M hw hf hb (by simpa using hlen) g1 ?_ ?_ ?_ ?_ ?_ ?_ ?_, fun x hx => ?_⟩
                · rintro o H' ⟨⟨o1, H1⟩, hm, ho, rfl⟩
                  obtain ⟨L1, rfl⟩ := norm _ hm
                  cases ho
                  exact ⟨⟨_, rfl⟩, (mid _ _ hm).1⟩
                · rintro R1 H1 ⟨⟨o1, H1'⟩, hm, ho, rfl⟩
                  obtain ⟨L1, rfl, rfl⟩ := out_ex ho
                  obtain ⟨e1, r2, h2, g3, g4⟩ := mid _ _ hm
                  exact g3.use fun o H2 hp => ⟨L1, H1', r2, hm, h2, hp⟩
                · intro o H2 hM
                  obtain ⟨e, R2, _, e2, _⟩ := fin o H2 hM
                  exact e2
                · intro R2 H2 hM
                  obtain ⟨e, R2', ho, e2, hpr, t, st, pe, hcase, hs, hW⟩ := fin _ H2 hM
                  cases ho
                  rcases hcase with ⟨_, rfl, rfl, rfl⟩ | ⟨hne, _⟩
                  · exact stabE_ok hs
                  · exact absurd rfl hne
                · intro R2 H2 hM
                  obtain ⟨e, R2', ho, e2, hpr, t, st, pe, hcase, hs, hW⟩ := fin _ H2 hM
                  cases ho
                  rcases hcase with ⟨_, rfl, rfl, rfl⟩ | ⟨hne, _⟩
                  · exact hW
                  · exact absurd rfl hne
                · intro e R2 H2 hM hne
                  obtain ⟨e', R2', ho, e2, hpr, t, st, pe, hcase, hs, hW⟩ := fin _ H2 hM
                  cases ho
                  rcases hcase with ⟨he, _⟩ | ⟨_, rfl, rfl, rfl⟩
                  · exact absurd he hne
                  · exact stabE_ok hs
                · intro e R2 H2 hM hne
                  obtain ⟨e', R2', ho, e2, hpr, t, st, pe, hcase, hs, hW⟩ := fin _ H2 hM
                  cases ho
                  rcases hcase with ⟨he, _⟩ | ⟨_, rfl, rfl, rfl⟩
                  · exact absurd he hne
                  · exact hW
                · obtain ⟨⟨o1, H1⟩, hm, rk, k1, k2⟩ := bindL_mem h x hx
                  obtain ⟨L1, he⟩ := norm _ hm
                  cases he
                  obtain ⟨e1, r2, h2, g3, g4⟩ := mid _ _ hm
                  simp only at k1
                  split at k1
                  · rw [h2] at k1
                    obtain ⟨⟨o2, H2⟩, hm2, rj, j1, j2⟩ := bindL_mem k1 x k2
                    obtain ⟨e2, hpr, e, L2, rfl, t, st, pe, hcase, hs, r3, h3, h4⟩ := last L1 H1 r2 hm h2 o2 H2 hm2
                    have hpz := hpr.trans (PrL.ifset st pe e2)
                    refine hpz.trans ((ih _ _ _ (hc.mono hpz) h3).2 x ?_)
                    simp only at j1
                    split at j1
                    · rcases hcase with ⟨rfl, rfl, rfl, rfl⟩ | ⟨hne, rfl, rfl, rfl⟩
                      · simp only [hs, if_true] at j1
                        rw [h3] at j1; cases j1; exact j2
                      · cases e with
                        | normal => exact absurd rfl hne
                        | _ =>
                          simp only [hs, if_true] at j1
                          rw [h3] at j1; cases j1; exact j2
                    · cases j1
                  · cases k1
            · cases h
          · cases h
        · cases h
    · rename_i hw
      obtain ⟨g1, g2⟩ := ih _ _ _ hc h
      rw [lk_setO] at g1
      exact ⟨.no (by simpa using hw) g1, g2⟩
theorem codeE_ok (hr : RecOk E rec) (ctx : List Yc) : ∀ (c : C) (L : RTr) (H : Heap) (res : List (OE × Heap)), CtxOk ctx H → codeE rec ctx c L H = some res → Good E (.code c (lk L)) H res := by
  intro c
  induction c with
  | skip => intro L H res hc h; cases h; exact ⟨.skip ⟨_, List.mem_singleton.2 rfl, rfl, rfl⟩, fun x hx => by cases List.mem_singleton.1 hx; exact PrL.refl _⟩
  | exit id => intro L H res hc h; cases h; exact ⟨.exit ⟨_, List.mem_singleton.2 rfl, rfl, rfl⟩, fun x hx => by cases List.mem_singleton.1 hx; exact PrL.refl _⟩
  | ret => intro L H res hc h; cases h; exact ⟨.ret ⟨_, List.mem_singleton.2 rfl, rfl, rfl⟩, fun x hx => by cases List.mem_singleton.1 hx; exact PrL.refl _⟩
  | ops l =>
    intro L H res hc h
    obtain ⟨g1, g2⟩ := opsE_ok hr ctx l L H res hc h
    exact ⟨.reg g1, g2⟩
  | seq a b iha ihb =>
    intro L H res hc h
    unfold codeE at h
    cases h1 : codeE rec ctx a L H with
    | none => rw [h1] at h; cases h
    | some r1 =>
      rw [h1] at h
      obtain ⟨g1, g2⟩ := iha _ _ _ hc h1
      refine ⟨.seq (PostE r1) g1 ?_ ?_, fun x hx => ?_⟩
      · rintro R' H' ⟨⟨o, H2⟩, hm, ho, rfl⟩
        obtain ⟨L', rfl, rfl⟩ := out_ex ho
        obtain ⟨r2, k1, k2⟩ := bindL_ok h _ hm
        exact (ihb _ _ _ (hc.mono (g2 _ hm)) k1).1.use (PostE.sub k2)
      · rintro o H' ⟨⟨o1, H2⟩, hm, rfl, rfl⟩ hne
        obtain ⟨r2, k1, k2⟩ := bindL_ok h _ hm
        simp only at k1
        split at k1
        · exact absurd rfl (hne _)
        · cases k1; exact ⟨_, k2 _ (List.mem_singleton.2 rfl), rfl, rfl⟩
      · obtain ⟨⟨o1, H2⟩, hm, r2, k1, k2⟩ := bindL_mem h x hx
        simp only at k1
        split at k1
        · exact (g2 _ hm).trans ((ihb _ _ _ (hc.mono (g2 _ hm)) k1).2 x k2)
        · cases k1; cases List.mem_singleton.1 k2; exact g2 _ hm
  | cond x a b iha ihb =>
    intro L H res hc h
    unfold codeE at h
    split at h
    · rename_i hx
      obtain ⟨g1, g2⟩ := iha _ _ _ hc h
      exact ⟨.cond true hx (by rw [if_pos rfl]; exact g1), g2⟩
    · rename_i hx
      obtain ⟨g1, g2⟩ := ihb _ _ _ hc h
      exact ⟨.cond false hx (by rw [if_neg (by simp)]; exact g1), g2⟩
    · cases h
  | block id a iha =>
    intro L H res hc h
    unfold codeE at h
    cases h1 : codeE rec ctx a L H with
    | none => rw [h1] at h; cases h
    | some r1 =>
      rw [h1] at h
      obtain ⟨g1, g2⟩ := iha _ _ _ hc h1
      refine ⟨.block (PostE r1) g1 ?_ ?_, fun x hx => ?_⟩
      · rintro R' H' ⟨⟨o, H2⟩, hm, ho, rfl⟩
        obtain ⟨L', rfl, rfl⟩ := out_ex ho
        obtain ⟨r2, k1, k2⟩ := bindL_ok h _ hm
        simp only [if_true] at k1
        cases k1
        exact ⟨_, k2 _ (List.mem_singleton.2 rfl), rfl, rfl⟩
      · rintro o H' ⟨⟨o1, H2⟩, hm, rfl, rfl⟩ hne
        obtain ⟨r2, k1, k2⟩ := bindL_ok h _ hm
        simp only at k1
        split at k1
        · split at k1
          · rename_i e; subst e; exact absurd rfl (hne _)
          · cases k1; exact ⟨_, k2 _ (List.mem_singleton.2 rfl), rfl, rfl⟩
        · cases k1; exact ⟨_, k2 _ (List.mem_singleton.2 rfl), rfl, rfl⟩
      · obtain ⟨⟨o1, H2⟩, hm, r2, k1, k2⟩ := bindL_mem h x hx
        simp only at k1
        have hp := g2 _ hm
        split at k1
        · split at k1
          · cases k1; cases List.mem_singleton.1 k2; exact hp
          · cases k1; cases List.mem_singleton.1 k2; exact hp
        · cases k1; cases List.mem_singleton.1 k2; exact hp
  | loop a iha =>
    intro L H res hc h
    unfold codeE at h
    cases h1 : codeE rec ctx a L H with
    | none => rw [h1] at h; cases h
    | some r1 =>
      rw [h1] at h
      obtain ⟨g1, g2⟩ := iha _ _ _ hc h1
      refine ⟨.loop (PostE r1) g1 ?_ ?_, fun x hx => ?_⟩
      · rintro R' H' ⟨⟨o, H2⟩, hm, ho, rfl⟩
        obtain ⟨L', rfl, rfl⟩ := out_ex ho
        obtain ⟨r2, k1, k2⟩ := bindL_ok h _ hm
        exact (hr _ _ _ _ (hc.mono (g2 _ hm)) k1).1.use (PostE.sub k2)
      · rintro o H' ⟨⟨o1, H2⟩, hm, rfl, rfl⟩ hne
        obtain ⟨r2, k1, k2⟩ := bindL_ok h _ hm
        simp only at k1
        split at k1
        · exact absurd rfl (hne _)
        · cases k1; exact ⟨_, k2 _ (List.mem_singleton.2 rfl), rfl, rfl⟩
      · obtain ⟨⟨o1, H2⟩, hm, r2, k1, k2⟩ := bindL_mem h x hx
        simp only at k1
        split at k1
        · exact (g2 _ hm).trans ((hr _ _ _ _ (hc.mono (g2 _ hm)) k1).2 x k2)
        · cases k1; cases List.mem_singleton.1 k2; exact g2 _ hm
  | rangeF n x ps asg body iha ihb =>
    intro L H res hc h
    unfold codeE at h
    split at h
    · rename_i f cs hf
      have hg : (H ++ [B.dfr, .loop .ready none n (lk L) ps asg body])[H.length + 1]? = some (.loop .ready none n (lk L) ps asg body) := by
        rw [List.getElem?_append_right (by omega)]
        have : H.length + 1 - H.length = 1 := by omega
        rw [this]; rfl
      have hc2 : CtxOk (⟨H.length + 1, n, L, ps, asg, body⟩ :: ctx) (H ++ [B.dfr, .loop .ready none n (lk L) ps asg body]) := fun y hy => by
        rcases List.mem_cons.1 hy with rfl | hy
        · exact ⟨_, _, hg⟩
        · exact hc.mono (PrL.app _ _) y hy
      cases h1 : rec (.call f (.yld (H.length + 1) :: cs)) (⟨H.length + 1, n, L, ps, asg, body⟩ :: ctx) (H ++ [.dfr, .loop .ready none n (lk L) ps asg body]) with
      | none => rw [h1] at h; cases h
      | some r1 =>
        rw [h1] at h
        obtain ⟨g1, g2⟩ := hr _ _ _ _ hc2 h1
        have key : ∀ v H', (OE.val v, H') ∈ r1 → ∃ st pend, st ≠ .busy ∧ pend ≠ some .normal ∧ H'[H.length + 1]? = some (.loop st pend n (lk L) ps asg body) ∧ (OE.ex (pendEx pend) (L.set n (pushMark (L.get n) H.length)), H'.set (H.length + 1) .dead) ∈ res := by
          intro v H' hm
          obtain ⟨r2, k1, k2⟩ := bindL_ok h _ hm
          simp only at k1
          obtain ⟨st', pp', e1⟩ := g2 _ hm _ _ _ _ _ _ _ _ hg
          rw [e1] at k1
          simp only at k1
          split at k1
          · rename_i hcond
            cases k1
            refine ⟨st', pp', hcond.1, fun e => ?_, e1, k2 _ (List.mem_singleton.2 rfl)⟩
            rw [e] at hcond; exact absurd hcond.2 (by simp [isNormE])
          · cases k1
        refine ⟨.rangeF (PostE r1) hf g1 ?_, fun y hy => ?_⟩
        · rintro v H' ⟨⟨o, H2⟩, hm, ho, rfl⟩
          cases out_val ho
          obtain ⟨st, pend, k1, k2, k3, k4⟩ := key v H2 hm
          refine ⟨st, pend, k1, k2, k3, _, k4, ?_, rfl⟩
          simp only [OE.out]
          rw [lk_upd]
        · obtain ⟨⟨o, H2⟩, hm, r2, k1, k2⟩ := bindL_mem h y hy
          simp only at k1
          split at k1
          · split at k1
            · split at k1
              · cases k1; cases List.mem_singleton.1 k2
                intro b st p n R ps a c hb
                have hlt := (List.getElem?_eq_some_iff.1 hb).1
                obtain ⟨st', p', hb'⟩ := ((PrL.app _ _).trans (g2 _ hm)) b st p n R ps a c hb
                exact ⟨st', p', by rw [List.getElem?_set_ne (by omega)]; exact hb'⟩
              · cases k1
            · cases k1
          · cases k1
    · cases h
theorem kill_prl : ∀ (bs : List Nat) (H : Heap), (∀ b ∈ bs, H[b]? = some .dfr) → bs.Nodup → PrL H (kill H bs)
  | [], H, _, _ => PrL.refl _
  | b :: bs, H, h, hn => by
    have hb := h b List.mem_cons_self
    have hn' := List.nodup_cons.1 hn
    refine (PrL.set .dead hb (by intros; simp)).trans (kill_prl bs _ (fun b' hb' => ?_) hn'.2)
    rw [List.getElem?_set_ne (by rintro rfl; exact hn'.1 hb')]
    exact h b' (List.mem_cons_of_mem _ hb')
theorem dfr_ok {H : Heap} {b : Nat} (h : dfrE H b = true) : H[b]? = some .dfr := by
  unfold dfrE at h
  split at h
  · rename_i hb; exact hb
  · cases h
theorem callR_ok (hr : RecOk E rec) {ctx : List Yc} {f : Nat} {az : List T} {H : Heap} {res : List (OE × Heap)} (hc : CtxOk ctx H) (h : callR E.fn rec ctx f az H = some res) : Good E (.call f az) H res ∧ ∀ x ∈ res, ∃ v, x.1 = .val v := by
  unfold callR at h
  split at h
  · rename_i fn hf
    split at h
    · rename_i hn
      cases h1 : rec (.code fn.body (trOf az)) ctx H with
      | none => rw [h1] at h; cases h
      | some r1 =>
        rw [h1] at h
        obtain ⟨g1, g2⟩ := hr _ _ _ _ hc h1
        simp only [JE.j, lk_0] at g1
        have nv : ∀ o H', (o, H') ∈ r1 → ∃ e L', o = .ex e L' ∧ (e = .normal ∨ e = .ret) := by
          intro o H' hm
          obtain ⟨r2, k1, _⟩ := bindL_ok h _ hm
          simp only at k1
          split at k1
          · cases k1
          · cases k1
          · rename_i e L' hne
            refine ⟨e, L', rfl, ?_⟩
            cases e with
            | normal => exact .inl rfl
            | ret => exact .inr rfl
            | exit id => exact absurd rfl (hne id)
        cases hR : fn.body.hasR with
        | false =>
          have key : ∀ e L' H', (OE.ex e L', H') ∈ r1 → ∃ v, resT (lk L') H' fn.res = some v ∧ (OE.val v, H') ∈ res := by
            intro e L' H' hm
            obtain ⟨r2, k1, k2⟩ := bindL_ok h _ hm
            simp only at k1
            split at k1
            · cases k1
            · cases k1
            · rename_i e' L2 hne he
              cases he
              rw [hR] at k1
              simp only [Bool.false_eq_true, if_false] at k1
              split at k1
              · rename_i v hv
                cases k1
                exact ⟨v, hv, k2 _ (List.mem_singleton.2 rfl)⟩
              · cases k1
          refine ⟨⟨.fn (PostE r1) hf hR hn g1 ?_, fun x hx => ?_⟩, fun x hx => ?_⟩
          · rintro o H' ⟨⟨o1, H2⟩, hm, rfl, rfl⟩
            obtain ⟨e, L', rfl, he⟩ := nv _ _ hm
            obtain ⟨v, k1, k2⟩ := key _ _ _ hm
            refine ⟨lk L', ?_, v, k1, _, k2, rfl, rfl⟩
            rcases he with rfl | rfl
            · exact .inl rfl
            · exact .inr rfl
          · obtain ⟨⟨o1, H2⟩, hm, r2, k1, k2⟩ := bindL_mem h x hx
            obtain ⟨e, L', rfl, he⟩ := nv _ _ hm
            have hp := g2 _ hm
            simp only at k1
            split at k1
            · cases k1
            · cases k1
            · rw [hR] at k1
              simp only [Bool.false_eq_true, if_false] at k1
              split at k1
              · cases k1; cases List.mem_singleton.1 k2; exact hp
              · cases k1
          · obtain ⟨⟨o1, H2⟩, hm, r2, k1, k2⟩ := bindL_mem h x hx
            obtain ⟨e, L', rfl, he⟩ := nv _ _ hm
            simp only at k1
            split at k1
            · cases k1
            · cases k1
            · rw [hR] at k1
              simp only [Bool.false_eq_true, if_false] at k1
              split at k1
              · cases k1; cases List.mem_singleton.1 k2; exact ⟨_, rfl⟩
              · cases k1
        | true =>
          have key : ∀ e L' H', (OE.ex e L', H') ∈ r1 → ∃ bs v, marks (L'.get fn.n) = some bs ∧ bs.Nodup ∧ (∀ b ∈ bs, H'[b]? = some .dfr) ∧ resT (lk L') (kill H' bs) fn.res = some v ∧ (OE.val v, kill H' bs) ∈ res := by
            intro e L' H' hm
            obtain ⟨r2, k1, k2⟩ := bindL_ok h _ hm
            simp only at k1
            split at k1
            · cases k1
            · cases k1
            · rename_i e' L2 hne he
              cases he
              rw [hR] at k1
              simp only [if_true] at k1
              split at k1
              · rename_i bs hbs
                split at k1
                · rename_i hcond
                  simp only [Bool.and_eq_true, decide_eq_true_eq] at hcond
                  split at k1
                  · rename_i v hv
                    cases k1
                    exact ⟨bs, v, hbs, hcond.1, fun b hb => dfr_ok (List.all_eq_true.1 hcond.2 b hb), hv, k2 _ (List.mem_singleton.2 rfl)⟩
                  · cases k1
                · cases k1
              · cases k1
          have rest : ∀ x ∈ res, PrL H x.2 ∧ ∃ v, x.1 = .val v := by
            intro x hx
            obtain ⟨⟨o1, H2⟩, hm, r2, k1, k2⟩ := bindL_mem h x hx
            obtain ⟨e, L', rfl, he⟩ := nv _ _ hm
            obtain ⟨bs, v, q1, q2, q3, q4, q5⟩ := key _ _ _ hm
            simp only at k1
            split at k1
            · cases k1
            · cases k1
            · rename_i e' L2 hne he'
              cases he'
              rw [hR, q1] at k1
              simp only [if_true] at k1
              split at k1
              · rw [q4] at k1
                cases k1; cases List.mem_singleton.1 k2
                exact ⟨(g2 _ hm).trans (kill_prl bs H2 q3 q2), v, rfl⟩
              · cases k1
          refine ⟨⟨.fnr (PostE r1) hf hn g1 ?_, fun x hx => (rest x hx).1⟩, fun x hx => (rest x hx).2⟩
          rintro o H' ⟨⟨o1, H2⟩, hm, rfl, rfl⟩
          obtain ⟨e, L', rfl, he⟩ := nv _ _ hm
          obtain ⟨bs, v, q1, q2, q3, q4, q5⟩ := key _ _ _ hm
          refine ⟨lk L', bs, ?_, q1, q2, q3, v, q4, _, q5, rfl, rfl⟩
          rcases he with rfl | rfl
          · exact .inl rfl
          · exact .inr rfl
    · cases h
  · cases h
theorem mslB_ok {v : T} {b : Nat} (h : mslB v = some b) : mslIn b v := by
  unfold mslB at h
  split at h
  · cases h; rfl
  · rename_i vs
    obtain ⟨x, hx, h1⟩ := List.exists_of_findSome?_eq_some h
    split at h1
    · cases h1; exact ⟨_, _, _, hx⟩
    · cases h1
  · cases h
theorem frzAll_ok : ∀ {r r' : List (OE × Heap)}, frzAll r = some r' → (∀ x ∈ r, ∃ v b cs, x.1 = .val v ∧ mslIn b v ∧ x.2[b]? = some (.cells cs) ∧ (OE.val (frzV b cs v), x.2.set b .dead) ∈ r') ∧ ∀ y ∈ r', ∃ x ∈ r, ∃ v, y.1 = .val v ∧ PrL x.2 y.2
  | [], _, h => by cases h; exact ⟨fun x hx => absurd hx List.not_mem_nil, fun x hx => absurd hx List.not_mem_nil⟩
  | x :: l, r', h => by
    unfold frzAll at h
    split at h
    · rename_i y m h1 h2
      cases h
      obtain ⟨i1, i2⟩ := frzAll_ok h2
      have hx1 : ∃ v b cs, x.1 = .val v ∧ mslIn b v ∧ x.2[b]? = some (.cells cs) ∧ (OE.val (frzV b cs v), x.2.set b .dead) = y := by
        unfold frzO at h1
        split at h1
        · rename_i v hv
          split at h1
          · rename_i b hb
            split at h1
            · rename_i cs hcs
              cases h1
              exact ⟨v, b, cs, hv, mslB_ok hb, hcs, rfl⟩
            · cases h1
          · cases h1
        · cases h1
      obtain ⟨v, b, cs, k1, k2, k3, k4⟩ := hx1
      refine ⟨fun z hz => ?_, fun z hz => ?_⟩
      · rcases List.mem_cons.1 hz with rfl | hz
        · exact ⟨v, b, cs, k1, k2, k3, by rw [k4]; exact List.mem_cons_self⟩
        · obtain ⟨v, b, cs, a1, a2, a3, a4⟩ := i1 z hz
          exact ⟨v, b, cs, a1, a2, a3, List.mem_cons_of_mem _ a4⟩
      · rcases List.mem_cons.1 hz with rfl | hz
        · rw [← k4]; exact ⟨x, List.mem_cons_self, _, rfl, PrL.set _ k3 (by intros; simp)⟩
        · obtain ⟨w, hw, a⟩ := i2 z hz
          exact ⟨w, List.mem_cons_of_mem _ hw, a⟩
    · cases h
theorem frzN_ok {f : Nat} {az : List T} {H : Heap} : ∀ (n : Nat) {r : List (OE × Heap)}, Good E (.call f az) H r → Good E (.call f az) H (frzN n r)
  | 0, r, h => h
  | n + 1, r, h => by
    unfold frzN
    split
    · rename_i r' hr
      obtain ⟨i1, i2⟩ := frzAll_ok hr
      refine frzN_ok n ⟨.frz (PostE r) h.1 ?_, fun y hy => ?_⟩
      · rintro o H' ⟨x, hx, rfl, rfl⟩
        obtain ⟨v, b, cs, a1, a2, a3, a4⟩ := i1 x hx
        exact ⟨v, b, cs, by rw [a1]; rfl, a2, a3, _, a4, rfl, rfl⟩
      · obtain ⟨x, hx, _, _, hp⟩ := i2 y hy
        exact (h.2 x hx).trans hp
    · exact h
theorem stepE_ok {pol : Nat → Nat} (hr : RecOk E rec) : RecOk E (stepE E.fn pol rec) := fun j ctx H res hc h => by
  cases j with
  | code c L => exact codeE_ok hr ctx c L H res hc h
  | call f az =>
    have h : callE E.fn pol rec ctx f az H = some res := h
    unfold callE at h
    split at h
    · rename_i r hr'
      cases h
      exact frzN_ok _ (callR_ok hr hc hr').1
    · cases h
end
theorem run_ok (E : Env) (pol : Nat → Nat) : ∀ n, RecOk E (run E.fn pol n)
  | 0 => fun j ctx H res hc h => by cases h
  | n + 1 => stepE_ok (run_ok E pol n)
theorem W.closed {E : Env} {f : Nat} (pol : Nat → Nat) (n : Nat) (az : List T) (H : Heap) (h : saysTrue (run E.fn pol n (.call f az) [] H) = true) : W E (.call f az) H (fun o _ => o = .val (.bool true)) := by
  cases h1 : run E.fn pol n (.call f az) [] H with
  | none => rw [h1] at h; cases h
  | some r =>
    rw [h1] at h
    refine (run_ok E pol n _ _ _ _ (fun y hy => by cases hy) h1).1.use fun o H' ⟨x, hx, ho, _⟩ => ?_
    have := List.all_eq_true.1 h x hx
    split at this
    · rename_i hv; rw [← ho, hv]; rfl
    · cases this
end Go.Rmp
end

section
namespace Go.Proofs.Ytobnjpgggocdlaa.Ir
open Go.Rmp
set_option maxRecDepth 100000
set_option maxHeartbeats 0
abbrev op (d : Nat) (b : Bo) : O := ⟨some d, .b b, none, []⟩
abbrev ef (b : Bo) : O := ⟨none, .b b, none, []⟩
abbrev cl (d f : Nat) (az : List X) : O := ⟨some d, .call f az, none, []⟩
abbrev sq (a b : C) : C := .seq a b
def an8 : An := ⟨[(18, 7), (18, 9), (19, 1), (19, 4), (20, 1), (20, 4), (24, 29), (24, 42), (46, 12), (31, 11), (31, 12), (38, 3)], [(18, [(0, true), (1, true), (2, true), (3, true), (4, true), (5, true), (6, true), (8, true), (10, true), (11, true), (12, true), (13, true), (14, true), (15, true), (7, false), (9, false), (16, true), (17, true), (18, true), (19, false)]), (31, [(0, true), (1, true), (2, true), (3, true), (4, true), (5, true), (6, true), (7, true), (8, true), (9, true), (10, true), (11, false), (12, false), (13, false)]), (46, [(0, true), (1, true), (2, true), (3, true), (4, true), (5, true), (6, true), (7, true), (8, true), (9, true), (10, true), (11, true), (13, true), (14, true), (15, true), (16, true), (17, true), (18, true), (12, false), (19, true), (20, true), (21, true)])]⟩
def ir8 : Go.Rmp.Fn := ⟨310, 3, [.t 6],
  sq (.ops [op 6 (.mov (.c (.bool false)))]) <|
  sq (.ops [op 32 (.mov (.r 0)), op 33 (.mov (.r 0)), op 34 (.len .sl (.r 33)), op 35 (.mn (.r 34) (.c (.int .i64 20))), op 36 (.sll 1 (.r 32) none (some (.r 35)) none), op 0 (.mov (.r 36))]) <|
  sq (.ops [op 37 (.mov (.r 0)), op 38 (.mov (.r 1)), op 39 (.mov (.r 2)), cl 40 19 [(.r 37), (.r 38), (.c (.int .i64 0)), (.r 39)], op 7 (.mov (.r 40))]) <|
  sq (.ops [op 41 (.mov (.r 0)), op 42 (.mov (.r 1)), op 43 (.mov (.r 2)), cl 44 19 [(.r 41), (.r 42), (.c (.int .i64 0)), (.r 43)], op 8 (.mov (.r 44))]) <|
  sq (.ops [op 46 (.mov (.r 7)), cl 47 9 [(.r 46)], op 45 (.mov (.r 47)), op 48 (.ext 0 (.r 45)), op 49 (.ext 1 (.r 45)), op 9 (.mov (.r 48)), op 10 (.mov (.r 49))]) <|
  sq (sq (.ops [cl 50 11 [], op 51 (.un .not (.r 50)), op 52 (.mov (.r 51)), ⟨(some 53), .b (.mov (.r 10)), (some (52, false)), []⟩, ⟨(some 54), .b (.bin .neq (.r 53) (.c (.int .i64 0))), (some (52, false)), []⟩, op 55 (.pick (.r 52) (.c (.bool true)) (.r 54))]) <|
  .cond (.r 55)
    (sq (.ops [op 6 (.mov (.c (.bool false)))]) <|
    .ret)
    (.skip)) <|
  sq (.ops [op 11 (.mov (.c (.sl .nil [])))]) <|
  sq (sq (.ops [op 12 (.mov (.c (.int .i64 0)))]) <|
  .block 0 (
    .loop (
      sq (sq (.ops [op 56 (.mov (.r 12)), op 57 (.mov (.r 9)), op 58 (.len .sl (.r 57)), op 59 (.bin .lss (.r 56) (.r 58))]) <|
      .cond (.r 59)
        (.skip)
        (.exit 0)) <|
      sq (.block 1 (
        sq (.ops [op 62 (.mov (.r 9)), op 63 (.mov (.r 12)), op 64 (.iad 2 (.r 62) (.r 63)), op 65 (.fad 1 (.r 64)), op 66 (.ld 1 false (.r 65)), op 67 (.bin .quo (.r 66) (.c (.int .u64 65536))), op 68 (.cvi .i64 (.r 67)), op 69 (.bin .sub (.r 68) (.c (.int .i64 1))), op 13 (.mov (.r 69))]) <|
        sq (sq (.ops [op 70 (.mov (.r 13)), op 71 (.bin .lss (.r 70) (.c (.int .i64 0))), op 72 (.mov (.r 71)), ⟨(some 73), .b (.mov (.r 13)), (some (72, false)), []⟩, ⟨(some 74), .b (.mov (.r 0)), (some (72, false)), []⟩, ⟨(some 75), .b (.len .sl (.r 74)), (some (72, false)), []⟩, ⟨(some 76), .b (.bin .geq (.r 73) (.r 75)), (some (72, false)), []⟩, op 77 (.pick (.r 72) (.c (.bool true)) (.r 76))]) <|
        .cond (.r 77)
          (sq (.ops [op 6 (.mov (.c (.bool false)))]) <|
          .ret)
          (.skip)) <|
        .ops [op 78 (.mov (.r 11)), op 79 (.mov (.r 0)), op 80 (.mov (.r 13)), op 81 (.mov (.r 9)), op 82 (.mov (.r 12)), op 83 (.iad 2 (.r 81) (.r 82)), op 84 (.fad 0 (.r 83)), op 85 (.ld 1 false (.r 84)), cl 86 21 [(.r 79), (.r 80), (.r 85)], op 87 (.bsl 1 [.str ⟨#[]⟩, .int .u64 0, .str ⟨#[]⟩, .sl .nil []] [(0, (.r 86))]), op 88 (.app 4 64 false (.r 78) (.r 87)), op 11 (.mov (.r 88))])) <|
      .ops [op 60 (.mov (.r 12)), op 61 (.bin .add (.r 60) (.c (.int .i64 1))), op 12 (.mov (.r 61))]))) <|
  sq (sq (.ops [op 14 (.mov (.c (.int .i64 0)))]) <|
  .block 2 (
    .loop (
      sq (sq (.ops [op 89 (.mov (.r 14)), op 90 (.mov (.r 7)), op 91 (.len .sl (.r 90)), op 92 (.bin .lss (.r 89) (.r 91))]) <|
      .cond (.r 92)
        (.skip)
        (.exit 2)) <|
      sq (.block 3 (
        .ops [op 95 (.mov (.r 7)), op 96 (.mov (.r 14)), op 97 (.mov (.r 7)), op 98 (.mov (.r 14)), op 99 (.iad 4 (.r 97) (.r 98)), op 100 (.fad 3 (.r 99)), op 101 (.ld 1 false (.r 100)), op 103 (.bsl 1 [.str ⟨#[]⟩] [(0, (.c (.str ⟨#[115, 112, 97, 114, 101]⟩)))]), op 105 (.mov (.r 7)), op 106 (.mov (.r 14)), op 107 (.iad 4 (.r 105) (.r 106)), op 108 (.fad 3 (.r 107)), op 109 (.ld 1 false (.r 108)), op 110 (.len .sl (.r 109)), ⟨(some 102), .b (.app 1 16 true (.c (.sl .nil [])) (.r 101)), none, [⟨109, .ld 1 false (.r 108), none⟩, ⟨110, .len .sl (.r 109), none⟩]⟩, ⟨(some 104), .b (.app 1 16 true (.r 102) (.r 103)), none, [⟨109, .ld 1 false (.r 108), none⟩, ⟨110, .len .sl (.r 109), none⟩]⟩, op 111 (.sll 1 (.r 104) none (some (.r 110)) none), op 112 (.iad 4 (.r 95) (.r 96)), op 113 (.fad 3 (.r 112)), ef (.st 1 (.r 113) (.r 111))])) <|
      .ops [op 93 (.mov (.r 14)), op 94 (.bin .add (.r 93) (.c (.int .i64 1))), op 14 (.mov (.r 94))]))) <|
  sq (.ops [op 114 (.mov (.r 7)), op 115 (.app 4 64 true (.c (.sl .nil [])) (.r 114)), op 116 (.build [.str ⟨#[]⟩, .int .u64 0, .str ⟨#[]⟩, .sl .nil []] [(0, 1, (.c (.str ⟨#[115, 112, 97, 114, 101]⟩)))]), op 117 (.bsl 1 [.str ⟨#[]⟩, .int .u64 0, .str ⟨#[]⟩, .sl .nil []] [(0, (.r 116))]), op 118 (.app 4 64 true (.r 115) (.r 117)), op 119 (.mov (.r 7)), op 120 (.len .sl (.r 119)), op 121 (.sll 4 (.r 118) none (some (.r 120)) none), op 15 (.mov (.r 121))]) <|
  sq (.ops [op 122 (.mov (.r 11)), op 123 (.app 4 64 true (.c (.sl .nil [])) (.r 122)), op 124 (.build [.str ⟨#[]⟩, .int .u64 0, .str ⟨#[]⟩, .sl .nil []] [(0, 1, (.c (.str ⟨#[115, 112, 97, 114, 101]⟩)))]), op 125 (.bsl 1 [.str ⟨#[]⟩, .int .u64 0, .str ⟨#[]⟩, .sl .nil []] [(0, (.r 124))]), op 126 (.app 4 64 true (.r 123) (.r 125)), op 127 (.mov (.r 11)), op 128 (.len .sl (.r 127)), op 129 (.sll 4 (.r 126) none (some (.r 128)) none), op 16 (.mov (.r 129))]) <|
  sq (.ops [op 131 (.mov (.r 15)), op 132 (.mov (.r 16)), cl 133 16 [(.r 131), (.r 132)], op 130 (.mov (.r 133)), op 134 (.ext 0 (.r 130)), op 135 (.ext 1 (.r 130)), op 17 (.mov (.r 134)), op 18 (.mov (.r 135))]) <|
  sq (.ops [op 137 (.mov (.r 15)), op 138 (.mov (.r 16)), cl 139 16 [(.r 137), (.r 138)], op 136 (.mov (.r 139)), op 140 (.ext 0 (.r 136)), op 141 (.ext 1 (.r 136)), op 19 (.mov (.r 140)), op 20 (.mov (.r 141))]) <|
  sq (.ops [op 143 (.mov (.r 15)), cl 144 9 [(.r 143)], op 142 (.mov (.r 144)), op 145 (.ext 0 (.r 142)), op 146 (.ext 1 (.r 142)), op 21 (.mov (.r 145)), op 22 (.mov (.r 146))]) <|
  sq (sq (.ops [op 147 (.mov (.r 18)), op 148 (.bin .neq (.r 147) (.c (.int .i64 0))), op 149 (.mov (.r 148)), ⟨(some 150), .b (.mov (.r 20)), (some (149, false)), []⟩, ⟨(some 151), .b (.bin .neq (.r 150) (.c (.int .i64 0))), (some (149, false)), []⟩, op 152 (.pick (.r 149) (.c (.bool true)) (.r 151)), op 153 (.mov (.r 152)), ⟨(some 154), .b (.mov (.r 17)), (some (153, false)), []⟩, ⟨(some 155), .b (.mov (.r 19)), (some (153, false)), []⟩, ⟨(some 156), .call 18 [(.r 154), (.r 155)], (some (153, false)), []⟩, ⟨(some 157), .b (.un .not (.r 156)), (some (153, false)), []⟩, op 158 (.pick (.r 153) (.c (.bool true)) (.r 157)), op 159 (.mov (.r 158)), ⟨(some 160), .b (.mov (.r 15)), (some (159, false)), []⟩, ⟨(some 161), .b (.mov (.r 8)), (some (159, false)), []⟩, ⟨(some 162), .call 18 [(.r 160), (.r 161)], (some (159, false)), []⟩, ⟨(some 163), .b (.un .not (.r 162)), (some (159, false)), []⟩, op 164 (.pick (.r 159) (.c (.bool true)) (.r 163)), op 165 (.mov (.r 164)), ⟨(some 166), .b (.mov (.r 16)), (some (165, false)), []⟩, ⟨(some 167), .b (.mov (.r 11)), (some (165, false)), []⟩, ⟨(some 168), .call 18 [(.r 166), (.r 167)], (some (165, false)), []⟩, ⟨(some 169), .b (.un .not (.r 168)), (some (165, false)), []⟩, op 170 (.pick (.r 165) (.c (.bool true)) (.r 169)), op 171 (.mov (.r 170)), ⟨(some 172), .b (.mov (.r 15)), (some (171, false)), []⟩, ⟨(some 173), .b (.mov (.r 15)), (some (171, false)), []⟩, ⟨(some 174), .b (.len .sl (.r 173)), (some (171, false)), []⟩, ⟨(some 175), .b (.bin .add (.r 174) (.c (.int .i64 1))), (some (171, false)), []⟩, ⟨(some 176), .b (.slr 4 (.r 172) (.r 175)), (some (171, false)), []⟩, ⟨(some 177), .b (.mov (.r 15)), (some (171, false)), []⟩, ⟨(some 178), .b (.len .sl (.r 177)), (some (171, false)), []⟩, ⟨(some 179), .b (.iad 4 (.r 176) (.r 178)), (some (171, false)), []⟩, ⟨(some 180), .b (.fad 0 (.r 179)), (some (171, false)), []⟩, ⟨(some 181), .b (.ld 1 false (.r 180)), (some (171, false)), []⟩, ⟨(some 182), .b (.bin .neq (.r 181) (.c (.str ⟨#[115, 112, 97, 114, 101]⟩))), (some (171, false)), []⟩, op 183 (.pick (.r 171) (.c (.bool true)) (.r 182)), op 184 (.mov (.r 183)), ⟨(some 185), .b (.mov (.r 16)), (some (184, false)), []⟩, ⟨(some 186), .b (.mov (.r 11)), (some (184, false)), []⟩, ⟨(some 187), .b (.len .sl (.r 186)), (some (184, false)), []⟩, ⟨(some 188), .b (.bin .add (.r 187) (.c (.int .i64 1))), (some (184, false)), []⟩, ⟨(some 189), .b (.slr 4 (.r 185) (.r 188)), (some (184, false)), []⟩, ⟨(some 190), .b (.mov (.r 11)), (some (184, false)), []⟩, ⟨(some 191), .b (.len .sl (.r 190)), (some (184, false)), []⟩, ⟨(some 192), .b (.iad 4 (.r 189) (.r 191)), (some (184, false)), []⟩, ⟨(some 193), .b (.fad 0 (.r 192)), (some (184, false)), []⟩, ⟨(some 194), .b (.ld 1 false (.r 193)), (some (184, false)), []⟩, ⟨(some 195), .b (.bin .neq (.r 194) (.c (.str ⟨#[115, 112, 97, 114, 101]⟩))), (some (184, false)), []⟩, op 196 (.pick (.r 184) (.c (.bool true)) (.r 195)), op 197 (.mov (.r 196)), ⟨(some 198), .b (.mov (.r 21)), (some (197, false)), []⟩, ⟨(some 199), .b (.len .sl (.r 198)), (some (197, false)), []⟩, ⟨(some 200), .b (.mov (.r 9)), (some (197, false)), []⟩, ⟨(some 201), .b (.len .sl (.r 200)), (some (197, false)), []⟩, ⟨(some 202), .b (.bin .neq (.r 199) (.r 201)), (some (197, false)), []⟩, op 203 (.pick (.r 197) (.c (.bool true)) (.r 202))]) <|
  .cond (.r 203)
    (sq (.ops [op 6 (.mov (.c (.bool false)))]) <|
    .ret)
    (.skip)) <|
  sq (.ops [op 205 (.mov (.r 8)), op 206 (.mov (.r 11)), cl 207 16 [(.r 205), (.r 206)], op 204 (.mov (.r 207)), op 208 (.ext 0 (.r 204)), op 209 (.ext 1 (.r 204)), op 23 (.mov (.r 208)), op 24 (.mov (.r 209))]) <|
  sq (.ops [op 25 (.mov (.c (.sl .nil [])))]) <|
  sq (sq (.ops [op 26 (.mov (.c (.int .i64 0)))]) <|
  .block 4 (
    .loop (
      sq (sq (.ops [op 210 (.mov (.r 26)), op 211 (.mov (.r 17)), op 212 (.len .sl (.r 211)), op 213 (.bin .lss (.r 210) (.r 212))]) <|
      .cond (.r 213)
        (.skip)
        (.exit 4)) <|
      sq (.block 5 (
        .ops [op 216 (.mov (.r 25)), op 217 (.mov (.r 17)), op 218 (.mov (.r 26)), op 219 (.iad 4 (.r 217) (.r 218)), op 220 (.fad 3 (.r 219)), op 221 (.ld 1 false (.r 220)), op 222 (.mov (.r 19)), op 223 (.mov (.r 26)), op 224 (.iad 4 (.r 222) (.r 223)), op 225 (.fad 3 (.r 224)), op 226 (.ld 1 false (.r 225)), op 227 (.bsm 2 [.sl .nil []] [(0, (.r 221)), (1, (.r 226))]), op 228 (.app 1 24 true (.r 216) (.r 227)), op 25 (.mov (.r 228))])) <|
      .ops [op 214 (.mov (.r 26)), op 215 (.bin .add (.r 214) (.c (.int .i64 1))), op 26 (.mov (.r 215))]))) <|
  sq (sq (.ops [op 229 (.mov (.r 25)), cl 230 24 [(.r 229)], op 231 (.un .not (.r 230))]) <|
  .cond (.r 231)
    (sq (.ops [op 6 (.mov (.c (.bool false)))]) <|
    .ret)
    (.skip)) <|
  sq (sq (.ops [op 27 (.mov (.c (.int .i64 0)))]) <|
  .block 6 (
    .loop (
      sq (sq (.ops [op 232 (.mov (.r 27)), op 233 (.mov (.r 17)), op 234 (.len .sl (.r 233)), op 235 (.bin .lss (.r 232) (.r 234))]) <|
      .cond (.r 235)
        (.skip)
        (.exit 6)) <|
      sq (.block 7 (
        .ops [op 238 (.mov (.r 17)), op 239 (.mov (.r 27)), op 240 (.iad 4 (.r 238) (.r 239)), op 241 (.fad 0 (.r 240)), ef (.st 1 (.r 241) (.c (.str ⟨#[63]⟩)))])) <|
      .ops [op 236 (.mov (.r 27)), op 237 (.bin .add (.r 236) (.c (.int .i64 1))), op 27 (.mov (.r 237))]))) <|
  sq (.ops [op 242 (.mov (.r 17)), op 243 (.build [.str ⟨#[]⟩, .int .u64 0, .str ⟨#[]⟩, .sl .nil []] [(0, 1, (.c (.str ⟨#[33]⟩)))]), op 244 (.bsl 1 [.str ⟨#[]⟩, .int .u64 0, .str ⟨#[]⟩, .sl .nil []] [(0, (.r 243))]), op 245 (.app 4 64 true (.r 242) (.r 244)), op 17 (.mov (.r 245))]) <|
  sq (sq (.ops [op 28 (.mov (.c (.int .i64 0)))]) <|
  .block 8 (
    .loop (
      sq (sq (.ops [op 246 (.mov (.r 28)), op 247 (.mov (.r 21)), op 248 (.len .sl (.r 247)), op 249 (.bin .lss (.r 246) (.r 248))]) <|
      .cond (.r 249)
        (.skip)
        (.exit 8)) <|
      sq (.block 9 (
        .ops [op 252 (.mov (.r 21)), op 253 (.mov (.r 28)), op 254 (.iad 2 (.r 252) (.r 253)), op 255 (.fad 0 (.r 254)), ef (.st 1 (.r 255) (.c (.str ⟨#[63]⟩)))])) <|
      .ops [op 250 (.mov (.r 28)), op 251 (.bin .add (.r 250) (.c (.int .i64 1))), op 28 (.mov (.r 251))]))) <|
  sq (sq (.ops [op 29 (.mov (.c (.int .i64 0)))]) <|
  .block 10 (
    .loop (
      sq (sq (.ops [op 256 (.mov (.r 29)), op 257 (.mov (.r 15)), op 258 (.len .sl (.r 257)), op 259 (.bin .lss (.r 256) (.r 258))]) <|
      .cond (.r 259)
        (.skip)
        (.exit 10)) <|
      sq (.block 11 (
        sq (.ops [op 262 (.mov (.r 15)), op 263 (.mov (.r 29)), op 264 (.iad 4 (.r 262) (.r 263)), op 265 (.fad 3 (.r 264)), op 266 (.ld 1 false (.r 265)), op 267 (.mov (.r 15)), op 268 (.mov (.r 29)), op 269 (.iad 4 (.r 267) (.r 268)), op 270 (.fad 3 (.r 269)), op 271 (.ld 1 false (.r 270)), op 272 (.len .sl (.r 271)), op 273 (.bin .add (.r 272) (.c (.int .i64 1))), op 275 (.mov (.r 15)), op 276 (.mov (.r 29)), op 277 (.iad 4 (.r 275) (.r 276)), op 278 (.fad 3 (.r 277)), op 279 (.ld 1 false (.r 278)), op 280 (.len .sl (.r 279)), ⟨(some 274), .b (.slr 1 (.r 266) (.r 273)), none, [⟨279, .ld 1 false (.r 278), none⟩, ⟨280, .len .sl (.r 279), none⟩]⟩, op 281 (.iad 1 (.r 274) (.r 280)), op 282 (.ld 1 false (.r 281)), op 283 (.bin .neq (.r 282) (.c (.str ⟨#[115, 112, 97, 114, 101]⟩)))]) <|
        .cond (.r 283)
          (sq (.ops [op 6 (.mov (.c (.bool false)))]) <|
          .ret)
          (.skip))) <|
      .ops [op 260 (.mov (.r 29)), op 261 (.bin .add (.r 260) (.c (.int .i64 1))), op 29 (.mov (.r 261))]))) <|
  sq (.ops [op 285 (.mov (.r 15)), op 286 (.mov (.r 16)), cl 287 16 [(.r 285), (.r 286)], op 284 (.mov (.r 287)), op 288 (.ext 0 (.r 284)), op 289 (.ext 1 (.r 284)), op 30 (.mov (.r 288)), op 31 (.mov (.r 289))]) <|
  sq (.ops [op 290 (.mov (.r 31)), op 291 (.bin .eql (.r 290) (.c (.int .i64 0))), op 292 (.mov (.r 291)), ⟨(some 293), .b (.mov (.r 30)), (some (292, true)), []⟩, ⟨(some 294), .b (.mov (.r 23)), (some (292, true)), []⟩, ⟨(some 295), .call 18 [(.r 293), (.r 294)], (some (292, true)), []⟩, op 296 (.pick (.r 292) (.r 295) (.c (.bool false))), op 297 (.mov (.r 296)), ⟨(some 298), .b (.mov (.r 15)), (some (297, true)), []⟩, ⟨(some 299), .b (.mov (.r 8)), (some (297, true)), []⟩, ⟨(some 300), .call 18 [(.r 298), (.r 299)], (some (297, true)), []⟩, op 301 (.pick (.r 297) (.r 300) (.c (.bool false))), op 302 (.mov (.r 301)), ⟨(some 303), .b (.mov (.r 17)), (some (302, true)), []⟩, ⟨(some 304), .b (.len .sl (.r 303)), (some (302, true)), []⟩, ⟨(some 305), .b (.mov (.r 19)), (some (302, true)), []⟩, ⟨(some 306), .b (.len .sl (.r 305)), (some (302, true)), []⟩, ⟨(some 307), .b (.bin .add (.r 306) (.c (.int .i64 1))), (some (302, true)), []⟩, ⟨(some 308), .b (.bin .eql (.r 304) (.r 307)), (some (302, true)), []⟩, op 309 (.pick (.r 302) (.r 308) (.c (.bool false))), op 6 (.mov (.r 309))]) <|
  .ret⟩
def an9 : An := ⟨[(8, 9)], []⟩
def ir9 : Go.Rmp.Fn := ⟨37, 1, [.t 2, .t 3],
  sq (.ops [op 2 (.mov (.c (.sl .nil []))), op 3 (.mov (.c (.int .i64 0)))]) <|
  sq (sq (.ops [op 7 (.mov (.r 0)), cl 8 12 [(.r 7)], op 9 (.un .not (.r 8))]) <|
  .cond (.r 9)
    (sq (.ops [op 2 (.mov (.c (.sl .nil []))), op 3 (.mov (.c (.int .i64 1)))]) <|
    .ret)
    (.skip)) <|
  sq (.ops [op 4 (.mov (.c (.sl .nil [])))]) <|
  sq (sq (.ops [op 10 (.mov (.r 0)), cl 11 25 [(.r 10)], op 12 (.len .sl (.r 11)), op 13 (.mov (.c (.int .i64 0)))]) <|
  .block 0 (
    .loop (
      sq (.ops [op 14 (.bin .lss (.r 13) (.r 12))]) <|
      sq (.cond (.r 14)
        (.skip)
        (.exit 0)) <|
      sq (.block 1 (
        sq (.ops [op 15 (.mov (.r 13)), op 16 (.iad 1 (.r 11) (.r 13)), op 17 (.ld 1 false (.r 16)), op 5 (.mov (.r 15)), op 6 (.mov (.r 17))]) <|
        sq (.ops [op 18 (.mov (.r 6)), op 19 (.mov (.r 0)), op 20 (.mov (.r 5)), op 21 (.iad 4 (.r 19) (.r 20)), op 22 (.fad 1 (.r 21)), op 23 (.ld 1 false (.r 22)), op 24 (.bin .gtr (.r 18) (.r 23))]) <|
        .cond (.r 24)
          (.ops [op 25 (.mov (.r 4)), op 26 (.mov (.r 0)), op 27 (.mov (.r 5)), op 28 (.iad 4 (.r 26) (.r 27)), op 29 (.fad 0 (.r 28)), op 30 (.ld 1 false (.r 29)), op 31 (.mov (.r 6)), op 32 (.build [.str ⟨#[]⟩, .int .u64 0] [(0, 1, (.r 30)), (1, 1, (.r 31))]), op 33 (.bsl 1 [.str ⟨#[]⟩, .int .u64 0] [(0, (.r 32))]), op 34 (.app 2 24 true (.r 25) (.r 33)), op 4 (.mov (.r 34))])
          (.skip))) <|
      .ops [op 35 (.bin .add (.r 13) (.c (.int .i64 1))), op 13 (.mov (.r 35))]))) <|
  sq (.ops [op 36 (.mov (.r 4)), op 2 (.mov (.r 36)), op 3 (.mov (.c (.int .i64 0)))]) <|
  .ret⟩
def an11 : An := ⟨[], []⟩
def ir11 : Go.Rmp.Fn := ⟨100, 0, [.t 0],
  sq (.ops [op 0 (.mov (.c (.bool false)))]) <|
  sq (.ops [op 8 (.bsl 2 [.str ⟨#[]⟩] [(0, (.c (.str ⟨#[97]⟩))), (1, (.c (.str ⟨#[98]⟩)))]), cl 9 27 [(.c (.str ⟨#[97]⟩)), (.c (.int .u64 65536)), (.r 8)], op 10 (.bsl 2 [.str ⟨#[]⟩] [(0, (.c (.str ⟨#[98]⟩))), (1, (.c (.str ⟨#[99]⟩)))]), cl 11 27 [(.c (.str ⟨#[98]⟩)), (.c (.int .u64 131072)), (.r 10)], cl 12 27 [(.c (.str ⟨#[99]⟩)), (.c (.int .u64 0)), (.c (.sl .nil []))], op 13 (.bsl 3 [.str ⟨#[]⟩, .int .u64 0, .str ⟨#[]⟩, .sl .nil []] [(0, (.r 9)), (1, (.r 11)), (2, (.r 12))]), op 1 (.mov (.r 13))]) <|
  sq (.ops [op 15 (.mov (.r 1)), cl 16 9 [(.r 15)], op 14 (.mov (.r 16)), op 17 (.ext 0 (.r 14)), op 18 (.ext 1 (.r 14)), op 2 (.mov (.r 17)), op 3 (.mov (.r 18))]) <|
  sq (.ops [op 20 (.mov (.r 1)), op 21 (.bsl 2 [.str ⟨#[]⟩] [(0, (.c (.str ⟨#[98]⟩))), (1, (.c (.str ⟨#[99]⟩)))]), cl 22 27 [(.c (.str ⟨#[99]⟩)), (.c (.int .u64 131072)), (.r 21)], op 23 (.bsl 1 [.str ⟨#[]⟩, .int .u64 0, .str ⟨#[]⟩, .sl .nil []] [(0, (.r 22))]), cl 24 16 [(.r 20), (.r 23)], op 19 (.mov (.r 24)), op 25 (.ext 0 (.r 19)), op 26 (.ext 1 (.r 19)), op 4 (.mov (.r 25)), op 5 (.mov (.r 26))]) <|
  sq (.ops [op 28 (.mov (.r 1)), cl 29 16 [(.r 28), (.c (.sl .nil []))], op 27 (.mov (.r 29)), op 30 (.ext 0 (.r 27)), op 31 (.ext 1 (.r 27)), op 6 (.mov (.r 30)), op 7 (.mov (.r 31))]) <|
  sq (sq (.ops [op 32 (.mov (.r 3)), op 33 (.bin .neq (.r 32) (.c (.int .i64 0))), op 34 (.mov (.r 33)), ⟨(some 35), .b (.mov (.r 5)), (some (34, false)), []⟩, ⟨(some 36), .b (.bin .neq (.r 35) (.c (.int .i64 0))), (some (34, false)), []⟩, op 37 (.pick (.r 34) (.c (.bool true)) (.r 36)), op 38 (.mov (.r 37)), ⟨(some 39), .b (.mov (.r 7)), (some (38, false)), []⟩, ⟨(some 40), .b (.bin .neq (.r 39) (.c (.int .i64 110))), (some (38, false)), []⟩, op 41 (.pick (.r 38) (.c (.bool true)) (.r 40)), op 42 (.mov (.r 41)), ⟨(some 43), .b (.mov (.r 6)), (some (42, false)), []⟩, ⟨(some 44), .b (.len .sl (.r 43)), (some (42, false)), []⟩, ⟨(some 45), .b (.bin .neq (.r 44) (.c (.int .i64 0))), (some (42, false)), []⟩, op 46 (.pick (.r 42) (.c (.bool true)) (.r 45)), op 47 (.mov (.r 46)), ⟨(some 48), .b (.mov (.r 2)), (some (47, false)), []⟩, ⟨(some 49), .b (.len .sl (.r 48)), (some (47, false)), []⟩, ⟨(some 50), .b (.bin .neq (.r 49) (.c (.int .i64 1))), (some (47, false)), []⟩, op 51 (.pick (.r 47) (.c (.bool true)) (.r 50)), op 52 (.mov (.r 51)), ⟨(some 53), .b (.mov (.r 2)), (some (52, false)), []⟩, ⟨(some 54), .b (.iad 2 (.r 53) (.c (.int .i64 0))), (some (52, false)), []⟩, ⟨(some 55), .b (.ld 2 true (.r 54)), (some (52, false)), []⟩, ⟨(some 56), .b (.build [.str ⟨#[]⟩, .int .u64 0] [(0, 1, (.c (.str ⟨#[99]⟩))), (1, 1, (.c (.int .u64 131072)))]), (some (52, false)), []⟩, ⟨(some 57), .b (.eqs true [.str, .int] (.r 55) (.r 56)), (some (52, false)), []⟩, op 58 (.pick (.r 52) (.c (.bool true)) (.r 57)), op 59 (.mov (.r 58)), ⟨(some 60), .b (.mov (.r 4)), (some (59, false)), []⟩, ⟨(some 61), .b (.len .sl (.r 60)), (some (59, false)), []⟩, ⟨(some 62), .b (.bin .neq (.r 61) (.c (.int .i64 3))), (some (59, false)), []⟩, op 63 (.pick (.r 59) (.c (.bool true)) (.r 62))]) <|
  .cond (.r 63)
    (sq (.ops [op 0 (.mov (.c (.bool false)))]) <|
    .ret)
    (.skip)) <|
  sq (.ops [op 64 (.mov (.r 1)), cl 65 14 [(.r 64)], op 66 (.un .not (.r 65)), op 67 (.mov (.r 66)), ⟨(some 68), .b (.mov (.r 4)), (some (67, true)), []⟩, ⟨(some 69), .call 14 [(.r 68)], (some (67, true)), []⟩, op 70 (.pick (.r 67) (.r 69) (.c (.bool false))), op 71 (.mov (.r 70)), ⟨(some 72), .b (.mov (.r 1)), (some (71, true)), []⟩, ⟨(some 73), .call 12 [(.r 72)], (some (71, true)), []⟩, op 74 (.pick (.r 71) (.r 73) (.c (.bool false))), op 75 (.mov (.r 74)), ⟨(some 76), .call 12 [(.c (.sl .nil []))], (some (75, true)), []⟩, ⟨(some 77), .b (.un .not (.r 76)), (some (75, true)), []⟩, op 78 (.pick (.r 75) (.r 77) (.c (.bool false))), op 79 (.mov (.r 78)), ⟨(some 80), .b (.mov (.r 4)), (some (79, true)), []⟩, ⟨(some 81), .b (.iad 4 (.r 80) (.c (.int .i64 2))), (some (79, true)), []⟩, ⟨(some 82), .b (.fad 1 (.r 81)), (some (79, true)), []⟩, ⟨(some 83), .b (.ld 1 false (.r 82)), (some (79, true)), []⟩, ⟨(some 84), .b (.bin .eql (.r 83) (.c (.int .u64 131072))), (some (79, true)), []⟩, op 85 (.pick (.r 79) (.r 84) (.c (.bool false))), op 86 (.mov (.r 85)), ⟨(some 87), .b (.mov (.r 4)), (some (86, true)), []⟩, ⟨(some 88), .b (.iad 4 (.r 87) (.c (.int .i64 1))), (some (86, true)), []⟩, ⟨(some 89), .b (.fad 1 (.r 88)), (some (86, true)), []⟩, ⟨(some 90), .b (.ld 1 false (.r 89)), (some (86, true)), []⟩, ⟨(some 91), .b (.bin .eql (.r 90) (.c (.int .u64 131072))), (some (86, true)), []⟩, op 92 (.pick (.r 86) (.r 91) (.c (.bool false))), op 93 (.mov (.r 92)), ⟨(some 94), .b (.mov (.r 4)), (some (93, true)), []⟩, ⟨(some 95), .b (.iad 4 (.r 94) (.c (.int .i64 0))), (some (93, true)), []⟩, ⟨(some 96), .b (.fad 1 (.r 95)), (some (93, true)), []⟩, ⟨(some 97), .b (.ld 1 false (.r 96)), (some (93, true)), []⟩, ⟨(some 98), .b (.bin .eql (.r 97) (.c (.int .u64 65536))), (some (93, true)), []⟩, op 99 (.pick (.r 93) (.r 98) (.c (.bool false))), op 0 (.mov (.r 99))]) <|
  .ret⟩
def an12 : An := ⟨[], [(14, [(0, true), (1, true), (2, true), (3, true), (4, true), (5, true), (6, true), (7, false), (8, true)])]⟩
def ir12 : Go.Rmp.Fn := ⟨64, 1, [.t 2],
  sq (.ops [op 2 (.mov (.c (.bool false)))]) <|
  sq (sq (.ops [op 9 (.mov (.r 0)), op 10 (.len .sl (.r 9)), op 11 (.bin .lss (.r 10) (.c (.int .i64 1))), op 12 (.mov (.r 11)), ⟨(some 13), .b (.mov (.r 0)), (some (12, false)), []⟩, ⟨(some 14), .b (.len .sl (.r 13)), (some (12, false)), []⟩, ⟨(some 15), .b (.bin .gtr (.r 14) (.c (.int .i64 1024))), (some (12, false)), []⟩, op 16 (.pick (.r 12) (.c (.bool true)) (.r 15))]) <|
  .cond (.r 16)
    (sq (.ops [op 2 (.mov (.c (.bool false)))]) <|
    .ret)
    (.skip)) <|
  sq (.ops [op 17 (.mkm), op 3 (.mov (.r 17))]) <|
  sq (.ops [op 18 (.mkm), op 4 (.mov (.r 18))]) <|
  sq (sq (.ops [op 19 (.mov (.r 0)), op 20 (.len .sl (.r 19)), op 21 (.mov (.c (.int .i64 0)))]) <|
  .block 0 (
    .loop (
      sq (.ops [op 22 (.bin .lss (.r 21) (.r 20))]) <|
      sq (.cond (.r 22)
        (.skip)
        (.exit 0)) <|
      sq (.block 1 (
        sq (.ops [op 23 (.mov (.r 21)), op 24 (.iad 4 (.r 19) (.r 21)), op 25 (.ld 4 true (.r 24)), op 6 (.alloc [.str ⟨#[]⟩, .int .u64 0, .str ⟨#[]⟩, .sl .nil []]), op 5 (.mov (.r 23)), ef (.st 4 (.r 6) (.r 25))]) <|
        sq (.ops [op 26 (.mov (.r 3)), op 27 (.fad 0 (.r 6)), op 28 (.ld 1 false (.r 27)), op 29 (.lkp (.sc .str) (.int .i64 0) false (.r 26) (.r 28)), op 30 (.bin .add (.r 29) (.c (.int .i64 1))), ef (.upm (.sc .str) (.r 26) (.r 28) (.r 30))]) <|
        sq (sq (.ops [op 31 (.ld 4 true (.r 6)), cl 32 28 [(.r 31)], op 33 (.un .not (.r 32)), op 34 (.mov (.r 33)), ⟨(some 35), .b (.mov (.r 3)), (some (34, false)), []⟩, ⟨(some 36), .b (.fad 0 (.r 6)), (some (34, false)), []⟩, ⟨(some 37), .b (.ld 1 false (.r 36)), (some (34, false)), []⟩, ⟨(some 38), .b (.lkp (.sc .str) (.int .i64 0) false (.r 35) (.r 37)), (some (34, false)), []⟩, ⟨(some 39), .b (.bin .gtr (.r 38) (.c (.int .i64 1))), (some (34, false)), []⟩, op 40 (.pick (.r 34) (.c (.bool true)) (.r 39))]) <|
        .cond (.r 40)
          (sq (.ops [op 2 (.mov (.c (.bool false)))]) <|
          .ret)
          (.skip)) <|
        sq (.ops [op 42 (.mov (.r 4)), op 43 (.fad 1 (.r 6)), op 44 (.ld 1 false (.r 43)), op 45 (.lkp (.sc .int) (.int .i64 0) true (.r 42) (.r 44)), op 41 (.mov (.r 45)), op 46 (.ext 0 (.r 41)), op 47 (.ext 1 (.r 41)), op 7 (.mov (.r 46)), op 8 (.mov (.r 47))]) <|
        sq (.ops [op 48 (.mov (.r 8)), op 49 (.un .not (.r 48))]) <|
        .cond (.r 49)
          (.ops [op 50 (.mov (.r 4)), op 51 (.fad 1 (.r 6)), op 52 (.ld 1 false (.r 51)), op 53 (.mov (.r 5)), ef (.upm (.sc .int) (.r 50) (.r 52) (.r 53))])
          (sq (.ops [op 54 (.mov (.r 0)), op 55 (.mov (.r 7)), op 56 (.iad 4 (.r 54) (.r 55)), op 57 (.fad 3 (.r 56)), op 58 (.ld 1 false (.r 57)), op 59 (.fad 3 (.r 6)), op 60 (.ld 1 false (.r 59)), cl 61 29 [(.r 58), (.r 60)], op 62 (.un .not (.r 61))]) <|
          .cond (.r 62)
            (sq (.ops [op 2 (.mov (.c (.bool false)))]) <|
            .ret)
            (.skip)))) <|
      .ops [op 63 (.bin .add (.r 21) (.c (.int .i64 1))), op 21 (.mov (.r 63))]))) <|
  sq (.ops [op 2 (.mov (.c (.bool true)))]) <|
  .ret⟩
def an14 : An := ⟨[], []⟩
def ir14 : Go.Rmp.Fn := ⟨17, 1, [.t 2],
  sq (.ops [op 2 (.mov (.c (.bool false)))]) <|
  sq (.ops [op 6 (.mov (.r 0)), cl 7 9 [(.r 6)], op 5 (.mov (.r 7)), op 8 (.ext 0 (.r 5)), op 9 (.ext 1 (.r 5)), op 3 (.mov (.r 8)), op 4 (.mov (.r 9))]) <|
  sq (.ops [op 10 (.mov (.r 4)), op 11 (.bin .eql (.r 10) (.c (.int .i64 0))), op 12 (.mov (.r 11)), ⟨(some 13), .b (.mov (.r 3)), (some (12, true)), []⟩, ⟨(some 14), .b (.len .sl (.r 13)), (some (12, true)), []⟩, ⟨(some 15), .b (.bin .eql (.r 14) (.c (.int .i64 0))), (some (12, true)), []⟩, op 16 (.pick (.r 12) (.r 15) (.c (.bool false))), op 2 (.mov (.r 16))]) <|
  .ret⟩
def an16 : An := ⟨[(19, 2), (19, 3)], []⟩
def ir16 : Go.Rmp.Fn := ⟨71, 2, [.t 4, .t 5],
  sq (.ops [op 4 (.mov (.c (.sl .nil []))), op 5 (.mov (.c (.int .i64 0)))]) <|
  sq (sq (.ops [op 15 (.mov (.r 0)), cl 16 12 [(.r 15)], op 17 (.un .not (.r 16))]) <|
  .cond (.r 17)
    (sq (.ops [op 4 (.mov (.c (.sl .nil []))), op 5 (.mov (.c (.int .i64 1)))]) <|
    .ret)
    (.skip)) <|
  sq (.ops [op 18 (.mkm), op 6 (.alloc [.nilm]), ef (.st 1 (.r 6) (.r 18))]) <|
  sq (sq (.ops [op 19 (.mov (.r 1)), cl 20 32 [(.r 19)]]) <|
  .block 0 (
    .rangeF 71 (.r 20) [21, 22]
      (sq (.ops [op 7 (.mov (.r 21))]) <|
      .ops [op 8 (.alloc [.str ⟨#[]⟩, .int .u64 0, .str ⟨#[]⟩, .sl .nil []]), ef (.st 4 (.r 8) (.r 22))])
      (.block 1 (
        .ops [op 23 (.ld 1 false (.r 6)), op 24 (.fad 0 (.r 8)), op 25 (.ld 1 false (.r 24)), op 26 (.fad 1 (.r 8)), op 27 (.ld 1 false (.r 26)), op 28 (.build [.str ⟨#[]⟩, .int .u64 0] [(0, 1, (.r 25)), (1, 1, (.r 27))]), op 29 (.mov (.r 7)), ef (.upm (.st [.str, .int]) (.r 23) (.r 28) (.r 29))])))) <|
  sq (.ops [op 9 (.mov (.c (.sl .nil [])))]) <|
  sq (sq (.ops [op 30 (.mov (.r 0)), cl 31 25 [(.r 30)], op 32 (.len .sl (.r 31)), op 33 (.mov (.c (.int .i64 0)))]) <|
  .block 2 (
    .loop (
      sq (.ops [op 34 (.bin .lss (.r 33) (.r 32))]) <|
      sq (.cond (.r 34)
        (.skip)
        (.exit 2)) <|
      sq (.block 3 (
        sq (.ops [op 35 (.mov (.r 33)), op 36 (.iad 1 (.r 31) (.r 33)), op 37 (.ld 1 false (.r 36)), op 10 (.mov (.r 35)), op 11 (.mov (.r 37))]) <|
        sq (.ops [op 38 (.mov (.r 0)), op 39 (.mov (.r 10)), op 40 (.iad 4 (.r 38) (.r 39)), op 41 (.ld 4 true (.r 40)), op 12 (.alloc [.str ⟨#[]⟩, .int .u64 0, .str ⟨#[]⟩, .sl .nil []]), ef (.st 4 (.r 12) (.r 41))]) <|
        sq (sq (.ops [op 42 (.mov (.r 11)), op 43 (.fad 1 (.r 12)), op 44 (.ld 1 false (.r 43)), op 45 (.bin .gtr (.r 42) (.r 44))]) <|
        .cond (.r 45)
          (sq (.ops [op 47 (.ld 1 false (.r 6)), op 48 (.fad 0 (.r 12)), op 49 (.ld 1 false (.r 48)), op 50 (.mov (.r 11)), op 51 (.build [.str ⟨#[]⟩, .int .u64 0] [(0, 1, (.r 49)), (1, 1, (.r 50))]), op 52 (.lkp (.st [.str, .int]) (.int .i64 0) true (.r 47) (.r 51)), op 46 (.mov (.r 52)), op 53 (.ext 0 (.r 46)), op 54 (.ext 1 (.r 46)), op 13 (.mov (.r 53)), op 14 (.mov (.r 54))]) <|
          sq (sq (.ops [op 55 (.mov (.r 14)), op 56 (.un .not (.r 55))]) <|
          .cond (.r 56)
            (sq (.ops [op 4 (.mov (.c (.sl .nil []))), op 5 (.mov (.c (.int .i64 110)))]) <|
            .ret)
            (.skip)) <|
          .ops [op 57 (.mov (.r 1)), op 58 (.mov (.r 13)), op 59 (.iad 4 (.r 57) (.r 58)), op 60 (.ld 4 true (.r 59)), ef (.st 4 (.r 12) (.r 60))])
          (.skip)) <|
        sq (.ops [op 61 (.fad 3 (.r 12)), op 62 (.ld 1 false (.r 61)), cl 63 33 [(.r 62)], op 64 (.fad 3 (.r 12)), ef (.st 1 (.r 64) (.r 63))]) <|
        .ops [op 65 (.mov (.r 9)), op 66 (.ld 4 true (.r 12)), op 67 (.bsm 1 [.str ⟨#[]⟩, .int .u64 0, .str ⟨#[]⟩, .sl .nil []] [(0, (.r 66))]), op 68 (.app 4 64 true (.r 65) (.r 67)), op 9 (.mov (.r 68))])) <|
      .ops [op 69 (.bin .add (.r 33) (.c (.int .i64 1))), op 33 (.mov (.r 69))]))) <|
  sq (.ops [op 70 (.mov (.r 9)), op 4 (.mov (.r 70)), op 5 (.mov (.c (.int .i64 0)))]) <|
  .ret⟩
def an18 : An := ⟨[], [(6, [(0, true), (1, true), (2, true), (3, true), (4, true), (5, true), (6, true), (7, true), (8, true), (9, true), (10, true), (11, true), (12, true), (13, true), (14, true), (15, true), (16, true), (17, true), (18, true), (19, true), (20, true), (21, true), (22, true), (23, true), (24, true), (25, true), (26, true), (27, true), (28, true), (29, true), (30, true), (31, true), (32, true), (33, true), (34, true), (35, true), (36, true), (37, true), (38, true), (39, true), (40, true), (41, true), (42, true), (43, true), (44, true), (45, true), (46, true), (47, true), (48, false), (49, true), (50, true)])]⟩
def ir18 : Go.Rmp.Fn := ⟨68, 2, [.t 4],
  sq (.ops [op 4 (.mov (.c (.bool false)))]) <|
  sq (sq (.ops [op 6 (.mov (.r 0)), op 7 (.len .sl (.r 6)), op 8 (.mov (.r 1)), op 9 (.len .sl (.r 8)), op 10 (.bin .neq (.r 7) (.r 9))]) <|
  .cond (.r 10)
    (sq (.ops [op 4 (.mov (.c (.bool false)))]) <|
    .ret)
    (.skip)) <|
  sq (sq (.ops [op 5 (.mov (.c (.int .i64 0)))]) <|
  .block 0 (
    .loop (
      sq (sq (.ops [op 11 (.mov (.r 5)), op 12 (.mov (.r 0)), op 13 (.len .sl (.r 12)), op 14 (.bin .lss (.r 11) (.r 13))]) <|
      .cond (.r 14)
        (.skip)
        (.exit 0)) <|
      sq (.block 1 (
        sq (.ops [op 17 (.mov (.r 0)), op 18 (.mov (.r 5)), op 19 (.iad 4 (.r 17) (.r 18)), op 20 (.fad 0 (.r 19)), op 21 (.ld 1 false (.r 20)), op 22 (.mov (.r 1)), op 23 (.mov (.r 5)), op 24 (.iad 4 (.r 22) (.r 23)), op 25 (.fad 0 (.r 24)), op 26 (.ld 1 false (.r 25)), op 27 (.bin .neq (.r 21) (.r 26)), op 28 (.mov (.r 27)), ⟨(some 29), .b (.mov (.r 0)), (some (28, false)), []⟩, ⟨(some 30), .b (.mov (.r 5)), (some (28, false)), []⟩, ⟨(some 31), .b (.iad 4 (.r 29) (.r 30)), (some (28, false)), []⟩, ⟨(some 32), .b (.fad 1 (.r 31)), (some (28, false)), []⟩, ⟨(some 33), .b (.ld 1 false (.r 32)), (some (28, false)), []⟩, ⟨(some 34), .b (.mov (.r 1)), (some (28, false)), []⟩, ⟨(some 35), .b (.mov (.r 5)), (some (28, false)), []⟩, ⟨(some 36), .b (.iad 4 (.r 34) (.r 35)), (some (28, false)), []⟩, ⟨(some 37), .b (.fad 1 (.r 36)), (some (28, false)), []⟩, ⟨(some 38), .b (.ld 1 false (.r 37)), (some (28, false)), []⟩, ⟨(some 39), .b (.bin .neq (.r 33) (.r 38)), (some (28, false)), []⟩, op 40 (.pick (.r 28) (.c (.bool true)) (.r 39)), op 41 (.mov (.r 40)), ⟨(some 42), .b (.mov (.r 0)), (some (41, false)), []⟩, ⟨(some 43), .b (.mov (.r 5)), (some (41, false)), []⟩, ⟨(some 44), .b (.iad 4 (.r 42) (.r 43)), (some (41, false)), []⟩, ⟨(some 45), .b (.fad 2 (.r 44)), (some (41, false)), []⟩, ⟨(some 46), .b (.ld 1 false (.r 45)), (some (41, false)), []⟩, ⟨(some 47), .b (.mov (.r 1)), (some (41, false)), []⟩, ⟨(some 48), .b (.mov (.r 5)), (some (41, false)), []⟩, ⟨(some 49), .b (.iad 4 (.r 47) (.r 48)), (some (41, false)), []⟩, ⟨(some 50), .b (.fad 2 (.r 49)), (some (41, false)), []⟩, ⟨(some 51), .b (.ld 1 false (.r 50)), (some (41, false)), []⟩, ⟨(some 52), .b (.bin .neq (.r 46) (.r 51)), (some (41, false)), []⟩, op 53 (.pick (.r 41) (.c (.bool true)) (.r 52)), op 54 (.mov (.r 53)), ⟨(some 55), .b (.mov (.r 0)), (some (54, false)), []⟩, ⟨(some 56), .b (.mov (.r 5)), (some (54, false)), []⟩, ⟨(some 57), .b (.iad 4 (.r 55) (.r 56)), (some (54, false)), []⟩, ⟨(some 58), .b (.fad 3 (.r 57)), (some (54, false)), []⟩, ⟨(some 59), .b (.ld 1 false (.r 58)), (some (54, false)), []⟩, ⟨(some 60), .b (.mov (.r 1)), (some (54, false)), []⟩, ⟨(some 61), .b (.mov (.r 5)), (some (54, false)), []⟩, ⟨(some 62), .b (.iad 4 (.r 60) (.r 61)), (some (54, false)), []⟩, ⟨(some 63), .b (.fad 3 (.r 62)), (some (54, false)), []⟩, ⟨(some 64), .b (.ld 1 false (.r 63)), (some (54, false)), []⟩, ⟨(some 65), .call 36 [(.r 59), (.r 64)], (some (54, false)), []⟩, ⟨(some 66), .b (.un .not (.r 65)), (some (54, false)), []⟩, op 67 (.pick (.r 54) (.c (.bool true)) (.r 66))]) <|
        .cond (.r 67)
          (sq (.ops [op 4 (.mov (.c (.bool false)))]) <|
          .ret)
          (.skip))) <|
      .ops [op 15 (.mov (.r 5)), op 16 (.bin .add (.r 15) (.c (.int .i64 1))), op 5 (.mov (.r 16))]))) <|
  sq (.ops [op 4 (.mov (.c (.bool true)))]) <|
  .ret⟩
def an19 : An := ⟨[(17, 10)], []⟩
def ir19 : Go.Rmp.Fn := ⟨82, 4, [.t 8],
  sq (.ops [op 8 (.mov (.c (.sl .nil [])))]) <|
  sq (.ops [op 16 (.mov (.r 1)), cl 17 22 [(.r 16)], op 9 (.mov (.r 17))]) <|
  sq (.ops [op 10 (.mov (.c (.sl .nil [])))]) <|
  sq (sq (.ops [op 11 (.mov (.c (.int .i64 0)))]) <|
  .block 0 (
    .loop (
      sq (sq (.ops [op 18 (.mov (.r 11)), op 19 (.mov (.r 9)), op 20 (.len .sl (.r 19)), op 21 (.bin .lss (.r 18) (.r 20))]) <|
      .cond (.r 21)
        (.skip)
        (.exit 0)) <|
      sq (.block 1 (
        sq (.ops [op 24 (.mov (.r 9)), op 25 (.mov (.r 11)), op 26 (.mov (.r 2)), op 27 (.mov (.r 9)), op 28 (.len .sl (.r 27)), op 29 (.bin .sub (.r 28) (.c (.int .i64 1))), cl 30 20 [(.r 26), (.r 29)], op 31 (.bin .add (.r 25) (.r 30)), op 32 (.mov (.r 9)), op 33 (.len .sl (.r 32)), op 34 (.bin .rem (.r 31) (.r 33)), op 35 (.iad 1 (.r 24) (.r 34)), op 36 (.ld 1 false (.r 35)), op 12 (.mov (.r 36))]) <|
        sq (.ops [op 13 (.mov (.c (.sl .nil [])))]) <|
        sq (.ops [op 37 (.mov (.r 13)), op 38 (.mov (.r 12)), op 39 (.build [.str ⟨#[]⟩, .int .u64 0, .str ⟨#[]⟩, .sl .nil []] [(0, 1, (.r 38))]), op 40 (.bsl 1 [.str ⟨#[]⟩, .int .u64 0, .str ⟨#[]⟩, .sl .nil []] [(0, (.r 39))]), op 41 (.app 4 64 false (.r 37) (.r 40)), op 13 (.mov (.r 41))]) <|
        sq (sq (.ops [op 14 (.mov (.c (.int .i64 0)))]) <|
        .block 2 (
          .loop (
            sq (sq (.ops [op 42 (.mov (.r 14)), op 43 (.mov (.r 0)), op 44 (.len .sl (.r 43)), op 45 (.bin .lss (.r 42) (.r 44))]) <|
            .cond (.r 45)
              (.skip)
              (.exit 2)) <|
            sq (.block 3 (
              sq (.ops [op 48 (.mov (.r 0)), op 49 (.mov (.r 14)), op 50 (.iad 1 (.r 48) (.r 49)), op 51 (.ld 1 false (.r 50)), cl 52 22 [(.r 51)], op 53 (.mov (.r 12)), cl 54 23 [(.r 52), (.r 53)]]) <|
              .cond (.r 54)
                (.ops [op 55 (.mov (.r 13)), op 56 (.mov (.r 0)), op 57 (.mov (.r 14)), op 58 (.mov (.r 12)), cl 59 21 [(.r 56), (.r 57), (.r 58)], op 60 (.bsl 1 [.str ⟨#[]⟩, .int .u64 0, .str ⟨#[]⟩, .sl .nil []] [(0, (.r 59))]), op 61 (.app 4 64 false (.r 55) (.r 60)), op 13 (.mov (.r 61))])
                (.skip))) <|
            .ops [op 46 (.mov (.r 14)), op 47 (.bin .add (.r 46) (.c (.int .i64 1))), op 14 (.mov (.r 47))]))) <|
        sq (.ops [op 15 (.mov (.c (.int .i64 0)))]) <|
        sq (sq (.ops [op 62 (.mov (.r 11)), op 63 (.mov (.r 3)), op 64 (.len .sl (.r 63)), op 65 (.bin .lss (.r 62) (.r 64))]) <|
        .cond (.r 65)
          (.ops [op 66 (.mov (.r 3)), op 67 (.mov (.r 11)), op 68 (.iad 1 (.r 66) (.r 67)), op 69 (.ld 1 false (.r 68)), op 15 (.mov (.r 69))])
          (.skip)) <|
        .ops [op 70 (.mov (.r 10)), op 71 (.mov (.r 13)), op 72 (.mov (.r 15)), op 73 (.mov (.r 13)), op 74 (.len .sl (.r 73)), op 75 (.bin .sub (.r 74) (.c (.int .i64 1))), cl 76 20 [(.r 72), (.r 75)], op 77 (.iad 4 (.r 71) (.r 76)), op 78 (.ld 4 true (.r 77)), op 79 (.bsl 1 [.str ⟨#[]⟩, .int .u64 0, .str ⟨#[]⟩, .sl .nil []] [(0, (.r 78))]), op 80 (.app 4 64 true (.r 70) (.r 79)), op 10 (.mov (.r 80))])) <|
      .ops [op 22 (.mov (.r 11)), op 23 (.bin .add (.r 22) (.c (.int .i64 1))), op 11 (.mov (.r 23))]))) <|
  sq (.ops [op 81 (.mov (.r 10)), op 8 (.mov (.r 81))]) <|
  .ret⟩
def an20 : An := ⟨[], []⟩
def ir20 : Go.Rmp.Fn := ⟨17, 2, [.t 4],
  sq (.ops [op 4 (.mov (.c (.int .i64 0)))]) <|
  sq (.ops [op 6 (.mov (.r 0)), op 7 (.mov (.r 1)), op 8 (.bin .add (.r 7) (.c (.int .i64 1))), op 9 (.bin .rem (.r 6) (.r 8)), op 5 (.mov (.r 9))]) <|
  sq (sq (.ops [op 10 (.mov (.r 5)), op 11 (.bin .lss (.r 10) (.c (.int .i64 0)))]) <|
  .cond (.r 11)
    (.ops [op 12 (.mov (.r 5)), op 13 (.mov (.r 1)), op 14 (.bin .add (.r 12) (.r 13)), op 15 (.bin .add (.r 14) (.c (.int .i64 1))), op 5 (.mov (.r 15))])
    (.skip)) <|
  sq (.ops [op 16 (.mov (.r 5)), op 4 (.mov (.r 16))]) <|
  .ret⟩
def an21 : An := ⟨[], [(1, [(0, true), (1, true), (2, true), (3, true), (4, true), (5, true), (6, true), (7, true), (8, true), (9, true), (10, true), (11, true), (12, true), (13, true), (14, true), (15, false), (16, true), (17, false)])]⟩
def ir21 : Go.Rmp.Fn := ⟨24, 3, [.cl 6 4 true],
  sq (.ops [op 6 (.alloc [.str ⟨#[]⟩, .int .u64 0, .str ⟨#[]⟩, .sl .nil []])]) <|
  sq (.ops [op 7 (.mov (.r 2)), op 8 (.mov (.r 1)), op 9 (.bin .add (.r 8) (.c (.int .i64 1))), op 10 (.bin .mul (.c (.int .i64 65536)) (.r 9)), op 11 (.cvi .u64 (.r 10)), op 12 (.mov (.r 2)), op 13 (.mov (.r 1)), op 14 (.cvi .u8 (.r 13)), op 15 (.bsl 1 [.int .u8 0] [(0, (.r 14))]), op 16 (.cvs (.r 15)), op 17 (.bin .add (.r 12) (.r 16)), op 18 (.mov (.r 0)), op 19 (.mov (.r 1)), op 20 (.iad 1 (.r 18) (.r 19)), op 21 (.ld 1 false (.r 20)), ⟨(some 22), .call 22 [(.r 21)], none, [⟨16, .cvs (.r 15), none⟩]⟩, op 23 (.build [.str ⟨#[]⟩, .int .u64 0, .str ⟨#[]⟩, .sl .nil []] [(0, 1, (.r 7)), (1, 1, (.r 11)), (2, 1, (.r 17)), (3, 1, (.r 22))]), ef (.st 4 (.r 6) (.r 23))]) <|
  .ret⟩
def an22 : An := ⟨[], []⟩
def ir22 : Go.Rmp.Fn := ⟨25, 1, [.t 2],
  sq (.ops [op 2 (.mov (.c (.sl .nil [])))]) <|
  sq (.ops [op 3 (.mov (.c (.sl .nil [])))]) <|
  sq (sq (.ops [op 4 (.mov (.c (.int .i64 0)))]) <|
  .block 0 (
    .loop (
      sq (sq (.ops [op 5 (.mov (.r 4)), op 6 (.bin .lss (.r 5) (.c (.int .i64 8)))]) <|
      .cond (.r 6)
        (.skip)
        (.exit 0)) <|
      sq (.block 1 (
        sq (.ops [op 9 (.mov (.r 0)), op 10 (.mov (.r 4)), op 11 (.bin .shr (.r 9) (.r 10)), op 12 (.bin .and (.r 11) (.c (.int .i64 1))), op 13 (.bin .eql (.r 12) (.c (.int .i64 1)))]) <|
        .cond (.r 13)
          (.ops [op 14 (.mov (.r 3)), op 15 (.mov (.r 4)), cl 16 37 [(.r 15)], op 17 (.bsl 1 [.str ⟨#[]⟩] [(0, (.r 16))]), op 18 (.app 1 16 false (.r 14) (.r 17)), op 3 (.mov (.r 18))])
          (.skip))) <|
      .ops [op 7 (.mov (.r 4)), op 8 (.bin .add (.r 7) (.c (.int .i64 1))), op 4 (.mov (.r 8))]))) <|
  sq (sq (.ops [op 19 (.mov (.r 3)), op 20 (.len .sl (.r 19)), op 21 (.bin .eql (.r 20) (.c (.int .i64 0)))]) <|
  .cond (.r 21)
    (sq (.ops [cl 22 37 [(.c (.int .i64 0))], op 23 (.bsl 1 [.str ⟨#[]⟩] [(0, (.r 22))]), op 2 (.mov (.r 23))]) <|
    .ret)
    (.skip)) <|
  sq (.ops [op 24 (.mov (.r 3)), op 2 (.mov (.r 24))]) <|
  .ret⟩
def an23 : An := ⟨[], []⟩
def ir23 : Go.Rmp.Fn := ⟨18, 2, [.t 4],
  sq (.ops [op 4 (.mov (.c (.bool false)))]) <|
  sq (sq (.ops [op 5 (.mov (.c (.int .i64 0)))]) <|
  .block 0 (
    .loop (
      sq (sq (.ops [op 6 (.mov (.r 5)), op 7 (.mov (.r 0)), op 8 (.len .sl (.r 7)), op 9 (.bin .lss (.r 6) (.r 8))]) <|
      .cond (.r 9)
        (.skip)
        (.exit 0)) <|
      sq (.block 1 (
        sq (.ops [op 12 (.mov (.r 0)), op 13 (.mov (.r 5)), op 14 (.iad 1 (.r 12) (.r 13)), op 15 (.ld 1 false (.r 14)), op 16 (.mov (.r 1)), op 17 (.bin .eql (.r 15) (.r 16))]) <|
        .cond (.r 17)
          (sq (.ops [op 4 (.mov (.c (.bool true)))]) <|
          .ret)
          (.skip))) <|
      .ops [op 10 (.mov (.r 5)), op 11 (.bin .add (.r 10) (.c (.int .i64 1))), op 5 (.mov (.r 11))]))) <|
  sq (.ops [op 4 (.mov (.c (.bool false)))]) <|
  .ret⟩
def an24 : An := ⟨[], [(8, [(0, true), (1, true), (2, true), (3, true), (4, true), (5, true), (6, false), (7, true), (8, false)]), (24, [(0, true), (1, true), (2, true), (3, true), (4, true), (5, true), (6, true), (7, true), (8, false), (9, true), (10, true), (11, true), (12, true), (13, true), (14, true), (15, true), (16, true), (17, true), (18, true), (19, true), (20, true), (21, true), (22, true), (23, true), (24, true), (25, true), (26, true), (27, false), (28, true), (29, true), (30, true)])]⟩
def ir24 : Go.Rmp.Fn := ⟨103, 1, [.t 2],
  sq (.ops [op 2 (.mov (.c (.bool false)))]) <|
  sq (.ops [op 3 (.mov (.c (.sl .nil [])))]) <|
  sq (sq (.ops [op 4 (.mov (.c (.int .i64 0)))]) <|
  .block 0 (
    .loop (
      sq (sq (.ops [op 11 (.mov (.r 4)), op 12 (.mov (.r 0)), op 13 (.len .sl (.r 12)), op 14 (.bin .lss (.r 11) (.r 13))]) <|
      .cond (.r 14)
        (.skip)
        (.exit 0)) <|
      sq (.block 1 (
        sq (.ops [op 5 (.mov (.c (.int .i64 0)))]) <|
        .block 2 (
          .loop (
            sq (sq (.ops [op 17 (.mov (.r 5)), op 18 (.mov (.r 0)), op 19 (.mov (.r 4)), op 20 (.iad 1 (.r 18) (.r 19)), op 21 (.ld 1 false (.r 20)), op 22 (.len .sl (.r 21)), op 23 (.bin .lss (.r 17) (.r 22))]) <|
            .cond (.r 23)
              (.skip)
              (.exit 2)) <|
            sq (.block 3 (
              .ops [op 26 (.mov (.r 0)), op 27 (.mov (.r 4)), op 28 (.iad 1 (.r 26) (.r 27)), op 29 (.ld 1 false (.r 28)), op 30 (.mov (.r 5)), op 31 (.mov (.r 4)), ⟨(some 32), .call 38 [(.r 31)], none, [⟨29, .ld 1 false (.r 28), none⟩]⟩, op 33 (.iad 1 (.r 29) (.r 30)), ef (.st 1 (.r 33) (.r 32))])) <|
            .ops [op 24 (.mov (.r 5)), op 25 (.bin .add (.r 24) (.c (.int .i64 1))), op 5 (.mov (.r 25))])))) <|
      .ops [op 15 (.mov (.r 4)), op 16 (.bin .add (.r 15) (.c (.int .i64 1))), op 4 (.mov (.r 16))]))) <|
  sq (sq (.ops [op 6 (.mov (.c (.int .i64 0)))]) <|
  .block 4 (
    .loop (
      sq (sq (.ops [op 34 (.mov (.r 6)), op 35 (.mov (.r 0)), op 36 (.len .sl (.r 35)), op 37 (.bin .lss (.r 34) (.r 36))]) <|
      .cond (.r 37)
        (.skip)
        (.exit 4)) <|
      sq (.block 5 (
        sq (.ops [op 40 (.mov (.r 0)), op 41 (.mov (.r 6)), op 42 (.iad 1 (.r 40) (.r 41)), op 43 (.ld 1 false (.r 42)), op 7 (.mov (.r 43))]) <|
        sq (sq (.ops [op 8 (.mov (.c (.int .i64 0)))]) <|
        .block 6 (
          .loop (
            sq (sq (.ops [op 44 (.mov (.r 8)), op 45 (.bin .lss (.r 44) (.c (.int .i64 30)))]) <|
            .cond (.r 45)
              (.skip)
              (.exit 6)) <|
            sq (.block 7 (
              .ops [op 48 (.mov (.r 7)), op 49 (.mov (.r 6)), cl 50 38 [(.r 49)], op 51 (.bsl 1 [.str ⟨#[]⟩] [(0, (.r 50))]), op 52 (.app 1 16 false (.r 48) (.r 51)), op 7 (.mov (.r 52))])) <|
            .ops [op 46 (.mov (.r 8)), op 47 (.bin .add (.r 46) (.c (.int .i64 1))), op 8 (.mov (.r 47))]))) <|
        .ops [op 53 (.mov (.r 3)), op 54 (.mov (.r 7)), op 55 (.bsl 1 [.sl .nil []] [(0, (.r 54))]), op 56 (.app 1 24 false (.r 53) (.r 55)), op 3 (.mov (.r 56))])) <|
      .ops [op 38 (.mov (.r 6)), op 39 (.bin .add (.r 38) (.c (.int .i64 1))), op 6 (.mov (.r 39))]))) <|
  sq (sq (.ops [op 9 (.mov (.c (.int .i64 0)))]) <|
  .block 8 (
    .loop (
      sq (sq (.ops [op 57 (.mov (.r 9)), op 58 (.mov (.r 0)), op 59 (.len .sl (.r 58)), op 60 (.bin .lss (.r 57) (.r 59))]) <|
      .cond (.r 60)
        (.skip)
        (.exit 8)) <|
      sq (.block 9 (
        sq (.ops [op 10 (.mov (.c (.int .i64 0)))]) <|
        .block 10 (
          .loop (
            sq (sq (.ops [op 63 (.mov (.r 10)), op 64 (.mov (.r 3)), op 65 (.mov (.r 9)), op 66 (.iad 1 (.r 64) (.r 65)), op 67 (.ld 1 false (.r 66)), op 68 (.len .sl (.r 67)), op 69 (.bin .lss (.r 63) (.r 68))]) <|
            .cond (.r 69)
              (.skip)
              (.exit 10)) <|
            sq (.block 11 (
              sq (.ops [op 72 (.mov (.r 3)), op 73 (.mov (.r 9)), op 74 (.iad 1 (.r 72) (.r 73)), op 75 (.ld 1 false (.r 74)), op 76 (.mov (.r 10)), op 77 (.iad 1 (.r 75) (.r 76)), op 78 (.ld 1 false (.r 77)), op 79 (.mov (.r 9)), ⟨(some 80), .call 38 [(.r 79)], none, [⟨75, .ld 1 false (.r 74), none⟩, ⟨78, .ld 1 false (.r 77), none⟩]⟩, op 81 (.bin .neq (.r 78) (.r 80)), op 82 (.mov (.r 81)), ⟨(some 83), .b (.mov (.r 10)), (some (82, false)), []⟩, ⟨(some 84), .b (.mov (.r 0)), (some (82, false)), []⟩, ⟨(some 85), .b (.mov (.r 9)), (some (82, false)), []⟩, ⟨(some 86), .b (.iad 1 (.r 84) (.r 85)), (some (82, false)), []⟩, ⟨(some 87), .b (.ld 1 false (.r 86)), (some (82, false)), []⟩, ⟨(some 88), .b (.len .sl (.r 87)), (some (82, false)), []⟩, ⟨(some 89), .b (.bin .lss (.r 83) (.r 88)), (some (82, false)), []⟩, ⟨(some 90), .b (.mov (.r 89)), (some (82, false)), []⟩, ⟨(some 91), .b (.mov (.r 0)), (some (90, true)), []⟩, ⟨(some 92), .b (.mov (.r 9)), (some (90, true)), []⟩, ⟨(some 93), .b (.iad 1 (.r 91) (.r 92)), (some (90, true)), []⟩, ⟨(some 94), .b (.ld 1 false (.r 93)), (some (90, true)), []⟩, ⟨(some 95), .b (.mov (.r 10)), (some (90, true)), []⟩, ⟨(some 96), .b (.iad 1 (.r 94) (.r 95)), (some (90, true)), []⟩, ⟨(some 97), .b (.ld 1 false (.r 96)), (some (90, true)), []⟩, ⟨(some 98), .b (.mov (.r 9)), (some (90, true)), []⟩, ⟨(some 99), .call 38 [(.r 98)], (some (90, true)), [⟨94, .ld 1 false (.r 93), (some (90, true))⟩, ⟨97, .ld 1 false (.r 96), (some (90, true))⟩]⟩, ⟨(some 100), .b (.bin .neq (.r 97) (.r 99)), (some (90, true)), []⟩, ⟨(some 101), .b (.pick (.r 90) (.r 100) (.c (.bool false))), (some (82, false)), []⟩, op 102 (.pick (.r 82) (.c (.bool true)) (.r 101))]) <|
              .cond (.r 102)
                (sq (.ops [op 2 (.mov (.c (.bool false)))]) <|
                .ret)
                (.skip))) <|
            .ops [op 70 (.mov (.r 10)), op 71 (.bin .add (.r 70) (.c (.int .i64 1))), op 10 (.mov (.r 71))])))) <|
      .ops [op 61 (.mov (.r 9)), op 62 (.bin .add (.r 61) (.c (.int .i64 1))), op 9 (.mov (.r 62))]))) <|
  sq (.ops [op 2 (.mov (.c (.bool true)))]) <|
  .ret⟩
def an25 : An := ⟨[(7, 2)], [(19, [(0, true), (1, true), (2, true), (3, true), (4, true), (5, true), (6, true), (7, true), (8, true), (9, true), (10, false)])]⟩
def ir25 : Go.Rmp.Fn := ⟨74, 1, [.t 2],
  sq (.ops [op 2 (.mov (.c (.sl .nil [])))]) <|
  sq (.ops [op 14 (.mkm), op 3 (.mov (.r 14))]) <|
  sq (sq (.ops [op 15 (.mov (.r 0)), op 16 (.len .sl (.r 15)), op 17 (.mov (.c (.int .i64 0)))]) <|
  .block 0 (
    .loop (
      sq (.ops [op 18 (.bin .lss (.r 17) (.r 16))]) <|
      sq (.cond (.r 18)
        (.skip)
        (.exit 0)) <|
      sq (.block 1 (
        sq (.ops [op 19 (.mov (.r 17)), op 20 (.iad 4 (.r 15) (.r 17)), op 21 (.ld 4 true (.r 20)), op 5 (.alloc [.str ⟨#[]⟩, .int .u64 0, .str ⟨#[]⟩, .sl .nil []]), op 4 (.mov (.r 19)), ef (.st 4 (.r 5) (.r 21))]) <|
        .ops [op 22 (.mov (.r 3)), op 23 (.fad 0 (.r 5)), op 24 (.ld 1 false (.r 23)), op 25 (.mov (.r 4)), ef (.upm (.sc .str) (.r 22) (.r 24) (.r 25))])) <|
      .ops [op 26 (.bin .add (.r 17) (.c (.int .i64 1))), op 17 (.mov (.r 26))]))) <|
  sq (.ops [op 27 (.mov (.r 0)), op 28 (.len .sl (.r 27)), op 29 (.mks true 8 [.int .u64 0] (.r 28) (.r 28)), op 6 (.mov (.r 29))]) <|
  sq (.ops [op 30 (.mkm), op 7 (.mov (.r 30))]) <|
  sq (sq (.ops [op 31 (.mov (.r 0)), op 32 (.len .sl (.r 31)), op 33 (.mov (.c (.int .i64 0)))]) <|
  .block 2 (
    .loop (
      sq (.ops [op 34 (.bin .lss (.r 33) (.r 32))]) <|
      sq (.cond (.r 34)
        (.skip)
        (.exit 2)) <|
      sq (.block 3 (
        sq (.ops [op 35 (.iad 4 (.r 31) (.r 33)), op 36 (.ld 4 true (.r 35)), op 9 (.alloc [.str ⟨#[]⟩, .int .u64 0, .str ⟨#[]⟩, .sl .nil []]), ef (.st 4 (.r 9) (.r 36))]) <|
        sq (sq (.ops [op 37 (.mov (.r 7)), op 38 (.fad 1 (.r 9)), op 39 (.ld 1 false (.r 38)), op 40 (.lkp (.sc .int) (.int .i64 0) false (.r 37) (.r 39)), op 41 (.bin .add (.r 40) (.c (.int .i64 1))), ef (.upm (.sc .int) (.r 37) (.r 39) (.r 41))]) <|
        sq (.ops [op 42 (.mov (.r 7)), op 43 (.fad 1 (.r 9)), op 44 (.ld 1 false (.r 43)), op 45 (.lkp (.sc .int) (.int .i64 0) false (.r 42) (.r 44)), op 46 (.bin .gtr (.r 45) (.c (.int .i64 1)))]) <|
        .cond (.r 46)
          (.exit 3)
          (.skip)) <|
        sq (.ops [op 47 (.fad 3 (.r 9)), op 48 (.ld 1 false (.r 47)), op 49 (.len .sl (.r 48)), op 50 (.mov (.c (.int .i64 0)))]) <|
        .block 4 (
          .loop (
            sq (.ops [op 51 (.bin .lss (.r 50) (.r 49))]) <|
            sq (.cond (.r 51)
              (.skip)
              (.exit 4)) <|
            sq (.block 5 (
              sq (.ops [op 52 (.iad 1 (.r 48) (.r 50)), op 53 (.ld 1 false (.r 52)), op 11 (.mov (.r 53))]) <|
              sq (.ops [op 55 (.mov (.r 3)), op 56 (.mov (.r 11)), op 57 (.lkp (.sc .str) (.int .i64 0) true (.r 55) (.r 56)), op 54 (.mov (.r 57)), op 58 (.ext 0 (.r 54)), op 59 (.ext 1 (.r 54)), op 12 (.mov (.r 58)), op 13 (.mov (.r 59))]) <|
              sq (.ops [op 60 (.mov (.r 13))]) <|
              .cond (.r 60)
                (.ops [op 61 (.mov (.r 6)), op 62 (.mov (.r 12)), op 63 (.mov (.r 6)), op 64 (.mov (.r 12)), op 65 (.iad 1 (.r 63) (.r 64)), op 66 (.ld 1 false (.r 65)), op 67 (.fad 1 (.r 9)), op 68 (.ld 1 false (.r 67)), op 69 (.mx (.r 66) (.r 68)), op 70 (.iad 1 (.r 61) (.r 62)), ef (.st 1 (.r 70) (.r 69))])
                (.skip))) <|
            .ops [op 71 (.bin .add (.r 50) (.c (.int .i64 1))), op 50 (.mov (.r 71))])))) <|
      .ops [op 72 (.bin .add (.r 33) (.c (.int .i64 1))), op 33 (.mov (.r 72))]))) <|
  sq (.ops [op 73 (.mov (.r 6)), op 2 (.mov (.r 73))]) <|
  .ret⟩
def an27 : An := ⟨[], []⟩
def ir27 : Go.Rmp.Fn := ⟨16, 3, [.cl 6 4 true],
  sq (.ops [op 6 (.alloc [.str ⟨#[]⟩, .int .u64 0, .str ⟨#[]⟩, .sl .nil []])]) <|
  sq (.ops [op 8 (.mov (.r 0)), op 9 (.mov (.r 1)), op 10 (.mov (.r 2)), op 11 (.build [.str ⟨#[]⟩, .int .u64 0, .str ⟨#[]⟩, .sl .nil []] [(0, 1, (.r 8)), (1, 1, (.r 9)), (3, 1, (.r 10))]), op 7 (.alloc [.str ⟨#[]⟩, .int .u64 0, .str ⟨#[]⟩, .sl .nil []]), ef (.st 4 (.r 7) (.r 11))]) <|
  sq (sq (.ops [op 12 (.mov (.r 1)), op 13 (.bin .neq (.r 12) (.c (.int .u64 0)))]) <|
  .cond (.r 13)
    (.ops [op 14 (.fad 2 (.r 7)), ef (.st 1 (.r 14) (.c (.str ⟨#[118]⟩)))])
    (.skip)) <|
  sq (.ops [op 15 (.ld 4 true (.r 7)), ef (.st 4 (.r 6) (.r 15))]) <|
  .ret⟩
def an28 : An := ⟨[], []⟩
def ir28 : Go.Rmp.Fn := ⟨30, 1, [.t 2],
  sq (.ops [op 1 (.box (.r 0)), op 2 (.mov (.c (.bool false)))]) <|
  sq (sq (.ops [op 3 (.fad 1 (.r 1)), op 4 (.ld 1 false (.r 3)), op 5 (.bin .eql (.r 4) (.c (.int .u64 0)))]) <|
  .cond (.r 5)
    (sq (.ops [op 6 (.fad 2 (.r 1)), op 7 (.ld 1 false (.r 6)), op 8 (.bin .eql (.r 7) (.c (.str ⟨#[]⟩))), op 9 (.mov (.r 8)), ⟨(some 10), .b (.fad 3 (.r 1)), (some (9, true)), []⟩, ⟨(some 11), .b (.ld 1 false (.r 10)), (some (9, true)), []⟩, ⟨(some 12), .b (.len .sl (.r 11)), (some (9, true)), []⟩, ⟨(some 13), .b (.bin .eql (.r 12) (.c (.int .i64 0))), (some (9, true)), []⟩, op 14 (.pick (.r 9) (.r 13) (.c (.bool false))), op 2 (.mov (.r 14))]) <|
    .ret)
    (.skip)) <|
  sq (.ops [op 15 (.fad 1 (.r 1)), op 16 (.ld 1 false (.r 15)), op 17 (.bin .geq (.r 16) (.c (.int .u64 65536))), op 18 (.mov (.r 17)), ⟨(some 19), .b (.fad 3 (.r 1)), (some (18, true)), []⟩, ⟨(some 20), .b (.ld 1 false (.r 19)), (some (18, true)), []⟩, ⟨(some 21), .call 39 [(.r 20)], (some (18, true)), []⟩, op 22 (.pick (.r 18) (.r 21) (.c (.bool false))), op 23 (.mov (.r 22)), ⟨(some 24), .b (.fad 3 (.r 1)), (some (23, true)), []⟩, ⟨(some 25), .b (.ld 1 false (.r 24)), (some (23, true)), []⟩, ⟨(some 26), .b (.fad 0 (.r 1)), (some (23, true)), []⟩, ⟨(some 27), .b (.ld 1 false (.r 26)), (some (23, true)), []⟩, ⟨(some 28), .call 40 [(.r 25), (.r 27)], (some (23, true)), []⟩, op 29 (.pick (.r 23) (.r 28) (.c (.bool false))), op 2 (.mov (.r 29))]) <|
  .ret⟩
def an29 : An := ⟨[], [(6, [(0, true), (1, true), (2, true), (3, true), (4, true), (5, true), (6, true), (7, true), (8, true)])]⟩
def ir29 : Go.Rmp.Fn := ⟨26, 2, [.t 4],
  sq (.ops [op 4 (.mov (.c (.bool false)))]) <|
  sq (sq (.ops [op 6 (.mov (.r 0)), op 7 (.len .sl (.r 6)), op 8 (.mov (.r 1)), op 9 (.len .sl (.r 8)), op 10 (.bin .neq (.r 7) (.r 9))]) <|
  .cond (.r 10)
    (sq (.ops [op 4 (.mov (.c (.bool false)))]) <|
    .ret)
    (.skip)) <|
  sq (sq (.ops [op 11 (.mov (.r 0)), op 12 (.len .sl (.r 11)), op 13 (.mov (.c (.int .i64 0)))]) <|
  .block 0 (
    .loop (
      sq (.ops [op 14 (.bin .lss (.r 13) (.r 12))]) <|
      sq (.cond (.r 14)
        (.skip)
        (.exit 0)) <|
      sq (.block 1 (
        sq (.ops [op 15 (.mov (.r 13)), op 5 (.mov (.r 15))]) <|
        sq (.ops [op 16 (.mov (.r 0)), op 17 (.mov (.r 5)), op 18 (.iad 1 (.r 16) (.r 17)), op 19 (.ld 1 false (.r 18)), op 20 (.mov (.r 1)), op 21 (.mov (.r 5)), op 22 (.iad 1 (.r 20) (.r 21)), op 23 (.ld 1 false (.r 22)), op 24 (.bin .neq (.r 19) (.r 23))]) <|
        .cond (.r 24)
          (sq (.ops [op 4 (.mov (.c (.bool false)))]) <|
          .ret)
          (.skip))) <|
      .ops [op 25 (.bin .add (.r 13) (.c (.int .i64 1))), op 13 (.mov (.r 25))]))) <|
  sq (.ops [op 4 (.mov (.c (.bool true)))]) <|
  .ret⟩
def an32 : An := ⟨[], []⟩
def ir32 : Go.Rmp.Fn := ⟨4, 1, [.t 2],
  sq (.ops [op 1 (.box (.r 0)), op 2 (.mov (.c .nilf))]) <|
  sq (.ops [op 3 (.mkf 43 [(.r 1)]), op 2 (.mov (.r 3))]) <|
  .ret⟩
def an33 : An := ⟨[(3, 2)], []⟩
def ir33 : Go.Rmp.Fn := ⟨8, 1, [.t 2],
  sq (.ops [op 2 (.mov (.c (.sl .nil [])))]) <|
  sq (sq (.ops [op 3 (.mov (.r 0)), op 4 (.eqr false .slice (.r 3) (.c (.sl .nil [])))]) <|
  .cond (.r 4)
    (sq (.ops [op 2 (.mov (.c (.sl .nil [])))]) <|
    .ret)
    (.skip)) <|
  sq (.ops [op 5 (.bsl 0 [.str ⟨#[]⟩] []), op 6 (.mov (.r 0)), op 7 (.app 1 16 true (.r 5) (.r 6)), op 2 (.mov (.r 7))]) <|
  .ret⟩
def an36 : An := ⟨[], [(6, [(0, true), (1, true), (2, true), (3, true), (4, true), (5, true), (6, true), (7, true), (8, true)])]⟩
def ir36 : Go.Rmp.Fn := ⟨26, 2, [.t 4],
  sq (.ops [op 4 (.mov (.c (.bool false)))]) <|
  sq (sq (.ops [op 6 (.mov (.r 0)), op 7 (.len .sl (.r 6)), op 8 (.mov (.r 1)), op 9 (.len .sl (.r 8)), op 10 (.bin .neq (.r 7) (.r 9))]) <|
  .cond (.r 10)
    (sq (.ops [op 4 (.mov (.c (.bool false)))]) <|
    .ret)
    (.skip)) <|
  sq (sq (.ops [op 5 (.mov (.c (.int .i64 0)))]) <|
  .block 0 (
    .loop (
      sq (sq (.ops [op 11 (.mov (.r 5)), op 12 (.mov (.r 0)), op 13 (.len .sl (.r 12)), op 14 (.bin .lss (.r 11) (.r 13))]) <|
      .cond (.r 14)
        (.skip)
        (.exit 0)) <|
      sq (.block 1 (
        sq (.ops [op 17 (.mov (.r 0)), op 18 (.mov (.r 5)), op 19 (.iad 1 (.r 17) (.r 18)), op 20 (.ld 1 false (.r 19)), op 21 (.mov (.r 1)), op 22 (.mov (.r 5)), op 23 (.iad 1 (.r 21) (.r 22)), op 24 (.ld 1 false (.r 23)), op 25 (.bin .neq (.r 20) (.r 24))]) <|
        .cond (.r 25)
          (sq (.ops [op 4 (.mov (.c (.bool false)))]) <|
          .ret)
          (.skip))) <|
      .ops [op 15 (.mov (.r 5)), op 16 (.bin .add (.r 15) (.c (.int .i64 1))), op 5 (.mov (.r 16))]))) <|
  sq (.ops [op 4 (.mov (.c (.bool true)))]) <|
  .ret⟩
def an37 : An := ⟨[], []⟩
def ir37 : Go.Rmp.Fn := ⟨8, 1, [.t 2],
  sq (.ops [op 2 (.mov (.c (.str ⟨#[]⟩)))]) <|
  sq (.ops [op 3 (.mov (.r 0)), op 4 (.bin .add (.c (.int .i64 97)) (.r 3)), op 5 (.cvi .u8 (.r 4)), op 6 (.bsl 1 [.int .u8 0] [(0, (.r 5))]), op 7 (.cvs (.r 6)), op 2 (.mov (.r 7))]) <|
  .ret⟩
def an38 : An := ⟨[], []⟩
def ir38 : Go.Rmp.Fn := ⟨7, 1, [.t 2],
  sq (.ops [op 2 (.mov (.c (.str ⟨#[]⟩)))]) <|
  sq (.ops [op 3 (.mov (.r 0)), op 4 (.cvi .u8 (.r 3)), op 5 (.bsl 3 [.int .u8 0] [(0, (.r 4)), (1, (.c (.int .u8 7))), (2, (.c (.int .u8 7)))]), op 6 (.cvs (.r 5)), op 2 (.mov (.r 6))]) <|
  .ret⟩
def an39 : An := ⟨[], [(4, [(0, true), (1, true), (2, true), (3, true), (4, true), (5, true), (6, true), (7, true), (8, true), (9, true)])]⟩
def ir39 : Go.Rmp.Fn := ⟨23, 1, [.t 2],
  sq (.ops [op 2 (.mov (.c (.bool false)))]) <|
  sq (sq (.ops [op 3 (.mov (.c (.int .i64 1)))]) <|
  .block 0 (
    .loop (
      sq (sq (.ops [op 4 (.mov (.r 3)), op 5 (.mov (.r 0)), op 6 (.len .sl (.r 5)), op 7 (.bin .lss (.r 4) (.r 6))]) <|
      .cond (.r 7)
        (.skip)
        (.exit 0)) <|
      sq (.block 1 (
        sq (.ops [op 10 (.mov (.r 0)), op 11 (.mov (.r 3)), op 12 (.iad 1 (.r 10) (.r 11)), op 13 (.ld 1 false (.r 12)), op 14 (.mov (.r 0)), op 15 (.mov (.r 3)), op 16 (.bin .sub (.r 15) (.c (.int .i64 1))), op 17 (.iad 1 (.r 14) (.r 16)), op 18 (.ld 1 false (.r 17)), op 19 (.bin .leq (.r 13) (.r 18))]) <|
        .cond (.r 19)
          (sq (.ops [op 2 (.mov (.c (.bool false)))]) <|
          .ret)
          (.skip))) <|
      .ops [op 8 (.mov (.r 3)), op 9 (.bin .add (.r 8) (.c (.int .i64 1))), op 3 (.mov (.r 9))]))) <|
  sq (.ops [op 20 (.mov (.r 0)), op 21 (.len .sl (.r 20)), op 22 (.bin .leq (.r 21) (.c (.int .i64 1024))), op 2 (.mov (.r 22))]) <|
  .ret⟩
def an40 : An := ⟨[], []⟩
def ir40 : Go.Rmp.Fn := ⟨14, 2, [.t 4],
  sq (.ops [op 4 (.mov (.c (.bool false)))]) <|
  sq (.ops [op 8 (.mov (.r 0)), op 9 (.mov (.r 1)), cl 10 44 [(.r 8), (.r 9)], op 7 (.mov (.r 10)), op 11 (.ext 0 (.r 7)), op 12 (.ext 1 (.r 7)), op 5 (.mov (.r 11)), op 6 (.mov (.r 12))]) <|
  sq (.ops [op 13 (.mov (.r 6)), op 4 (.mov (.r 13))]) <|
  .ret⟩
def an43 : An := ⟨[], []⟩
def ir43 : Go.Rmp.Fn := ⟨19, 2, [],
  sq (.ops [op 4 (.ld 1 false (.r 1)), op 5 (.len .sl (.r 4)), op 6 (.bin .sub (.r 5) (.c (.int .i64 1))), op 3 (.mov (.r 6))]) <|
  .block 0 (
    .loop (
      sq (sq (.ops [op 7 (.mov (.r 3)), op 8 (.bin .geq (.r 7) (.c (.int .i64 0)))]) <|
      .cond (.r 8)
        (.skip)
        (.exit 0)) <|
      sq (.block 1 (
        sq (.ops [op 11 (.mov (.r 0)), op 12 (.mov (.r 3)), op 13 (.ld 1 false (.r 1)), op 14 (.mov (.r 3)), op 15 (.iad 4 (.r 13) (.r 14)), op 16 (.ld 4 true (.r 15)), ⟨(some 17), .callv (.r 11) [(.r 12), (.r 16)], none, []⟩, op 18 (.un .not (.r 17))]) <|
        .cond (.r 18)
          (.ret)
          (.skip))) <|
      .ops [op 9 (.mov (.r 3)), op 10 (.bin .sub (.r 9) (.c (.int .i64 1))), op 3 (.mov (.r 10))]))⟩
def an44 : An := ⟨[], []⟩
def ir44 : Go.Rmp.Fn := ⟨54, 2, [.t 4, .t 5],
  sq (.ops [op 4 (.mov (.c (.int .i64 0))), op 5 (.mov (.c (.bool false)))]) <|
  sq (.ops [op 10 (.mov (.r 0)), op 11 (.len .sl (.r 10)), op 6 (.mov (.r 11))]) <|
  sq (.ops [op 12 (.mov (.r 6)), op 7 (.mov (.c (.int .i64 0))), op 8 (.mov (.r 12))]) <|
  sq (.block 0 (
    .loop (
      sq (sq (.ops [op 13 (.mov (.r 7)), op 14 (.mov (.r 8)), op 15 (.bin .lss (.r 13) (.r 14))]) <|
      .cond (.r 15)
        (.skip)
        (.exit 0)) <|
      .block 1 (
        sq (.ops [op 16 (.mov (.r 7)), op 17 (.mov (.r 8)), op 18 (.bin .add (.r 16) (.r 17)), op 19 (.cvi .u64 (.r 18)), op 20 (.bin .shr (.r 19) (.c (.int .u64 1))), op 21 (.cvi .i64 (.r 20)), op 9 (.mov (.r 21))]) <|
        sq (.ops [op 22 (.mov (.r 0)), op 23 (.mov (.r 9)), op 24 (.iad 1 (.r 22) (.r 23)), op 25 (.ld 1 false (.r 24)), op 26 (.mov (.r 1)), cl 27 45 [(.r 25), (.r 26)]]) <|
        .cond (.r 27)
          (.ops [op 28 (.mov (.r 9)), op 29 (.bin .add (.r 28) (.c (.int .i64 1))), op 7 (.mov (.r 29))])
          (.ops [op 30 (.mov (.r 9)), op 8 (.mov (.r 30))]))))) <|
  sq (.ops [op 31 (.mov (.r 7)), op 32 (.mov (.r 7)), op 33 (.mov (.r 6)), op 34 (.bin .lss (.r 32) (.r 33)), op 35 (.mov (.r 34)), ⟨(some 36), .b (.mov (.r 0)), (some (35, true)), []⟩, ⟨(some 37), .b (.mov (.r 7)), (some (35, true)), []⟩, ⟨(some 38), .b (.iad 1 (.r 36) (.r 37)), (some (35, true)), []⟩, ⟨(some 39), .b (.ld 1 false (.r 38)), (some (35, true)), []⟩, ⟨(some 40), .b (.mov (.r 1)), (some (35, true)), []⟩, ⟨(some 41), .b (.bin .eql (.r 39) (.r 40)), (some (35, true)), []⟩, ⟨(some 42), .b (.mov (.r 41)), (some (35, true)), []⟩, ⟨(some 43), .b (.mov (.r 0)), (some (42, false)), []⟩, ⟨(some 44), .b (.mov (.r 7)), (some (42, false)), []⟩, ⟨(some 45), .b (.iad 1 (.r 43) (.r 44)), (some (42, false)), []⟩, ⟨(some 46), .b (.ld 1 false (.r 45)), (some (42, false)), []⟩, ⟨(some 47), .call 46 [(.r 46)], (some (42, false)), []⟩, ⟨(some 48), .b (.mov (.r 47)), (some (42, false)), []⟩, ⟨(some 49), .b (.mov (.r 1)), (some (48, true)), []⟩, ⟨(some 50), .call 46 [(.r 49)], (some (48, true)), []⟩, ⟨(some 51), .b (.pick (.r 48) (.r 50) (.c (.bool false))), (some (42, false)), []⟩, ⟨(some 52), .b (.pick (.r 42) (.c (.bool true)) (.r 51)), (some (35, true)), []⟩, op 53 (.pick (.r 35) (.r 52) (.c (.bool false))), op 4 (.mov (.r 31)), op 5 (.mov (.r 53))]) <|
  .ret⟩
def an45 : An := ⟨[], []⟩
def ir45 : Go.Rmp.Fn := ⟨17, 2, [.t 4],
  sq (.ops [op 4 (.mov (.c (.bool false)))]) <|
  sq (.ops [op 5 (.mov (.r 0)), cl 6 47 [(.r 5)], op 7 (.mov (.r 6)), ⟨(some 8), .b (.mov (.r 1)), (some (7, true)), []⟩, ⟨(some 9), .call 47 [(.r 8)], (some (7, true)), []⟩, ⟨(some 10), .b (.un .not (.r 9)), (some (7, true)), []⟩, op 11 (.pick (.r 7) (.r 10) (.c (.bool false))), op 12 (.mov (.r 11)), ⟨(some 13), .b (.mov (.r 0)), (some (12, false)), []⟩, ⟨(some 14), .b (.mov (.r 1)), (some (12, false)), []⟩, ⟨(some 15), .b (.bin .lss (.r 13) (.r 14)), (some (12, false)), []⟩, op 16 (.pick (.r 12) (.c (.bool true)) (.r 15)), op 4 (.mov (.r 16))]) <|
  .ret⟩
def an46 : An := ⟨[], []⟩
def ir46 : Go.Rmp.Fn := ⟨6, 1, [.t 2],
  sq (.ops [op 2 (.mov (.c (.bool false)))]) <|
  sq (.ops [op 3 (.mov (.r 0)), op 4 (.mov (.r 0)), op 5 (.bin .neq (.r 3) (.r 4)), op 2 (.mov (.r 5))]) <|
  .ret⟩
def an47 : An := ⟨[], []⟩
def ir47 : Go.Rmp.Fn := ⟨6, 1, [.t 2],
  sq (.ops [op 2 (.mov (.c (.bool false)))]) <|
  sq (.ops [op 3 (.mov (.r 0)), op 4 (.mov (.r 0)), op 5 (.bin .neq (.r 3) (.r 4)), op 2 (.mov (.r 5))]) <|
  .ret⟩
theorem c8 : compFn Try.prog an8 8 = some ir8 := by kernel_rfl
theorem c9 : compFn Try.prog an9 9 = some ir9 := by kernel_rfl
theorem c11 : compFn Try.prog an11 11 = some ir11 := by kernel_rfl
theorem c12 : compFn Try.prog an12 12 = some ir12 := by kernel_rfl
theorem c14 : compFn Try.prog an14 14 = some ir14 := by kernel_rfl
theorem c16 : compFn Try.prog an16 16 = some ir16 := by kernel_rfl
theorem c18 : compFn Try.prog an18 18 = some ir18 := by kernel_rfl
theorem c19 : compFn Try.prog an19 19 = some ir19 := by kernel_rfl
theorem c20 : compFn Try.prog an20 20 = some ir20 := by kernel_rfl
theorem c21 : compFn Try.prog an21 21 = some ir21 := by kernel_rfl
theorem c22 : compFn Try.prog an22 22 = some ir22 := by kernel_rfl
theorem c23 : compFn Try.prog an23 23 = some ir23 := by kernel_rfl
theorem c24 : compFn Try.prog an24 24 = some ir24 := by kernel_rfl
theorem c25 : compFn Try.prog an25 25 = some ir25 := by kernel_rfl
theorem c27 : compFn Try.prog an27 27 = some ir27 := by kernel_rfl
theorem c28 : compFn Try.prog an28 28 = some ir28 := by kernel_rfl
theorem c29 : compFn Try.prog an29 29 = some ir29 := by kernel_rfl
theorem c32 : compFn Try.prog an32 32 = some ir32 := by kernel_rfl
theorem c33 : compFn Try.prog an33 33 = some ir33 := by kernel_rfl
theorem c36 : compFn Try.prog an36 36 = some ir36 := by kernel_rfl
theorem c37 : compFn Try.prog an37 37 = some ir37 := by kernel_rfl
theorem c38 : compFn Try.prog an38 38 = some ir38 := by kernel_rfl
theorem c39 : compFn Try.prog an39 39 = some ir39 := by kernel_rfl
theorem c40 : compFn Try.prog an40 40 = some ir40 := by kernel_rfl
theorem c43 : compFn Try.prog an43 43 = some ir43 := by kernel_rfl
theorem c44 : compFn Try.prog an44 44 = some ir44 := by kernel_rfl
theorem c45 : compFn Try.prog an45 45 = some ir45 := by kernel_rfl
theorem c46 : compFn Try.prog an46 46 = some ir46 := by kernel_rfl
theorem c47 : compFn Try.prog an47 47 = some ir47 := by kernel_rfl
def envFn : Nat → Option Go.Rmp.Fn
  | 8 => some ir8
  | 9 => some ir9
  | 11 => some ir11
  | 12 => some ir12
  | 14 => some ir14
  | 16 => some ir16
  | 18 => some ir18
  | 19 => some ir19
  | 20 => some ir20
  | 21 => some ir21
  | 22 => some ir22
  | 23 => some ir23
  | 24 => some ir24
  | 25 => some ir25
  | 27 => some ir27
  | 28 => some ir28
  | 29 => some ir29
  | 32 => some ir32
  | 33 => some ir33
  | 36 => some ir36
  | 37 => some ir37
  | 38 => some ir38
  | 39 => some ir39
  | 40 => some ir40
  | 43 => some ir43
  | 44 => some ir44
  | 45 => some ir45
  | 46 => some ir46
  | 47 => some ir47
  | _ => none
def env : Env := ⟨envFn, fun _ _ _ _ => False, fun _ _ _ _ _ h _ => h⟩
theorem envOk {w0 : World} : EnvOk Try.prog env w0 where
  mixed := by kernel_rfl
  fn := by
    intro f fn h
    simp only [env, envFn] at h
    split at h
    · cases h; exact ⟨_, c8⟩
    · cases h; exact ⟨_, c9⟩
    · cases h; exact ⟨_, c11⟩
    · cases h; exact ⟨_, c12⟩
    · cases h; exact ⟨_, c14⟩
    · cases h; exact ⟨_, c16⟩
    · cases h; exact ⟨_, c18⟩
    · cases h; exact ⟨_, c19⟩
    · cases h; exact ⟨_, c20⟩
    · cases h; exact ⟨_, c21⟩
    · cases h; exact ⟨_, c22⟩
    · cases h; exact ⟨_, c23⟩
    · cases h; exact ⟨_, c24⟩
    · cases h; exact ⟨_, c25⟩
    · cases h; exact ⟨_, c27⟩
    · cases h; exact ⟨_, c28⟩
    · cases h; exact ⟨_, c29⟩
    · cases h; exact ⟨_, c32⟩
    · cases h; exact ⟨_, c33⟩
    · cases h; exact ⟨_, c36⟩
    · cases h; exact ⟨_, c37⟩
    · cases h; exact ⟨_, c38⟩
    · cases h; exact ⟨_, c39⟩
    · cases h; exact ⟨_, c40⟩
    · cases h; exact ⟨_, c43⟩
    · cases h; exact ⟨_, c44⟩
    · cases h; exact ⟨_, c45⟩
    · cases h; exact ⟨_, c46⟩
    · cases h; exact ⟨_, c47⟩
    · cases h
  prim := by intro f az H Q h; exact h.elim
end Go.Proofs.Ytobnjpgggocdlaa.Ir
end
